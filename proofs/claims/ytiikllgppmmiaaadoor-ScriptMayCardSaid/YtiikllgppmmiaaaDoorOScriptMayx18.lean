/- What Go functions that the law ScriptMay uses come to, and why: part 18. Made out of the kit's print by a program of this session (wip/tools/stub.py, splice.py), functions that it does not take told by hand. -/
import Derived.Test.YtiikllgppmmiaaaDoorOScriptMayx17
namespace Go.Proofs.YtiikllgppmmiaaaDoor.OScriptMay
open Go.RowKit Go.Proofs.YtiikllgppmmiaaaDoorW.PrintWords Go.Proofs.YtiikllgppmmiaaaDoorW.PrintLast Go.Proofs.YtiikllgppmmiaaaDoorW.PrintMore
attribute [local go_sem] max2_int min2_int max_two min_two max_three min_three max_four min_four   -- for this text's walks alone
set_option linter.unusedVariables false
set_option linter.unusedSimpArgs false

/-! ### treelinelaw24_ScriptMay: function 4 -/
mutual
def treelinelaw24_ScriptMay.j0 : Nat → List Int → Bool → Option (Bool)
  | 0, _, _ => none
  | k + 1, x0, x12 => if x12 = true then ((treelinelaw24_awake.f k).bind fun t331 => (some t331)) else ((script_Read.f k x0).bind fun bt332 => ((treelineref20_Check.f k bt332.1 bt332.2.1 bt332.2.2.1 bt332.2.2.2.1).bind fun t346 => (if t346 = 0 then (if (bt332.2.2.2.2.length : Int) > 8000 then (treelinelaw24_ScriptMay.j1 k bt332.2.2.2.2 true) else (treelinelaw24_ScriptMay.j1 k bt332.2.2.2.2 (decide ((bt332.2.2.2.2.length : Int) > (x0.length : Int))))) else (treelinelaw24_ScriptMay.j1 k bt332.2.2.2.2 true))))
def treelinelaw24_ScriptMay.j1 : Nat → List (S39) → Bool → Option (Bool)
  | 0, _, _ => none
  | k + 1, x4, x33 => if x33 = true then (some false) else (treelinelaw24_ScriptMay.l0 k x4 0)
def treelinelaw24_ScriptMay.l0 : Nat → List (S39) → Int → Option (Bool)
  | 0, _, _ => none
  | k + 1, x4, x5 => if x5 < (x4.length : Int) then (if 0 ≤ x5 then (if ((rd_T39 x4 x5).f0) < 0 then (some false) else (if ((rd_T39 x4 x5).f0) > 6 then (some false) else (if ((rd_T39 x4 x5).f1) < 0 then (some false) else (if (((rd_T39 x4 x5).f5).length : Int) > 76 then (some false) else (treelinelaw24_ScriptMay.l0 k x4 (wrap64 (x5 + 1))))))) else (none)) else (some true)
end
def treelinelaw24_ScriptMay.f (k : Nat) (l0 : List Int) : Option (Bool) := (treelinelaw24_awake.f k).bind fun t330 => (if t330 = true then (treelinelaw24_ScriptMay.j0 k l0 (decide ((l0.length : Int) > 40000))) else (treelinelaw24_ScriptMay.j0 k l0 true))
theorem treelinelaw24_ScriptMay.mono_l : ∀ k, (∀ y0 y1, LeO (treelinelaw24_ScriptMay.j0 k y0 y1) (treelinelaw24_ScriptMay.j0 (k + 1) y0 y1)) ∧ (∀ y0 y1, LeO (treelinelaw24_ScriptMay.j1 k y0 y1) (treelinelaw24_ScriptMay.j1 (k + 1) y0 y1)) ∧ (∀ y0 y1, LeO (treelinelaw24_ScriptMay.l0 k y0 y1) (treelinelaw24_ScriptMay.l0 (k + 1) y0 y1))
  | 0 => ⟨fun _ _ r h => by simp [treelinelaw24_ScriptMay.j0] at h, fun _ _ r h => by simp [treelinelaw24_ScriptMay.j1] at h, fun _ _ r h => by simp [treelinelaw24_ScriptMay.l0] at h⟩
  | k + 1 => by
    obtain ⟨ih0, ih1, ih2⟩ := treelinelaw24_ScriptMay.mono_l k
    refine ⟨?_, ?_, ?_⟩
    · intro y0 y1
      unfold treelinelaw24_ScriptMay.j0
      repeat' first
      | (with_reducible exact ih0 _ _)
      | (with_reducible exact ih1 _ _)
      | (with_reducible exact ih2 _ _)
      | (with_reducible exact script_Read.mono _ _)
      | (with_reducible exact treelinelaw24_awake.mono _)
      | (with_reducible exact treelineref20_Check.mono _ _ _ _ _)
      | (with_reducible exact LeO.refl _)
      | (with_reducible exact LeO.none _)
      | (with_reducible refine LeO.ite ?_ ?_)
      | (with_reducible refine LeO.bind ?_ (fun _ => ?_))
      | exact ih0 _ _
      | exact ih1 _ _
      | exact ih2 _ _
      | exact script_Read.mono _ _
      | exact treelinelaw24_awake.mono _
      | exact treelineref20_Check.mono _ _ _ _ _
      | exact LeO.none _
      | refine LeO.ite ?_ ?_
      | refine LeO.bind ?_ (fun _ => ?_)
    · intro y0 y1
      unfold treelinelaw24_ScriptMay.j1
      repeat' first
      | (with_reducible exact ih0 _ _)
      | (with_reducible exact ih1 _ _)
      | (with_reducible exact ih2 _ _)
      | (with_reducible exact script_Read.mono _ _)
      | (with_reducible exact treelinelaw24_awake.mono _)
      | (with_reducible exact treelineref20_Check.mono _ _ _ _ _)
      | (with_reducible exact LeO.refl _)
      | (with_reducible exact LeO.none _)
      | (with_reducible refine LeO.ite ?_ ?_)
      | (with_reducible refine LeO.bind ?_ (fun _ => ?_))
      | exact ih0 _ _
      | exact ih1 _ _
      | exact ih2 _ _
      | exact script_Read.mono _ _
      | exact treelinelaw24_awake.mono _
      | exact treelineref20_Check.mono _ _ _ _ _
      | exact LeO.none _
      | refine LeO.ite ?_ ?_
      | refine LeO.bind ?_ (fun _ => ?_)
    · intro y0 y1
      unfold treelinelaw24_ScriptMay.l0
      repeat' first
      | (with_reducible exact ih0 _ _)
      | (with_reducible exact ih1 _ _)
      | (with_reducible exact ih2 _ _)
      | (with_reducible exact script_Read.mono _ _)
      | (with_reducible exact treelinelaw24_awake.mono _)
      | (with_reducible exact treelineref20_Check.mono _ _ _ _ _)
      | (with_reducible exact LeO.refl _)
      | (with_reducible exact LeO.none _)
      | (with_reducible refine LeO.ite ?_ ?_)
      | (with_reducible refine LeO.bind ?_ (fun _ => ?_))
      | exact ih0 _ _
      | exact ih1 _ _
      | exact ih2 _ _
      | exact script_Read.mono _ _
      | exact treelinelaw24_awake.mono _
      | exact treelineref20_Check.mono _ _ _ _ _
      | exact LeO.none _
      | refine LeO.ite ?_ ?_
      | refine LeO.bind ?_ (fun _ => ?_)
theorem treelinelaw24_ScriptMay.mono : ∀ a0 k, LeO (treelinelaw24_ScriptMay.f k a0) (treelinelaw24_ScriptMay.f (k + 1) a0) := by
  intro a0 k
  obtain ⟨ih0, ih1, ih2⟩ := treelinelaw24_ScriptMay.mono_l k
  unfold treelinelaw24_ScriptMay.f
  repeat' first
      | (with_reducible exact ih0 _ _)
      | (with_reducible exact ih1 _ _)
      | (with_reducible exact ih2 _ _)
      | (with_reducible exact script_Read.mono _ _)
      | (with_reducible exact treelinelaw24_awake.mono _)
      | (with_reducible exact treelineref20_Check.mono _ _ _ _ _)
      | (with_reducible exact LeO.refl _)
      | (with_reducible exact LeO.none _)
      | (with_reducible refine LeO.ite ?_ ?_)
      | (with_reducible refine LeO.bind ?_ (fun _ => ?_))
      | exact ih0 _ _
      | exact ih1 _ _
      | exact ih2 _ _
      | exact script_Read.mono _ _
      | exact treelinelaw24_awake.mono _
      | exact treelineref20_Check.mono _ _ _ _ _
      | exact LeO.none _
      | refine LeO.ite ?_ ?_
      | refine LeO.bind ?_ (fun _ => ?_)
set_option maxHeartbeats 8000000 in
set_option maxRecDepth 100000 in
theorem treelinelaw24_ScriptMay.calls (k : Nat) (A0 : Option Addr) (c0 : Nat) (l0 : List Int) (r : Bool) (w : World) (hr0 : Kd.C (Kd.int .u8) w A0 l0.length l0) (hc0 : l0.length ≤ c0) (h : treelinelaw24_ScriptMay.f k l0 = some r) (HG : Aside0 (Llc.Glob w)) :
  Calls Tryd.prog 4 #[.slice A0 l0.length c0] w fun e w' => e = .returned (.bool r) ∧ Below w.heap.size w w' := by
 have hu28 := Tryd.underlying28
 have HR0 := Aside0.mk hr0
 have HC0 := Aside0.mk hc0
 clear hr0 hc0
 have HB := Aside0.mk (Below.refl w.heap.size w)
 have H : ((treelinelaw24_awake.f k).bind fun t330 => (if t330 = true then (treelinelaw24_ScriptMay.j0 k l0 (decide ((l0.length : Int) > 40000))) else (treelinelaw24_ScriptMay.j0 k l0 true))) = some r := h
 clear h
 have HC2 := Aside0.mk H
 clear H
 go_enter Tryd.func4, Tryd.ntmps4
 go_upto_region 1 with (fail)
 go_cut [12] (fun v12 wc => ∃ (kq : Nat) (x12_1 : Bool), v12 = .bool x12_1 ∧ Aside0 (treelinelaw24_ScriptMay.j0 kq l0 x12_1 = some r) ∧ Aside0 (kq ≤ k) ∧ Aside0 (Below w.heap.size w wc))
 case first =>
  have H := HC2.out
  clear HC2
  replace H := Option.bind_eq_some_iff.mp H
  obtain ⟨t330, A30, H⟩ := H
  replace H : (if t330 = true then (treelinelaw24_ScriptMay.j0 k l0 (decide ((l0.length : Int) > 40000))) else (treelinelaw24_ScriptMay.j0 k l0 true)) = some r := H
  have A3 := Aside0.mk A30
  clear A30
  by_cases c4 : t330 = true
  ·subst c4
   have H1 : (treelinelaw24_ScriptMay.j0 k l0 (decide ((l0.length : Int) > 40000))) = some r := by rw [if_pos rfl] at H; exact H
   clear H
   have H := H1
   clear H1
   have H' := Aside0.mk H
   clear H
   go_wp2_with (first | ((with_reducible refine gate_callee (f := 8) rfl ?_); refine goesL_ (some 6) rfl rfl Tryd.func8 (by kernel_rfl) rfl #[] rfl (by (try simp only [List.map_toArray, List.map_cons, List.map_nil]); first | done | rfl | (simp only [List.length_drop, List.length_take]; rfl)) ?_; (with_reducible refine (treelinelaw24_awake.calls k  true _ A3.out ?sideG).mono ?_); (case sideG => first | exact HG | exact ⟨HG.out.below (by repeat (first | (with_reducible first | exact HB.out | apply below_alloc | apply pw_below_drewN | apply below_drew1) | exact HB.out))⟩); rintro e w5 ⟨rfl, hb⟩; refine ⟨_, rfl, ?_⟩; have n0_ := Aside0.mk (below_step (by repeat (first | (with_reducible first | exact HB.out | apply below_alloc | apply pw_below_drewN | apply below_drew1) | exact HB.out)) hb); clear HB; have HB := n0_; clear n0_; (try clear hb); (try clear hb2); (try clear hk); (try clear hi)) | (go_at_call 8; (with_reducible refine (treelinelaw24_awake.calls k  true _ A3.out ?sideG).mono ?_); (case sideG => first | exact HG | exact ⟨HG.out.below (by repeat (first | (with_reducible first | exact HB.out | apply below_alloc | apply pw_below_drewN | apply below_drew1) | exact HB.out))⟩); rintro e w5 ⟨rfl, hb⟩; have n0_ := Aside0.mk (below_step (by repeat (first | (with_reducible first | exact HB.out | apply below_alloc | apply pw_below_drewN | apply below_drew1) | exact HB.out)) hb); clear HB; have HB := n0_; clear n0_; (try clear hb); (try clear hb2); (try clear hk); (try clear hi)))
   go_meet
   case rel => exact ⟨_, (decide ((l0.length : Int) > 40000)), (by first | rfl | (simp; done) | (simp [*]; done)), H', ⟨by first | omega | exact Nat.le_refl _⟩, ⟨by repeat (first | (with_reducible first | exact HB.out | apply below_alloc | apply pw_below_drewN | apply below_drew1) | exact HB.out)⟩⟩
  replace c4 := Bool.eq_false_iff.mpr c4
  subst c4
  have H1 : (treelinelaw24_ScriptMay.j0 k l0 true) = some r := by rw [if_neg (show ¬ (false = true) by decide)] at H; exact H
  clear H
  have H := H1
  clear H1
  have H' := Aside0.mk H
  clear H
  go_wp2_with (first | ((with_reducible refine gate_callee (f := 8) rfl ?_); refine goesL_ (some 6) rfl rfl Tryd.func8 (by kernel_rfl) rfl #[] rfl (by (try simp only [List.map_toArray, List.map_cons, List.map_nil]); first | done | rfl | (simp only [List.length_drop, List.length_take]; rfl)) ?_; (with_reducible refine (treelinelaw24_awake.calls k  false _ A3.out ?sideG).mono ?_); (case sideG => first | exact HG | exact ⟨HG.out.below (by repeat (first | (with_reducible first | exact HB.out | apply below_alloc | apply pw_below_drewN | apply below_drew1) | exact HB.out))⟩); rintro e w6 ⟨rfl, hb⟩; refine ⟨_, rfl, ?_⟩; have n0_ := Aside0.mk (below_step (by repeat (first | (with_reducible first | exact HB.out | apply below_alloc | apply pw_below_drewN | apply below_drew1) | exact HB.out)) hb); clear HB; have HB := n0_; clear n0_; (try clear hb); (try clear hb2); (try clear hk); (try clear hi)) | (go_at_call 8; (with_reducible refine (treelinelaw24_awake.calls k  false _ A3.out ?sideG).mono ?_); (case sideG => first | exact HG | exact ⟨HG.out.below (by repeat (first | (with_reducible first | exact HB.out | apply below_alloc | apply pw_below_drewN | apply below_drew1) | exact HB.out))⟩); rintro e w6 ⟨rfl, hb⟩; have n0_ := Aside0.mk (below_step (by repeat (first | (with_reducible first | exact HB.out | apply below_alloc | apply pw_below_drewN | apply below_drew1) | exact HB.out)) hb); clear HB; have HB := n0_; clear n0_; (try clear hb); (try clear hb2); (try clear hk); (try clear hi)))
  go_meet
  case rel => exact ⟨_, (true), (by first | rfl | (simp; done) | (simp [*]; done)), H', ⟨by first | omega | exact Nat.le_refl _⟩, ⟨by repeat (first | (with_reducible first | exact HB.out | apply below_alloc | apply pw_below_drewN | apply below_drew1) | exact HB.out)⟩⟩
 clear HC2
 try clear p2
 try clear c4
 obtain ⟨kq, x12_1, rfl, HA, HJ1, HB⟩ := hcut
 cases kq with
 | zero => exact absurd HA.out (by simp [treelinelaw24_ScriptMay.j0])
 | succ kj1 => ?_
 have H := HA.out
 clear HA
 simp only [treelinelaw24_ScriptMay.j0] at H
 by_cases c7 : x12_1 = true
 ·subst c7
  have H1 : ((treelinelaw24_awake.f kj1).bind fun t331 => (some t331)) = some r := by rw [if_pos rfl] at H; exact H
  clear H
  have H := H1
  clear H1
  replace H := Option.bind_eq_some_iff.mp H
  obtain ⟨t331, A80, H⟩ := H
  replace H : (some t331) = some r := H
  have A8 := Aside0.mk A80
  clear A80
  obtain rfl := Option.some.inj H
  go_wp2_with (first | ((with_reducible refine gate_callee (f := 8) rfl ?_); refine goesL_ (some 13) rfl rfl Tryd.func8 (by kernel_rfl) rfl #[] rfl (by (try simp only [List.map_toArray, List.map_cons, List.map_nil]); first | done | rfl | (simp only [List.length_drop, List.length_take]; rfl)) ?_; (with_reducible refine (treelinelaw24_awake.calls kj1  t331 _ A8.out ?sideG).mono ?_); (case sideG => first | exact HG | exact ⟨HG.out.below (by repeat (first | (with_reducible first | exact HB.out | apply below_alloc | apply pw_below_drewN | apply below_drew1) | exact HB.out))⟩); rintro e w9 ⟨rfl, hb⟩; refine ⟨_, rfl, ?_⟩; have n0_ := Aside0.mk (below_step (by repeat (first | (with_reducible first | exact HB.out | apply below_alloc | apply pw_below_drewN | apply below_drew1) | exact HB.out)) hb); clear HB; have HB := n0_; clear n0_; (try clear hb); (try clear hb2); (try clear hk); (try clear hi)) | (go_at_call 8; (with_reducible refine (treelinelaw24_awake.calls kj1  t331 _ A8.out ?sideG).mono ?_); (case sideG => first | exact HG | exact ⟨HG.out.below (by repeat (first | (with_reducible first | exact HB.out | apply below_alloc | apply pw_below_drewN | apply below_drew1) | exact HB.out))⟩); rintro e w9 ⟨rfl, hb⟩; have n0_ := Aside0.mk (below_step (by repeat (first | (with_reducible first | exact HB.out | apply below_alloc | apply pw_below_drewN | apply below_drew1) | exact HB.out)) hb); clear HB; have HB := n0_; clear n0_; (try clear hb); (try clear hb2); (try clear hk); (try clear hi)))
  go_ret
  exact ⟨by first | rfl | (simp [errW_none, errW_some] <;> rfl) | (simp [*, errW_none, errW_some] <;> rfl), by repeat (first | (with_reducible first | exact HB.out | apply below_alloc | apply pw_below_drewN | apply below_drew1) | exact HB.out)⟩
 replace c7 := Bool.eq_false_iff.mpr c7
 subst c7
 have H1 : ((script_Read.f kj1 l0).bind fun bt332 => ((treelineref20_Check.f kj1 bt332.1 bt332.2.1 bt332.2.2.1 bt332.2.2.2.1).bind fun t346 => (if t346 = 0 then (if (bt332.2.2.2.2.length : Int) > 8000 then (treelinelaw24_ScriptMay.j1 kj1 bt332.2.2.2.2 true) else (treelinelaw24_ScriptMay.j1 kj1 bt332.2.2.2.2 (decide ((bt332.2.2.2.2.length : Int) > (l0.length : Int))))) else (treelinelaw24_ScriptMay.j1 kj1 bt332.2.2.2.2 true)))) = some r := by rw [if_neg (show ¬ (false = true) by decide)] at H; exact H
 clear H
 have H := H1
 clear H1
 replace H := Option.bind_eq_some_iff.mp H
 obtain ⟨⟨t332, t333, t336, t339, t342⟩, A100, H⟩ := H
 replace H : ((treelineref20_Check.f kj1 t332 t333 t336 t339).bind fun t346 => (if t346 = 0 then (if (t342.length : Int) > 8000 then (treelinelaw24_ScriptMay.j1 kj1 t342 true) else (treelinelaw24_ScriptMay.j1 kj1 t342 (decide ((t342.length : Int) > (l0.length : Int))))) else (treelinelaw24_ScriptMay.j1 kj1 t342 true))) = some r := H
 have A10 := Aside0.mk A100
 clear A100
 have HC11 := Aside0.mk H
 clear H
 go_upto_region 4 with (first | ((with_reducible refine gate_callee (f := 9) rfl ?_); refine goesL_ (some 16) rfl rfl Tryd.func9 (by kernel_rfl) rfl #[.slice A0 l0.length c0] rfl (by (try simp only [List.map_toArray, List.map_cons, List.map_nil]); first | done | rfl | (simp only [List.length_drop, List.length_take]; rfl)) ?_; (with_reducible refine (script_Read.calls kj1 _ _ l0 t332 t333 t336 t339 t342 _ ?side1 ?side2 A10.out ?sideG).mono ?_); (case sideG => first | exact HG | exact ⟨HG.out.below (by repeat (first | (with_reducible first | exact HB.out | apply below_alloc | apply pw_below_drewN | apply below_drew1) | exact HB.out))⟩); (case side1 => repeat (first | exact (Kd.C_below HR0.out HB.out) | (with_reducible refine Kd.C_alloc ?_ _) | (with_reducible refine Kd.C_drewN ?_ _) | (with_reducible refine Kd.C_drew ?_))); (case side2 => exact HC0.out); rintro e w12 ⟨v334, v337, v340, v343, rfl, ho0, ho1, ho2, ho3, hb⟩; refine ⟨_, rfl, ?_⟩; have n0_ := Aside0.mk (Kd.N_lower (Kd.N_mono (ok' := fun k_ => some k_ ≠ (v337 : Value).ownBlock ∧ some k_ ≠ (v340 : Value).ownBlock ∧ some k_ ≠ (v343 : Value).ownBlock) ho0 (fun k_ hk_ => ⟨hk_.2.1, hk_.2.2.1, hk_.2.2.2⟩)) (below_size (by repeat (first | (with_reducible first | exact HB.out | apply below_alloc | apply pw_below_drewN | apply below_drew1) | exact HB.out)))); have n1_ := Aside0.mk (Kd.N_lower (Kd.N_mono (ok' := fun k_ => some k_ ≠ (v334 : Value).ownBlock ∧ some k_ ≠ (v340 : Value).ownBlock ∧ some k_ ≠ (v343 : Value).ownBlock) ho1 (fun k_ hk_ => ⟨hk_.2.1, hk_.2.2.1, hk_.2.2.2⟩)) (below_size (by repeat (first | (with_reducible first | exact HB.out | apply below_alloc | apply pw_below_drewN | apply below_drew1) | exact HB.out)))); have n2_ := Aside0.mk (Kd.R_lower (Kd.R_mono (ok' := fun k_ => True) ho2 (fun _ hk_ => trivial)) (below_size (by repeat (first | (with_reducible first | exact HB.out | apply below_alloc | apply pw_below_drewN | apply below_drew1) | exact HB.out)))); have n3_ := Aside0.mk (Kd.N_lower (Kd.N_mono (ok' := fun k_ => some k_ ≠ (v334 : Value).ownBlock ∧ some k_ ≠ (v337 : Value).ownBlock ∧ some k_ ≠ (v340 : Value).ownBlock) ho3 (fun k_ hk_ => ⟨hk_.2.1, hk_.2.2.1, hk_.2.2.2⟩)) (below_size (by repeat (first | (with_reducible first | exact HB.out | apply below_alloc | apply pw_below_drewN | apply below_drew1) | exact HB.out)))); have n4_ := Aside0.mk (below_step (by repeat (first | (with_reducible first | exact HB.out | apply below_alloc | apply pw_below_drewN | apply below_drew1) | exact HB.out)) hb); clear HB; have HO335 := n0_; have HO338 := n1_; have HO341 := n2_; have HO344 := n3_; have HB := n4_; clear n0_ n1_ n2_ n3_ n4_; (try clear hb); (try clear hb2); (try clear hk); (try clear hi); (try clear ho0); (try clear ho1); (try clear ho2); (try clear ho3)) | ((with_reducible refine gate_dst (N := 3) rfl ?_); (try (refine gate_guard (by rfl) ?_; dsimp only)); refine box_event ?hg (N := 3) ?hd (cs := #[.int .i64 0, .slice none 0 0, .slice none 0 0, .slice none 0 0]) (t := 28) ?hr ?_; (case hd => rfl); (case hg => rfl); (case hr => first | (go_simp; done) | (go_simp; rfl)); intro gb345 hg w13 hbox hb; have n0_ := Aside0.mk (Kd.N_below (Kd.N_elderB (by (with_reducible repeat (first | apply Kd.N_alloc | apply Kd.N_drewN | apply Kd.N_drew)); exact HO335.out) gb345 (Nat.le_of_eq hg.symm)) hb); have n1_ := Aside0.mk (Kd.N_below (Kd.N_elderB (by (with_reducible repeat (first | apply Kd.N_alloc | apply Kd.N_drewN | apply Kd.N_drew)); exact HO338.out) gb345 (Nat.le_of_eq hg.symm)) hb); have n2_ := Aside0.mk (Kd.R_below (by (with_reducible repeat (first | apply Kd.R_alloc | apply Kd.R_drewN | apply Kd.R_drew)); exact HO341.out) hb); have n3_ := Aside0.mk (Kd.N_below (Kd.N_elderB (by (with_reducible repeat (first | apply Kd.N_alloc | apply Kd.N_drewN | apply Kd.N_drew)); exact HO344.out) gb345 (Nat.le_of_eq hg.symm)) hb); have n4_ := Aside0.mk (below_step (by repeat (first | (with_reducible first | exact HB.out | apply below_alloc | apply pw_below_drewN | apply below_drew1) | exact HB.out)) hb); have n5_ := Aside0.mk (hbox); have n6_ := Aside0.mk ((by rw [hg]; exact (below_size (by repeat (first | (with_reducible first | exact HB.out | apply below_alloc | apply pw_below_drewN | apply below_drew1) | exact HB.out))) : w.heap.size ≤ gb345)); have n7_ := Aside0.mk ((by rw [hg]; exact (below_size (by repeat (first | (with_reducible first | exact HB.out | apply below_alloc | apply pw_below_drewN | apply below_drew1) | exact HB.out))) : w.heap.size ≤ gb345)); clear HO335; clear HO338; clear HO341; clear HO344; clear HB; have HO335 := n0_; have HO338 := n1_; have HO341 := n2_; have HO344 := n3_; have HB := n4_; have BK345 := n5_; have GW345 := n6_; have GE345 := n7_; clear n0_ n1_ n2_ n3_ n4_ n5_ n6_ n7_; clear hb hbox hg; have hcz14_0 : w13.cell? ⟨gb345, 0, none⟩ = some (.int .i64 0) := (blk_cell BK345.out 0).trans rfl; have hcz14_1 : w13.cell? ⟨gb345, 1, none⟩ = some (.slice none 0 0) := (blk_cell BK345.out 1).trans rfl; have hcz14_2 : w13.cell? ⟨gb345, 2, none⟩ = some (.slice none 0 0) := (blk_cell BK345.out 2).trans rfl; have hcz14_3 : w13.cell? ⟨gb345, 3, none⟩ = some (.slice none 0 0) := (blk_cell BK345.out 3).trans rfl; have hfz14_0 := blk_frozen BK345.out 0; have hfz14_1 := blk_frozen BK345.out 1; have hfz14_2 := blk_frozen BK345.out 2; have hfz14_3 := blk_frozen BK345.out 3; obtain ⟨Ao15, co15, eo15⟩ := Kd.N_slice HO335.out; subst eo15; obtain ⟨Ao16, co16, eo16⟩ := Kd.N_slice HO338.out; subst eo16; obtain ⟨Ao17, co17, eo17⟩ := Kd.R_slice HO341.out; subst eo17))
 (try simp only [Act.put, List.setIfInBounds_toArray, List.set_cons_zero, List.set_cons_succ])
 go_cut [33] (fun v33 wc => ∃ (kq : Nat) (x33_10 : Bool), v33 = .bool x33_10 ∧ Aside0 (treelinelaw24_ScriptMay.j1 kq t342 x33_10 = some r) ∧ Aside0 (kq ≤ kj1) ∧ Aside0 (Kd.N k39 39 wc w.heap.size (fun k_ => some k_ ≠ ((.slice Ao15 t333.length co15) : Value).ownBlock ∧ some k_ ≠ ((.slice Ao16 t336.length co16) : Value).ownBlock ∧ some k_ ≠ ((.slice Ao17 t339.length co17) : Value).ownBlock ∧ k_ ≠ gb345) v343 t342) ∧ Aside0 (Kd.N k51 51 wc w.heap.size (fun k_ => some k_ ≠ (v343 : Value).ownBlock ∧ some k_ ≠ ((.slice Ao16 t336.length co16) : Value).ownBlock ∧ some k_ ≠ ((.slice Ao17 t339.length co17) : Value).ownBlock ∧ k_ ≠ gb345) (.slice Ao15 t333.length co15) t333) ∧ Aside0 (Kd.N (Kd.slice 3 (Kd.int .i64)) 64 wc w.heap.size (fun k_ => some k_ ≠ (v343 : Value).ownBlock ∧ some k_ ≠ ((.slice Ao15 t333.length co15) : Value).ownBlock ∧ some k_ ≠ ((.slice Ao17 t339.length co17) : Value).ownBlock ∧ k_ ≠ gb345) (.slice Ao16 t336.length co16) t336) ∧ Aside0 (Kd.R k66 66 wc w.heap.size (fun _ => True) (.slice Ao17 t339.length co17) t339) ∧ Aside0 (wc.heap[gb345]? = some (.cells #[.int .i64 t332, (.slice Ao15 t333.length co15), (.slice Ao16 t336.length co16), (.slice Ao17 t339.length co17)] 28 (0, 0))) ∧ Aside0 (Below w.heap.size w wc))
 case first =>
  have H := HC11.out
  clear HC11
  replace H := Option.bind_eq_some_iff.mp H
  obtain ⟨t346, A180, H⟩ := H
  replace H : (if t346 = 0 then (if (t342.length : Int) > 8000 then (treelinelaw24_ScriptMay.j1 kj1 t342 true) else (treelinelaw24_ScriptMay.j1 kj1 t342 (decide ((t342.length : Int) > (l0.length : Int))))) else (treelinelaw24_ScriptMay.j1 kj1 t342 true)) = some r := H
  have A18 := Aside0.mk A180
  clear A180
  by_cases c19 : t346 = 0
  rotate_left
  ·rw [if_neg c19] at H
   have c19b0 : (t346 == 0) = false := beq_eq_false_iff_ne.mpr c19
   have c19b1 : (t346 != 0) = true := bne_iff_ne.mpr c19
   (first | rw [c19b0] | (simp only [i64_w, i32_w]; rw [c19b0]) | skip)
   have H' := Aside0.mk H
   clear H
   have hcz27_0 : w13.cell? ⟨gb345, 0, none⟩ = some (.int .i64 0) := (blk_cell BK345.out 0).trans rfl
   have hcz27_1 : w13.cell? ⟨gb345, 1, none⟩ = some (.slice none 0 0) := (blk_cell BK345.out 1).trans rfl
   have hcz27_2 : w13.cell? ⟨gb345, 2, none⟩ = some (.slice none 0 0) := (blk_cell BK345.out 2).trans rfl
   have hcz27_3 : w13.cell? ⟨gb345, 3, none⟩ = some (.slice none 0 0) := (blk_cell BK345.out 3).trans rfl
   have hfz27_0 := blk_frozen BK345.out 0
   have hfz27_1 := blk_frozen BK345.out 1
   have hfz27_2 := blk_frozen BK345.out 2
   have hfz27_3 := blk_frozen BK345.out 3
   go_wp2_with (first | ((with_reducible refine gate_callee (f := 13) rfl ?_); refine goesL_ (some 20) rfl rfl Tryd.func13 (by kernel_rfl) rfl #[.agg #[.int .i64 t332, .slice Ao15 t333.length co15, .slice Ao16 t336.length co16, .slice Ao17 t339.length co17]] rfl (by (try simp only [List.map_toArray, List.map_cons, List.map_nil]); first | done | rfl | (simp only [List.length_drop, List.length_take]; rfl)) ?_; (with_reducible refine (treelineref20_Check.calls kj1 t332 _ _ t333 _ _ t336 _ _ t339 t346 _ ?side1 ?side2 ?side3 ?side4 ?side5 ?side6 A18.out).mono ?_); (case side1 => refine (Kd.N_reads' (e := 51) (base := w.heap.size) (ok := fun k_ => ((some k_ ≠ (.slice Ao16 t336.length co16 : Value).ownBlock ∧ (some k_ ≠ (.slice Ao17 t339.length co17 : Value).ownBlock ∧ some k_ ≠ (v343 : Value).ownBlock)) ∧ k_ ≠ gb345)) (n := t333.length) (c := co15) ?_).2.2; exact (by (with_reducible repeat (first | apply Kd.N_alloc | apply Kd.N_drewN | apply Kd.N_drew)); exact (Kd.N_mono (Kd.N_far (p := ⟨gb345, 3, none⟩) (Kd.N_far (p := ⟨gb345, 2, none⟩) (Kd.N_far (p := ⟨gb345, 1, none⟩) (Kd.N_far (p := ⟨gb345, 0, none⟩) (Kd.N_mono HO335.out (fun k_ hk => (⟨hk, hk.2⟩ : _ ∧ k_ ≠ gb345))) (fun _ hk => hk.2) (.int .i64 t332)) (fun _ hk => hk.2) (.slice Ao15 t333.length co15)) (fun _ hk => hk.2) (.slice Ao16 t336.length co16)) (fun _ hk => hk.2) (.slice Ao17 t339.length co17)) (fun _ h_ => h_.1)))); (case side2 => exact (Kd.N_reads' HO335.out).2.1); (case side3 => refine (Kd.N_reads' (e := 64) (base := w.heap.size) (ok := fun k_ => ((some k_ ≠ (.slice Ao15 t333.length co15 : Value).ownBlock ∧ (some k_ ≠ (.slice Ao17 t339.length co17 : Value).ownBlock ∧ some k_ ≠ (v343 : Value).ownBlock)) ∧ k_ ≠ gb345)) (n := t336.length) (c := co16) ?_).2.2; exact (by (with_reducible repeat (first | apply Kd.N_alloc | apply Kd.N_drewN | apply Kd.N_drew)); exact (Kd.N_mono (Kd.N_far (p := ⟨gb345, 3, none⟩) (Kd.N_far (p := ⟨gb345, 2, none⟩) (Kd.N_far (p := ⟨gb345, 1, none⟩) (Kd.N_far (p := ⟨gb345, 0, none⟩) (Kd.N_mono HO338.out (fun k_ hk => (⟨hk, hk.2⟩ : _ ∧ k_ ≠ gb345))) (fun _ hk => hk.2) (.int .i64 t332)) (fun _ hk => hk.2) (.slice Ao15 t333.length co15)) (fun _ hk => hk.2) (.slice Ao16 t336.length co16)) (fun _ hk => hk.2) (.slice Ao17 t339.length co17)) (fun _ h_ => h_.1)))); (case side4 => exact (Kd.N_reads' HO338.out).2.1); (case side5 => refine (Kd.R_reads' (e := 66) (base := w.heap.size) (ok := fun k_ => True) (n := t339.length) (c := co17) ?_).2.2; exact (by (with_reducible repeat (first | apply Kd.R_alloc | apply Kd.R_drewN | apply Kd.R_drew)); exact (Kd.R_mono (Kd.R_far (p := ⟨gb345, 3, none⟩) (Kd.R_far (p := ⟨gb345, 2, none⟩) (Kd.R_far (p := ⟨gb345, 1, none⟩) (Kd.R_far (p := ⟨gb345, 0, none⟩) (Kd.R_types HO341.out BK345.out (by decide)) (fun _ hk => hk.2) (.int .i64 t332)) (fun _ hk => hk.2) (.slice Ao15 t333.length co15)) (fun _ hk => hk.2) (.slice Ao16 t336.length co16)) (fun _ hk => hk.2) (.slice Ao17 t339.length co17)) (fun _ h_ => h_.1)))); (case side6 => exact (Kd.R_reads' HO341.out).2.1); rintro e w28 ⟨rfl, hb⟩; refine ⟨_, rfl, ?_⟩; have n0_ := Aside0.mk (Kd.N_below (by (with_reducible repeat (first | apply Kd.N_alloc | apply Kd.N_drewN | apply Kd.N_drew)); exact (Kd.N_mono (Kd.N_far (p := ⟨gb345, 3, none⟩) (Kd.N_far (p := ⟨gb345, 2, none⟩) (Kd.N_far (p := ⟨gb345, 1, none⟩) (Kd.N_far (p := ⟨gb345, 0, none⟩) (Kd.N_mono HO335.out (fun k_ hk => (⟨hk, hk.2⟩ : _ ∧ k_ ≠ gb345))) (fun _ hk => hk.2) (.int .i64 t332)) (fun _ hk => hk.2) (.slice Ao15 t333.length co15)) (fun _ hk => hk.2) (.slice Ao16 t336.length co16)) (fun _ hk => hk.2) (.slice Ao17 t339.length co17)) (fun _ h_ => h_.1))) hb); have n1_ := Aside0.mk (Kd.N_below (by (with_reducible repeat (first | apply Kd.N_alloc | apply Kd.N_drewN | apply Kd.N_drew)); exact (Kd.N_mono (Kd.N_far (p := ⟨gb345, 3, none⟩) (Kd.N_far (p := ⟨gb345, 2, none⟩) (Kd.N_far (p := ⟨gb345, 1, none⟩) (Kd.N_far (p := ⟨gb345, 0, none⟩) (Kd.N_mono HO338.out (fun k_ hk => (⟨hk, hk.2⟩ : _ ∧ k_ ≠ gb345))) (fun _ hk => hk.2) (.int .i64 t332)) (fun _ hk => hk.2) (.slice Ao15 t333.length co15)) (fun _ hk => hk.2) (.slice Ao16 t336.length co16)) (fun _ hk => hk.2) (.slice Ao17 t339.length co17)) (fun _ h_ => h_.1))) hb); have n2_ := Aside0.mk (Kd.R_below (by (with_reducible repeat (first | apply Kd.R_alloc | apply Kd.R_drewN | apply Kd.R_drew)); exact (Kd.R_mono (Kd.R_far (p := ⟨gb345, 3, none⟩) (Kd.R_far (p := ⟨gb345, 2, none⟩) (Kd.R_far (p := ⟨gb345, 1, none⟩) (Kd.R_far (p := ⟨gb345, 0, none⟩) (Kd.R_types HO341.out BK345.out (by decide)) (fun _ hk => hk.2) (.int .i64 t332)) (fun _ hk => hk.2) (.slice Ao15 t333.length co15)) (fun _ hk => hk.2) (.slice Ao16 t336.length co16)) (fun _ hk => hk.2) (.slice Ao17 t339.length co17)) (fun _ h_ => h_.1))) hb); have n3_ := Aside0.mk (Kd.N_below (by (with_reducible repeat (first | apply Kd.N_alloc | apply Kd.N_drewN | apply Kd.N_drew)); exact (Kd.N_mono (Kd.N_far (p := ⟨gb345, 3, none⟩) (Kd.N_far (p := ⟨gb345, 2, none⟩) (Kd.N_far (p := ⟨gb345, 1, none⟩) (Kd.N_far (p := ⟨gb345, 0, none⟩) (Kd.N_mono HO344.out (fun k_ hk => (⟨hk, hk.2⟩ : _ ∧ k_ ≠ gb345))) (fun _ hk => hk.2) (.int .i64 t332)) (fun _ hk => hk.2) (.slice Ao15 t333.length co15)) (fun _ hk => hk.2) (.slice Ao16 t336.length co16)) (fun _ hk => hk.2) (.slice Ao17 t339.length co17)) (fun _ h_ => h_.1))) hb); have n4_ := Aside0.mk (blk_below (g := gb345) (o := .cells #[.int .i64 t332, .slice Ao15 t333.length co15, .slice Ao16 t336.length co16, .slice Ao17 t339.length co17] 28 (0, 0)) (by (with_reducible repeat (first | refine blk_drewN ?_ _ | refine blk_drew ?_ | refine blk_alloc ?_ _)); refine blk_put (cs := #[.int .i64 t332, .slice Ao15 t333.length co15, .slice Ao16 t336.length co16, .slice none 0 0]) ?_ 3 _ rfl; (with_reducible repeat (first | refine blk_drewN ?_ _ | refine blk_drew ?_ | refine blk_alloc ?_ _)); refine blk_put (cs := #[.int .i64 t332, .slice Ao15 t333.length co15, .slice none 0 0, .slice none 0 0]) ?_ 2 _ rfl; (with_reducible repeat (first | refine blk_drewN ?_ _ | refine blk_drew ?_ | refine blk_alloc ?_ _)); refine blk_put (cs := #[.int .i64 t332, .slice none 0 0, .slice none 0 0, .slice none 0 0]) ?_ 1 _ rfl; (with_reducible repeat (first | refine blk_drewN ?_ _ | refine blk_drew ?_ | refine blk_alloc ?_ _)); refine blk_put (cs := #[.int .i64 0, .slice none 0 0, .slice none 0 0, .slice none 0 0]) ?_ 0 _ rfl; (with_reducible repeat (first | refine blk_drewN ?_ _ | refine blk_drew ?_ | refine blk_alloc ?_ _)); exact BK345.out) hb); have n5_ := Aside0.mk (below_step (by repeat (first | (with_reducible first | exact HB.out | apply below_alloc | apply pw_below_drewN | apply below_drew1 | refine below_set ?_ GE345.out) | exact HB.out)) hb); clear HO335; clear HO338; clear HO341; clear HO344; clear BK345; clear HB; have HO335 := n0_; have HO338 := n1_; have HO341 := n2_; have HO344 := n3_; have BK345 := n4_; have HB := n5_; clear n0_ n1_ n2_ n3_ n4_ n5_; (try clear hb); (try clear hb2); (try clear hk); (try clear hi)) | (go_at_call 13; (with_reducible refine (treelineref20_Check.calls kj1 t332 _ _ t333 _ _ t336 _ _ t339 t346 _ ?side1 ?side2 ?side3 ?side4 ?side5 ?side6 A18.out).mono ?_); (case side1 => refine (Kd.N_reads' (e := 51) (base := w.heap.size) (ok := fun k_ => ((some k_ ≠ (.slice Ao16 t336.length co16 : Value).ownBlock ∧ (some k_ ≠ (.slice Ao17 t339.length co17 : Value).ownBlock ∧ some k_ ≠ (v343 : Value).ownBlock)) ∧ k_ ≠ gb345)) (n := t333.length) (c := co15) ?_).2.2; exact (by (with_reducible repeat (first | apply Kd.N_alloc | apply Kd.N_drewN | apply Kd.N_drew)); exact (Kd.N_mono (Kd.N_far (p := ⟨gb345, 3, none⟩) (Kd.N_far (p := ⟨gb345, 2, none⟩) (Kd.N_far (p := ⟨gb345, 1, none⟩) (Kd.N_far (p := ⟨gb345, 0, none⟩) (Kd.N_mono HO335.out (fun k_ hk => (⟨hk, hk.2⟩ : _ ∧ k_ ≠ gb345))) (fun _ hk => hk.2) (.int .i64 t332)) (fun _ hk => hk.2) (.slice Ao15 t333.length co15)) (fun _ hk => hk.2) (.slice Ao16 t336.length co16)) (fun _ hk => hk.2) (.slice Ao17 t339.length co17)) (fun _ h_ => h_.1)))); (case side2 => exact (Kd.N_reads' HO335.out).2.1); (case side3 => refine (Kd.N_reads' (e := 64) (base := w.heap.size) (ok := fun k_ => ((some k_ ≠ (.slice Ao15 t333.length co15 : Value).ownBlock ∧ (some k_ ≠ (.slice Ao17 t339.length co17 : Value).ownBlock ∧ some k_ ≠ (v343 : Value).ownBlock)) ∧ k_ ≠ gb345)) (n := t336.length) (c := co16) ?_).2.2; exact (by (with_reducible repeat (first | apply Kd.N_alloc | apply Kd.N_drewN | apply Kd.N_drew)); exact (Kd.N_mono (Kd.N_far (p := ⟨gb345, 3, none⟩) (Kd.N_far (p := ⟨gb345, 2, none⟩) (Kd.N_far (p := ⟨gb345, 1, none⟩) (Kd.N_far (p := ⟨gb345, 0, none⟩) (Kd.N_mono HO338.out (fun k_ hk => (⟨hk, hk.2⟩ : _ ∧ k_ ≠ gb345))) (fun _ hk => hk.2) (.int .i64 t332)) (fun _ hk => hk.2) (.slice Ao15 t333.length co15)) (fun _ hk => hk.2) (.slice Ao16 t336.length co16)) (fun _ hk => hk.2) (.slice Ao17 t339.length co17)) (fun _ h_ => h_.1)))); (case side4 => exact (Kd.N_reads' HO338.out).2.1); (case side5 => refine (Kd.R_reads' (e := 66) (base := w.heap.size) (ok := fun k_ => True) (n := t339.length) (c := co17) ?_).2.2; exact (by (with_reducible repeat (first | apply Kd.R_alloc | apply Kd.R_drewN | apply Kd.R_drew)); exact (Kd.R_mono (Kd.R_far (p := ⟨gb345, 3, none⟩) (Kd.R_far (p := ⟨gb345, 2, none⟩) (Kd.R_far (p := ⟨gb345, 1, none⟩) (Kd.R_far (p := ⟨gb345, 0, none⟩) (Kd.R_types HO341.out BK345.out (by decide)) (fun _ hk => hk.2) (.int .i64 t332)) (fun _ hk => hk.2) (.slice Ao15 t333.length co15)) (fun _ hk => hk.2) (.slice Ao16 t336.length co16)) (fun _ hk => hk.2) (.slice Ao17 t339.length co17)) (fun _ h_ => h_.1)))); (case side6 => exact (Kd.R_reads' HO341.out).2.1); rintro e w28 ⟨rfl, hb⟩; have n0_ := Aside0.mk (Kd.N_below (by (with_reducible repeat (first | apply Kd.N_alloc | apply Kd.N_drewN | apply Kd.N_drew)); exact (Kd.N_mono (Kd.N_far (p := ⟨gb345, 3, none⟩) (Kd.N_far (p := ⟨gb345, 2, none⟩) (Kd.N_far (p := ⟨gb345, 1, none⟩) (Kd.N_far (p := ⟨gb345, 0, none⟩) (Kd.N_mono HO335.out (fun k_ hk => (⟨hk, hk.2⟩ : _ ∧ k_ ≠ gb345))) (fun _ hk => hk.2) (.int .i64 t332)) (fun _ hk => hk.2) (.slice Ao15 t333.length co15)) (fun _ hk => hk.2) (.slice Ao16 t336.length co16)) (fun _ hk => hk.2) (.slice Ao17 t339.length co17)) (fun _ h_ => h_.1))) hb); have n1_ := Aside0.mk (Kd.N_below (by (with_reducible repeat (first | apply Kd.N_alloc | apply Kd.N_drewN | apply Kd.N_drew)); exact (Kd.N_mono (Kd.N_far (p := ⟨gb345, 3, none⟩) (Kd.N_far (p := ⟨gb345, 2, none⟩) (Kd.N_far (p := ⟨gb345, 1, none⟩) (Kd.N_far (p := ⟨gb345, 0, none⟩) (Kd.N_mono HO338.out (fun k_ hk => (⟨hk, hk.2⟩ : _ ∧ k_ ≠ gb345))) (fun _ hk => hk.2) (.int .i64 t332)) (fun _ hk => hk.2) (.slice Ao15 t333.length co15)) (fun _ hk => hk.2) (.slice Ao16 t336.length co16)) (fun _ hk => hk.2) (.slice Ao17 t339.length co17)) (fun _ h_ => h_.1))) hb); have n2_ := Aside0.mk (Kd.R_below (by (with_reducible repeat (first | apply Kd.R_alloc | apply Kd.R_drewN | apply Kd.R_drew)); exact (Kd.R_mono (Kd.R_far (p := ⟨gb345, 3, none⟩) (Kd.R_far (p := ⟨gb345, 2, none⟩) (Kd.R_far (p := ⟨gb345, 1, none⟩) (Kd.R_far (p := ⟨gb345, 0, none⟩) (Kd.R_types HO341.out BK345.out (by decide)) (fun _ hk => hk.2) (.int .i64 t332)) (fun _ hk => hk.2) (.slice Ao15 t333.length co15)) (fun _ hk => hk.2) (.slice Ao16 t336.length co16)) (fun _ hk => hk.2) (.slice Ao17 t339.length co17)) (fun _ h_ => h_.1))) hb); have n3_ := Aside0.mk (Kd.N_below (by (with_reducible repeat (first | apply Kd.N_alloc | apply Kd.N_drewN | apply Kd.N_drew)); exact (Kd.N_mono (Kd.N_far (p := ⟨gb345, 3, none⟩) (Kd.N_far (p := ⟨gb345, 2, none⟩) (Kd.N_far (p := ⟨gb345, 1, none⟩) (Kd.N_far (p := ⟨gb345, 0, none⟩) (Kd.N_mono HO344.out (fun k_ hk => (⟨hk, hk.2⟩ : _ ∧ k_ ≠ gb345))) (fun _ hk => hk.2) (.int .i64 t332)) (fun _ hk => hk.2) (.slice Ao15 t333.length co15)) (fun _ hk => hk.2) (.slice Ao16 t336.length co16)) (fun _ hk => hk.2) (.slice Ao17 t339.length co17)) (fun _ h_ => h_.1))) hb); have n4_ := Aside0.mk (blk_below (g := gb345) (o := .cells #[.int .i64 t332, .slice Ao15 t333.length co15, .slice Ao16 t336.length co16, .slice Ao17 t339.length co17] 28 (0, 0)) (by (with_reducible repeat (first | refine blk_drewN ?_ _ | refine blk_drew ?_ | refine blk_alloc ?_ _)); refine blk_put (cs := #[.int .i64 t332, .slice Ao15 t333.length co15, .slice Ao16 t336.length co16, .slice none 0 0]) ?_ 3 _ rfl; (with_reducible repeat (first | refine blk_drewN ?_ _ | refine blk_drew ?_ | refine blk_alloc ?_ _)); refine blk_put (cs := #[.int .i64 t332, .slice Ao15 t333.length co15, .slice none 0 0, .slice none 0 0]) ?_ 2 _ rfl; (with_reducible repeat (first | refine blk_drewN ?_ _ | refine blk_drew ?_ | refine blk_alloc ?_ _)); refine blk_put (cs := #[.int .i64 t332, .slice none 0 0, .slice none 0 0, .slice none 0 0]) ?_ 1 _ rfl; (with_reducible repeat (first | refine blk_drewN ?_ _ | refine blk_drew ?_ | refine blk_alloc ?_ _)); refine blk_put (cs := #[.int .i64 0, .slice none 0 0, .slice none 0 0, .slice none 0 0]) ?_ 0 _ rfl; (with_reducible repeat (first | refine blk_drewN ?_ _ | refine blk_drew ?_ | refine blk_alloc ?_ _)); exact BK345.out) hb); have n5_ := Aside0.mk (below_step (by repeat (first | (with_reducible first | exact HB.out | apply below_alloc | apply pw_below_drewN | apply below_drew1 | refine below_set ?_ GE345.out) | exact HB.out)) hb); clear HO335; clear HO338; clear HO341; clear HO344; clear BK345; clear HB; have HO335 := n0_; have HO338 := n1_; have HO341 := n2_; have HO344 := n3_; have BK345 := n4_; have HB := n5_; clear n0_ n1_ n2_ n3_ n4_ n5_; (try clear hb); (try clear hb2); (try clear hk); (try clear hi)))
   go_meet
   case rel => exact ⟨_, (true), (by first | rfl | (simp; done) | (simp [*]; done)), H', ⟨by have := HJ1.out; first | omega | exact Nat.le_refl _⟩, ⟨by (with_reducible repeat (first | apply Kd.N_alloc | apply Kd.N_drewN | apply Kd.N_drew)); exact Kd.N_mono HO344.out (fun _ hk => ⟨hk.1.1, ⟨hk.1.2.1, ⟨hk.1.2.2, hk.2⟩⟩⟩)⟩, ⟨by (with_reducible repeat (first | apply Kd.N_alloc | apply Kd.N_drewN | apply Kd.N_drew)); exact Kd.N_mono HO335.out (fun _ hk => ⟨hk.1.2.2, ⟨hk.1.1, ⟨hk.1.2.1, hk.2⟩⟩⟩)⟩, ⟨by (with_reducible repeat (first | apply Kd.N_alloc | apply Kd.N_drewN | apply Kd.N_drew)); exact Kd.N_mono HO338.out (fun _ hk => ⟨hk.1.2.2, ⟨hk.1.1, ⟨hk.1.2.1, hk.2⟩⟩⟩)⟩, ⟨by (with_reducible repeat (first | apply Kd.R_alloc | apply Kd.R_drewN | apply Kd.R_drew)); exact HO341.out⟩, ⟨by (with_reducible repeat (first | refine blk_drewN ?_ _ | refine blk_drew ?_ | refine blk_alloc ?_ _)); exact BK345.out⟩, ⟨by repeat (first | (with_reducible first | exact HB.out | apply below_alloc | apply pw_below_drewN | apply below_drew1 | refine below_set ?_ GE345.out) | exact HB.out)⟩⟩
  rw [if_pos c19] at H
  have c19b0 : (t346 == 0) = true := beq_iff_eq.mpr c19
  have c19b1 : (t346 != 0) = false := bne_eq_false_iff_eq.mpr c19
  clear c19
  (first | rw [c19b0] | (simp only [i64_w, i32_w]; rw [c19b0]) | skip)
  by_cases c20 : (t342.length : Int) > 8000
  ·rw [if_pos c20] at H
   have c20b0 : decide (8000 < (t342.length : Int)) = true := decide_eq_true c20
   have c20b1 : decide (8000 < t342.length) = true := decide_eq_true (by omega)
   clear c20
   have H' := Aside0.mk H
   clear H
   have hcz21_0 : w13.cell? ⟨gb345, 0, none⟩ = some (.int .i64 0) := (blk_cell BK345.out 0).trans rfl
   have hcz21_1 : w13.cell? ⟨gb345, 1, none⟩ = some (.slice none 0 0) := (blk_cell BK345.out 1).trans rfl
   have hcz21_2 : w13.cell? ⟨gb345, 2, none⟩ = some (.slice none 0 0) := (blk_cell BK345.out 2).trans rfl
   have hcz21_3 : w13.cell? ⟨gb345, 3, none⟩ = some (.slice none 0 0) := (blk_cell BK345.out 3).trans rfl
   have hfz21_0 := blk_frozen BK345.out 0
   have hfz21_1 := blk_frozen BK345.out 1
   have hfz21_2 := blk_frozen BK345.out 2
   have hfz21_3 := blk_frozen BK345.out 3
   go_wp2_with (first | ((with_reducible refine gate_callee (f := 13) rfl ?_); refine goesL_ (some 20) rfl rfl Tryd.func13 (by kernel_rfl) rfl #[.agg #[.int .i64 t332, .slice Ao15 t333.length co15, .slice Ao16 t336.length co16, .slice Ao17 t339.length co17]] rfl (by (try simp only [List.map_toArray, List.map_cons, List.map_nil]); first | done | rfl | (simp only [List.length_drop, List.length_take]; rfl)) ?_; (with_reducible refine (treelineref20_Check.calls kj1 t332 _ _ t333 _ _ t336 _ _ t339 t346 _ ?side1 ?side2 ?side3 ?side4 ?side5 ?side6 A18.out).mono ?_); (case side1 => refine (Kd.N_reads' (e := 51) (base := w.heap.size) (ok := fun k_ => ((some k_ ≠ (.slice Ao16 t336.length co16 : Value).ownBlock ∧ (some k_ ≠ (.slice Ao17 t339.length co17 : Value).ownBlock ∧ some k_ ≠ (v343 : Value).ownBlock)) ∧ k_ ≠ gb345)) (n := t333.length) (c := co15) ?_).2.2; exact (by (with_reducible repeat (first | apply Kd.N_alloc | apply Kd.N_drewN | apply Kd.N_drew)); exact (Kd.N_mono (Kd.N_far (p := ⟨gb345, 3, none⟩) (Kd.N_far (p := ⟨gb345, 2, none⟩) (Kd.N_far (p := ⟨gb345, 1, none⟩) (Kd.N_far (p := ⟨gb345, 0, none⟩) (Kd.N_mono HO335.out (fun k_ hk => (⟨hk, hk.2⟩ : _ ∧ k_ ≠ gb345))) (fun _ hk => hk.2) (.int .i64 t332)) (fun _ hk => hk.2) (.slice Ao15 t333.length co15)) (fun _ hk => hk.2) (.slice Ao16 t336.length co16)) (fun _ hk => hk.2) (.slice Ao17 t339.length co17)) (fun _ h_ => h_.1)))); (case side2 => exact (Kd.N_reads' HO335.out).2.1); (case side3 => refine (Kd.N_reads' (e := 64) (base := w.heap.size) (ok := fun k_ => ((some k_ ≠ (.slice Ao15 t333.length co15 : Value).ownBlock ∧ (some k_ ≠ (.slice Ao17 t339.length co17 : Value).ownBlock ∧ some k_ ≠ (v343 : Value).ownBlock)) ∧ k_ ≠ gb345)) (n := t336.length) (c := co16) ?_).2.2; exact (by (with_reducible repeat (first | apply Kd.N_alloc | apply Kd.N_drewN | apply Kd.N_drew)); exact (Kd.N_mono (Kd.N_far (p := ⟨gb345, 3, none⟩) (Kd.N_far (p := ⟨gb345, 2, none⟩) (Kd.N_far (p := ⟨gb345, 1, none⟩) (Kd.N_far (p := ⟨gb345, 0, none⟩) (Kd.N_mono HO338.out (fun k_ hk => (⟨hk, hk.2⟩ : _ ∧ k_ ≠ gb345))) (fun _ hk => hk.2) (.int .i64 t332)) (fun _ hk => hk.2) (.slice Ao15 t333.length co15)) (fun _ hk => hk.2) (.slice Ao16 t336.length co16)) (fun _ hk => hk.2) (.slice Ao17 t339.length co17)) (fun _ h_ => h_.1)))); (case side4 => exact (Kd.N_reads' HO338.out).2.1); (case side5 => refine (Kd.R_reads' (e := 66) (base := w.heap.size) (ok := fun k_ => True) (n := t339.length) (c := co17) ?_).2.2; exact (by (with_reducible repeat (first | apply Kd.R_alloc | apply Kd.R_drewN | apply Kd.R_drew)); exact (Kd.R_mono (Kd.R_far (p := ⟨gb345, 3, none⟩) (Kd.R_far (p := ⟨gb345, 2, none⟩) (Kd.R_far (p := ⟨gb345, 1, none⟩) (Kd.R_far (p := ⟨gb345, 0, none⟩) (Kd.R_types HO341.out BK345.out (by decide)) (fun _ hk => hk.2) (.int .i64 t332)) (fun _ hk => hk.2) (.slice Ao15 t333.length co15)) (fun _ hk => hk.2) (.slice Ao16 t336.length co16)) (fun _ hk => hk.2) (.slice Ao17 t339.length co17)) (fun _ h_ => h_.1)))); (case side6 => exact (Kd.R_reads' HO341.out).2.1); rintro e w22 ⟨rfl, hb⟩; refine ⟨_, rfl, ?_⟩; have n0_ := Aside0.mk (Kd.N_below (by (with_reducible repeat (first | apply Kd.N_alloc | apply Kd.N_drewN | apply Kd.N_drew)); exact (Kd.N_mono (Kd.N_far (p := ⟨gb345, 3, none⟩) (Kd.N_far (p := ⟨gb345, 2, none⟩) (Kd.N_far (p := ⟨gb345, 1, none⟩) (Kd.N_far (p := ⟨gb345, 0, none⟩) (Kd.N_mono HO335.out (fun k_ hk => (⟨hk, hk.2⟩ : _ ∧ k_ ≠ gb345))) (fun _ hk => hk.2) (.int .i64 t332)) (fun _ hk => hk.2) (.slice Ao15 t333.length co15)) (fun _ hk => hk.2) (.slice Ao16 t336.length co16)) (fun _ hk => hk.2) (.slice Ao17 t339.length co17)) (fun _ h_ => h_.1))) hb); have n1_ := Aside0.mk (Kd.N_below (by (with_reducible repeat (first | apply Kd.N_alloc | apply Kd.N_drewN | apply Kd.N_drew)); exact (Kd.N_mono (Kd.N_far (p := ⟨gb345, 3, none⟩) (Kd.N_far (p := ⟨gb345, 2, none⟩) (Kd.N_far (p := ⟨gb345, 1, none⟩) (Kd.N_far (p := ⟨gb345, 0, none⟩) (Kd.N_mono HO338.out (fun k_ hk => (⟨hk, hk.2⟩ : _ ∧ k_ ≠ gb345))) (fun _ hk => hk.2) (.int .i64 t332)) (fun _ hk => hk.2) (.slice Ao15 t333.length co15)) (fun _ hk => hk.2) (.slice Ao16 t336.length co16)) (fun _ hk => hk.2) (.slice Ao17 t339.length co17)) (fun _ h_ => h_.1))) hb); have n2_ := Aside0.mk (Kd.R_below (by (with_reducible repeat (first | apply Kd.R_alloc | apply Kd.R_drewN | apply Kd.R_drew)); exact (Kd.R_mono (Kd.R_far (p := ⟨gb345, 3, none⟩) (Kd.R_far (p := ⟨gb345, 2, none⟩) (Kd.R_far (p := ⟨gb345, 1, none⟩) (Kd.R_far (p := ⟨gb345, 0, none⟩) (Kd.R_types HO341.out BK345.out (by decide)) (fun _ hk => hk.2) (.int .i64 t332)) (fun _ hk => hk.2) (.slice Ao15 t333.length co15)) (fun _ hk => hk.2) (.slice Ao16 t336.length co16)) (fun _ hk => hk.2) (.slice Ao17 t339.length co17)) (fun _ h_ => h_.1))) hb); have n3_ := Aside0.mk (Kd.N_below (by (with_reducible repeat (first | apply Kd.N_alloc | apply Kd.N_drewN | apply Kd.N_drew)); exact (Kd.N_mono (Kd.N_far (p := ⟨gb345, 3, none⟩) (Kd.N_far (p := ⟨gb345, 2, none⟩) (Kd.N_far (p := ⟨gb345, 1, none⟩) (Kd.N_far (p := ⟨gb345, 0, none⟩) (Kd.N_mono HO344.out (fun k_ hk => (⟨hk, hk.2⟩ : _ ∧ k_ ≠ gb345))) (fun _ hk => hk.2) (.int .i64 t332)) (fun _ hk => hk.2) (.slice Ao15 t333.length co15)) (fun _ hk => hk.2) (.slice Ao16 t336.length co16)) (fun _ hk => hk.2) (.slice Ao17 t339.length co17)) (fun _ h_ => h_.1))) hb); have n4_ := Aside0.mk (blk_below (g := gb345) (o := .cells #[.int .i64 t332, .slice Ao15 t333.length co15, .slice Ao16 t336.length co16, .slice Ao17 t339.length co17] 28 (0, 0)) (by (with_reducible repeat (first | refine blk_drewN ?_ _ | refine blk_drew ?_ | refine blk_alloc ?_ _)); refine blk_put (cs := #[.int .i64 t332, .slice Ao15 t333.length co15, .slice Ao16 t336.length co16, .slice none 0 0]) ?_ 3 _ rfl; (with_reducible repeat (first | refine blk_drewN ?_ _ | refine blk_drew ?_ | refine blk_alloc ?_ _)); refine blk_put (cs := #[.int .i64 t332, .slice Ao15 t333.length co15, .slice none 0 0, .slice none 0 0]) ?_ 2 _ rfl; (with_reducible repeat (first | refine blk_drewN ?_ _ | refine blk_drew ?_ | refine blk_alloc ?_ _)); refine blk_put (cs := #[.int .i64 t332, .slice none 0 0, .slice none 0 0, .slice none 0 0]) ?_ 1 _ rfl; (with_reducible repeat (first | refine blk_drewN ?_ _ | refine blk_drew ?_ | refine blk_alloc ?_ _)); refine blk_put (cs := #[.int .i64 0, .slice none 0 0, .slice none 0 0, .slice none 0 0]) ?_ 0 _ rfl; (with_reducible repeat (first | refine blk_drewN ?_ _ | refine blk_drew ?_ | refine blk_alloc ?_ _)); exact BK345.out) hb); have n5_ := Aside0.mk (below_step (by repeat (first | (with_reducible first | exact HB.out | apply below_alloc | apply pw_below_drewN | apply below_drew1 | refine below_set ?_ GE345.out) | exact HB.out)) hb); clear HO335; clear HO338; clear HO341; clear HO344; clear BK345; clear HB; have HO335 := n0_; have HO338 := n1_; have HO341 := n2_; have HO344 := n3_; have BK345 := n4_; have HB := n5_; clear n0_ n1_ n2_ n3_ n4_ n5_; (try clear hb); (try clear hb2); (try clear hk); (try clear hi); obtain ⟨Ao23, co23, eo23⟩ := Kd.N_slice HO344.out; subst eo23) | (go_at_call 13; (with_reducible refine (treelineref20_Check.calls kj1 t332 _ _ t333 _ _ t336 _ _ t339 t346 _ ?side1 ?side2 ?side3 ?side4 ?side5 ?side6 A18.out).mono ?_); (case side1 => refine (Kd.N_reads' (e := 51) (base := w.heap.size) (ok := fun k_ => ((some k_ ≠ (.slice Ao16 t336.length co16 : Value).ownBlock ∧ (some k_ ≠ (.slice Ao17 t339.length co17 : Value).ownBlock ∧ some k_ ≠ (v343 : Value).ownBlock)) ∧ k_ ≠ gb345)) (n := t333.length) (c := co15) ?_).2.2; exact (by (with_reducible repeat (first | apply Kd.N_alloc | apply Kd.N_drewN | apply Kd.N_drew)); exact (Kd.N_mono (Kd.N_far (p := ⟨gb345, 3, none⟩) (Kd.N_far (p := ⟨gb345, 2, none⟩) (Kd.N_far (p := ⟨gb345, 1, none⟩) (Kd.N_far (p := ⟨gb345, 0, none⟩) (Kd.N_mono HO335.out (fun k_ hk => (⟨hk, hk.2⟩ : _ ∧ k_ ≠ gb345))) (fun _ hk => hk.2) (.int .i64 t332)) (fun _ hk => hk.2) (.slice Ao15 t333.length co15)) (fun _ hk => hk.2) (.slice Ao16 t336.length co16)) (fun _ hk => hk.2) (.slice Ao17 t339.length co17)) (fun _ h_ => h_.1)))); (case side2 => exact (Kd.N_reads' HO335.out).2.1); (case side3 => refine (Kd.N_reads' (e := 64) (base := w.heap.size) (ok := fun k_ => ((some k_ ≠ (.slice Ao15 t333.length co15 : Value).ownBlock ∧ (some k_ ≠ (.slice Ao17 t339.length co17 : Value).ownBlock ∧ some k_ ≠ (v343 : Value).ownBlock)) ∧ k_ ≠ gb345)) (n := t336.length) (c := co16) ?_).2.2; exact (by (with_reducible repeat (first | apply Kd.N_alloc | apply Kd.N_drewN | apply Kd.N_drew)); exact (Kd.N_mono (Kd.N_far (p := ⟨gb345, 3, none⟩) (Kd.N_far (p := ⟨gb345, 2, none⟩) (Kd.N_far (p := ⟨gb345, 1, none⟩) (Kd.N_far (p := ⟨gb345, 0, none⟩) (Kd.N_mono HO338.out (fun k_ hk => (⟨hk, hk.2⟩ : _ ∧ k_ ≠ gb345))) (fun _ hk => hk.2) (.int .i64 t332)) (fun _ hk => hk.2) (.slice Ao15 t333.length co15)) (fun _ hk => hk.2) (.slice Ao16 t336.length co16)) (fun _ hk => hk.2) (.slice Ao17 t339.length co17)) (fun _ h_ => h_.1)))); (case side4 => exact (Kd.N_reads' HO338.out).2.1); (case side5 => refine (Kd.R_reads' (e := 66) (base := w.heap.size) (ok := fun k_ => True) (n := t339.length) (c := co17) ?_).2.2; exact (by (with_reducible repeat (first | apply Kd.R_alloc | apply Kd.R_drewN | apply Kd.R_drew)); exact (Kd.R_mono (Kd.R_far (p := ⟨gb345, 3, none⟩) (Kd.R_far (p := ⟨gb345, 2, none⟩) (Kd.R_far (p := ⟨gb345, 1, none⟩) (Kd.R_far (p := ⟨gb345, 0, none⟩) (Kd.R_types HO341.out BK345.out (by decide)) (fun _ hk => hk.2) (.int .i64 t332)) (fun _ hk => hk.2) (.slice Ao15 t333.length co15)) (fun _ hk => hk.2) (.slice Ao16 t336.length co16)) (fun _ hk => hk.2) (.slice Ao17 t339.length co17)) (fun _ h_ => h_.1)))); (case side6 => exact (Kd.R_reads' HO341.out).2.1); rintro e w22 ⟨rfl, hb⟩; have n0_ := Aside0.mk (Kd.N_below (by (with_reducible repeat (first | apply Kd.N_alloc | apply Kd.N_drewN | apply Kd.N_drew)); exact (Kd.N_mono (Kd.N_far (p := ⟨gb345, 3, none⟩) (Kd.N_far (p := ⟨gb345, 2, none⟩) (Kd.N_far (p := ⟨gb345, 1, none⟩) (Kd.N_far (p := ⟨gb345, 0, none⟩) (Kd.N_mono HO335.out (fun k_ hk => (⟨hk, hk.2⟩ : _ ∧ k_ ≠ gb345))) (fun _ hk => hk.2) (.int .i64 t332)) (fun _ hk => hk.2) (.slice Ao15 t333.length co15)) (fun _ hk => hk.2) (.slice Ao16 t336.length co16)) (fun _ hk => hk.2) (.slice Ao17 t339.length co17)) (fun _ h_ => h_.1))) hb); have n1_ := Aside0.mk (Kd.N_below (by (with_reducible repeat (first | apply Kd.N_alloc | apply Kd.N_drewN | apply Kd.N_drew)); exact (Kd.N_mono (Kd.N_far (p := ⟨gb345, 3, none⟩) (Kd.N_far (p := ⟨gb345, 2, none⟩) (Kd.N_far (p := ⟨gb345, 1, none⟩) (Kd.N_far (p := ⟨gb345, 0, none⟩) (Kd.N_mono HO338.out (fun k_ hk => (⟨hk, hk.2⟩ : _ ∧ k_ ≠ gb345))) (fun _ hk => hk.2) (.int .i64 t332)) (fun _ hk => hk.2) (.slice Ao15 t333.length co15)) (fun _ hk => hk.2) (.slice Ao16 t336.length co16)) (fun _ hk => hk.2) (.slice Ao17 t339.length co17)) (fun _ h_ => h_.1))) hb); have n2_ := Aside0.mk (Kd.R_below (by (with_reducible repeat (first | apply Kd.R_alloc | apply Kd.R_drewN | apply Kd.R_drew)); exact (Kd.R_mono (Kd.R_far (p := ⟨gb345, 3, none⟩) (Kd.R_far (p := ⟨gb345, 2, none⟩) (Kd.R_far (p := ⟨gb345, 1, none⟩) (Kd.R_far (p := ⟨gb345, 0, none⟩) (Kd.R_types HO341.out BK345.out (by decide)) (fun _ hk => hk.2) (.int .i64 t332)) (fun _ hk => hk.2) (.slice Ao15 t333.length co15)) (fun _ hk => hk.2) (.slice Ao16 t336.length co16)) (fun _ hk => hk.2) (.slice Ao17 t339.length co17)) (fun _ h_ => h_.1))) hb); have n3_ := Aside0.mk (Kd.N_below (by (with_reducible repeat (first | apply Kd.N_alloc | apply Kd.N_drewN | apply Kd.N_drew)); exact (Kd.N_mono (Kd.N_far (p := ⟨gb345, 3, none⟩) (Kd.N_far (p := ⟨gb345, 2, none⟩) (Kd.N_far (p := ⟨gb345, 1, none⟩) (Kd.N_far (p := ⟨gb345, 0, none⟩) (Kd.N_mono HO344.out (fun k_ hk => (⟨hk, hk.2⟩ : _ ∧ k_ ≠ gb345))) (fun _ hk => hk.2) (.int .i64 t332)) (fun _ hk => hk.2) (.slice Ao15 t333.length co15)) (fun _ hk => hk.2) (.slice Ao16 t336.length co16)) (fun _ hk => hk.2) (.slice Ao17 t339.length co17)) (fun _ h_ => h_.1))) hb); have n4_ := Aside0.mk (blk_below (g := gb345) (o := .cells #[.int .i64 t332, .slice Ao15 t333.length co15, .slice Ao16 t336.length co16, .slice Ao17 t339.length co17] 28 (0, 0)) (by (with_reducible repeat (first | refine blk_drewN ?_ _ | refine blk_drew ?_ | refine blk_alloc ?_ _)); refine blk_put (cs := #[.int .i64 t332, .slice Ao15 t333.length co15, .slice Ao16 t336.length co16, .slice none 0 0]) ?_ 3 _ rfl; (with_reducible repeat (first | refine blk_drewN ?_ _ | refine blk_drew ?_ | refine blk_alloc ?_ _)); refine blk_put (cs := #[.int .i64 t332, .slice Ao15 t333.length co15, .slice none 0 0, .slice none 0 0]) ?_ 2 _ rfl; (with_reducible repeat (first | refine blk_drewN ?_ _ | refine blk_drew ?_ | refine blk_alloc ?_ _)); refine blk_put (cs := #[.int .i64 t332, .slice none 0 0, .slice none 0 0, .slice none 0 0]) ?_ 1 _ rfl; (with_reducible repeat (first | refine blk_drewN ?_ _ | refine blk_drew ?_ | refine blk_alloc ?_ _)); refine blk_put (cs := #[.int .i64 0, .slice none 0 0, .slice none 0 0, .slice none 0 0]) ?_ 0 _ rfl; (with_reducible repeat (first | refine blk_drewN ?_ _ | refine blk_drew ?_ | refine blk_alloc ?_ _)); exact BK345.out) hb); have n5_ := Aside0.mk (below_step (by repeat (first | (with_reducible first | exact HB.out | apply below_alloc | apply pw_below_drewN | apply below_drew1 | refine below_set ?_ GE345.out) | exact HB.out)) hb); clear HO335; clear HO338; clear HO341; clear HO344; clear BK345; clear HB; have HO335 := n0_; have HO338 := n1_; have HO341 := n2_; have HO344 := n3_; have BK345 := n4_; have HB := n5_; clear n0_ n1_ n2_ n3_ n4_ n5_; (try clear hb); (try clear hb2); (try clear hk); (try clear hi); obtain ⟨Ao23, co23, eo23⟩ := Kd.N_slice HO344.out; subst eo23))
   go_meet
   case rel => exact ⟨_, (true), (by first | rfl | (simp; done) | (simp [*]; done)), H', ⟨by have := HJ1.out; first | omega | exact Nat.le_refl _⟩, ⟨by (with_reducible repeat (first | apply Kd.N_alloc | apply Kd.N_drewN | apply Kd.N_drew)); exact Kd.N_mono HO344.out (fun _ hk => ⟨hk.1.1, ⟨hk.1.2.1, ⟨hk.1.2.2, hk.2⟩⟩⟩)⟩, ⟨by (with_reducible repeat (first | apply Kd.N_alloc | apply Kd.N_drewN | apply Kd.N_drew)); exact Kd.N_mono HO335.out (fun _ hk => ⟨hk.1.2.2, ⟨hk.1.1, ⟨hk.1.2.1, hk.2⟩⟩⟩)⟩, ⟨by (with_reducible repeat (first | apply Kd.N_alloc | apply Kd.N_drewN | apply Kd.N_drew)); exact Kd.N_mono HO338.out (fun _ hk => ⟨hk.1.2.2, ⟨hk.1.1, ⟨hk.1.2.1, hk.2⟩⟩⟩)⟩, ⟨by (with_reducible repeat (first | apply Kd.R_alloc | apply Kd.R_drewN | apply Kd.R_drew)); exact HO341.out⟩, ⟨by (with_reducible repeat (first | refine blk_drewN ?_ _ | refine blk_drew ?_ | refine blk_alloc ?_ _)); exact BK345.out⟩, ⟨by repeat (first | (with_reducible first | exact HB.out | apply below_alloc | apply pw_below_drewN | apply below_drew1 | refine below_set ?_ GE345.out) | exact HB.out)⟩⟩
  rw [if_neg c20] at H
  have c20b0 : decide (8000 < (t342.length : Int)) = false := decide_eq_false c20
  have c20b1 : decide (8000 < t342.length) = false := decide_eq_false (by omega)
  clear c20
  have H' := Aside0.mk H
  clear H
  have hcz24_0 : w13.cell? ⟨gb345, 0, none⟩ = some (.int .i64 0) := (blk_cell BK345.out 0).trans rfl
  have hcz24_1 : w13.cell? ⟨gb345, 1, none⟩ = some (.slice none 0 0) := (blk_cell BK345.out 1).trans rfl
  have hcz24_2 : w13.cell? ⟨gb345, 2, none⟩ = some (.slice none 0 0) := (blk_cell BK345.out 2).trans rfl
  have hcz24_3 : w13.cell? ⟨gb345, 3, none⟩ = some (.slice none 0 0) := (blk_cell BK345.out 3).trans rfl
  have hfz24_0 := blk_frozen BK345.out 0
  have hfz24_1 := blk_frozen BK345.out 1
  have hfz24_2 := blk_frozen BK345.out 2
  have hfz24_3 := blk_frozen BK345.out 3
  go_wp2_with (first | ((with_reducible refine gate_callee (f := 13) rfl ?_); refine goesL_ (some 20) rfl rfl Tryd.func13 (by kernel_rfl) rfl #[.agg #[.int .i64 t332, .slice Ao15 t333.length co15, .slice Ao16 t336.length co16, .slice Ao17 t339.length co17]] rfl (by (try simp only [List.map_toArray, List.map_cons, List.map_nil]); first | done | rfl | (simp only [List.length_drop, List.length_take]; rfl)) ?_; (with_reducible refine (treelineref20_Check.calls kj1 t332 _ _ t333 _ _ t336 _ _ t339 t346 _ ?side1 ?side2 ?side3 ?side4 ?side5 ?side6 A18.out).mono ?_); (case side1 => refine (Kd.N_reads' (e := 51) (base := w.heap.size) (ok := fun k_ => ((some k_ ≠ (.slice Ao16 t336.length co16 : Value).ownBlock ∧ (some k_ ≠ (.slice Ao17 t339.length co17 : Value).ownBlock ∧ some k_ ≠ (v343 : Value).ownBlock)) ∧ k_ ≠ gb345)) (n := t333.length) (c := co15) ?_).2.2; exact (by (with_reducible repeat (first | apply Kd.N_alloc | apply Kd.N_drewN | apply Kd.N_drew)); exact (Kd.N_mono (Kd.N_far (p := ⟨gb345, 3, none⟩) (Kd.N_far (p := ⟨gb345, 2, none⟩) (Kd.N_far (p := ⟨gb345, 1, none⟩) (Kd.N_far (p := ⟨gb345, 0, none⟩) (Kd.N_mono HO335.out (fun k_ hk => (⟨hk, hk.2⟩ : _ ∧ k_ ≠ gb345))) (fun _ hk => hk.2) (.int .i64 t332)) (fun _ hk => hk.2) (.slice Ao15 t333.length co15)) (fun _ hk => hk.2) (.slice Ao16 t336.length co16)) (fun _ hk => hk.2) (.slice Ao17 t339.length co17)) (fun _ h_ => h_.1)))); (case side2 => exact (Kd.N_reads' HO335.out).2.1); (case side3 => refine (Kd.N_reads' (e := 64) (base := w.heap.size) (ok := fun k_ => ((some k_ ≠ (.slice Ao15 t333.length co15 : Value).ownBlock ∧ (some k_ ≠ (.slice Ao17 t339.length co17 : Value).ownBlock ∧ some k_ ≠ (v343 : Value).ownBlock)) ∧ k_ ≠ gb345)) (n := t336.length) (c := co16) ?_).2.2; exact (by (with_reducible repeat (first | apply Kd.N_alloc | apply Kd.N_drewN | apply Kd.N_drew)); exact (Kd.N_mono (Kd.N_far (p := ⟨gb345, 3, none⟩) (Kd.N_far (p := ⟨gb345, 2, none⟩) (Kd.N_far (p := ⟨gb345, 1, none⟩) (Kd.N_far (p := ⟨gb345, 0, none⟩) (Kd.N_mono HO338.out (fun k_ hk => (⟨hk, hk.2⟩ : _ ∧ k_ ≠ gb345))) (fun _ hk => hk.2) (.int .i64 t332)) (fun _ hk => hk.2) (.slice Ao15 t333.length co15)) (fun _ hk => hk.2) (.slice Ao16 t336.length co16)) (fun _ hk => hk.2) (.slice Ao17 t339.length co17)) (fun _ h_ => h_.1)))); (case side4 => exact (Kd.N_reads' HO338.out).2.1); (case side5 => refine (Kd.R_reads' (e := 66) (base := w.heap.size) (ok := fun k_ => True) (n := t339.length) (c := co17) ?_).2.2; exact (by (with_reducible repeat (first | apply Kd.R_alloc | apply Kd.R_drewN | apply Kd.R_drew)); exact (Kd.R_mono (Kd.R_far (p := ⟨gb345, 3, none⟩) (Kd.R_far (p := ⟨gb345, 2, none⟩) (Kd.R_far (p := ⟨gb345, 1, none⟩) (Kd.R_far (p := ⟨gb345, 0, none⟩) (Kd.R_types HO341.out BK345.out (by decide)) (fun _ hk => hk.2) (.int .i64 t332)) (fun _ hk => hk.2) (.slice Ao15 t333.length co15)) (fun _ hk => hk.2) (.slice Ao16 t336.length co16)) (fun _ hk => hk.2) (.slice Ao17 t339.length co17)) (fun _ h_ => h_.1)))); (case side6 => exact (Kd.R_reads' HO341.out).2.1); rintro e w25 ⟨rfl, hb⟩; refine ⟨_, rfl, ?_⟩; have n0_ := Aside0.mk (Kd.N_below (by (with_reducible repeat (first | apply Kd.N_alloc | apply Kd.N_drewN | apply Kd.N_drew)); exact (Kd.N_mono (Kd.N_far (p := ⟨gb345, 3, none⟩) (Kd.N_far (p := ⟨gb345, 2, none⟩) (Kd.N_far (p := ⟨gb345, 1, none⟩) (Kd.N_far (p := ⟨gb345, 0, none⟩) (Kd.N_mono HO335.out (fun k_ hk => (⟨hk, hk.2⟩ : _ ∧ k_ ≠ gb345))) (fun _ hk => hk.2) (.int .i64 t332)) (fun _ hk => hk.2) (.slice Ao15 t333.length co15)) (fun _ hk => hk.2) (.slice Ao16 t336.length co16)) (fun _ hk => hk.2) (.slice Ao17 t339.length co17)) (fun _ h_ => h_.1))) hb); have n1_ := Aside0.mk (Kd.N_below (by (with_reducible repeat (first | apply Kd.N_alloc | apply Kd.N_drewN | apply Kd.N_drew)); exact (Kd.N_mono (Kd.N_far (p := ⟨gb345, 3, none⟩) (Kd.N_far (p := ⟨gb345, 2, none⟩) (Kd.N_far (p := ⟨gb345, 1, none⟩) (Kd.N_far (p := ⟨gb345, 0, none⟩) (Kd.N_mono HO338.out (fun k_ hk => (⟨hk, hk.2⟩ : _ ∧ k_ ≠ gb345))) (fun _ hk => hk.2) (.int .i64 t332)) (fun _ hk => hk.2) (.slice Ao15 t333.length co15)) (fun _ hk => hk.2) (.slice Ao16 t336.length co16)) (fun _ hk => hk.2) (.slice Ao17 t339.length co17)) (fun _ h_ => h_.1))) hb); have n2_ := Aside0.mk (Kd.R_below (by (with_reducible repeat (first | apply Kd.R_alloc | apply Kd.R_drewN | apply Kd.R_drew)); exact (Kd.R_mono (Kd.R_far (p := ⟨gb345, 3, none⟩) (Kd.R_far (p := ⟨gb345, 2, none⟩) (Kd.R_far (p := ⟨gb345, 1, none⟩) (Kd.R_far (p := ⟨gb345, 0, none⟩) (Kd.R_types HO341.out BK345.out (by decide)) (fun _ hk => hk.2) (.int .i64 t332)) (fun _ hk => hk.2) (.slice Ao15 t333.length co15)) (fun _ hk => hk.2) (.slice Ao16 t336.length co16)) (fun _ hk => hk.2) (.slice Ao17 t339.length co17)) (fun _ h_ => h_.1))) hb); have n3_ := Aside0.mk (Kd.N_below (by (with_reducible repeat (first | apply Kd.N_alloc | apply Kd.N_drewN | apply Kd.N_drew)); exact (Kd.N_mono (Kd.N_far (p := ⟨gb345, 3, none⟩) (Kd.N_far (p := ⟨gb345, 2, none⟩) (Kd.N_far (p := ⟨gb345, 1, none⟩) (Kd.N_far (p := ⟨gb345, 0, none⟩) (Kd.N_mono HO344.out (fun k_ hk => (⟨hk, hk.2⟩ : _ ∧ k_ ≠ gb345))) (fun _ hk => hk.2) (.int .i64 t332)) (fun _ hk => hk.2) (.slice Ao15 t333.length co15)) (fun _ hk => hk.2) (.slice Ao16 t336.length co16)) (fun _ hk => hk.2) (.slice Ao17 t339.length co17)) (fun _ h_ => h_.1))) hb); have n4_ := Aside0.mk (blk_below (g := gb345) (o := .cells #[.int .i64 t332, .slice Ao15 t333.length co15, .slice Ao16 t336.length co16, .slice Ao17 t339.length co17] 28 (0, 0)) (by (with_reducible repeat (first | refine blk_drewN ?_ _ | refine blk_drew ?_ | refine blk_alloc ?_ _)); refine blk_put (cs := #[.int .i64 t332, .slice Ao15 t333.length co15, .slice Ao16 t336.length co16, .slice none 0 0]) ?_ 3 _ rfl; (with_reducible repeat (first | refine blk_drewN ?_ _ | refine blk_drew ?_ | refine blk_alloc ?_ _)); refine blk_put (cs := #[.int .i64 t332, .slice Ao15 t333.length co15, .slice none 0 0, .slice none 0 0]) ?_ 2 _ rfl; (with_reducible repeat (first | refine blk_drewN ?_ _ | refine blk_drew ?_ | refine blk_alloc ?_ _)); refine blk_put (cs := #[.int .i64 t332, .slice none 0 0, .slice none 0 0, .slice none 0 0]) ?_ 1 _ rfl; (with_reducible repeat (first | refine blk_drewN ?_ _ | refine blk_drew ?_ | refine blk_alloc ?_ _)); refine blk_put (cs := #[.int .i64 0, .slice none 0 0, .slice none 0 0, .slice none 0 0]) ?_ 0 _ rfl; (with_reducible repeat (first | refine blk_drewN ?_ _ | refine blk_drew ?_ | refine blk_alloc ?_ _)); exact BK345.out) hb); have n5_ := Aside0.mk (below_step (by repeat (first | (with_reducible first | exact HB.out | apply below_alloc | apply pw_below_drewN | apply below_drew1 | refine below_set ?_ GE345.out) | exact HB.out)) hb); clear HO335; clear HO338; clear HO341; clear HO344; clear BK345; clear HB; have HO335 := n0_; have HO338 := n1_; have HO341 := n2_; have HO344 := n3_; have BK345 := n4_; have HB := n5_; clear n0_ n1_ n2_ n3_ n4_ n5_; (try clear hb); (try clear hb2); (try clear hk); (try clear hi); obtain ⟨Ao26, co26, eo26⟩ := Kd.N_slice HO344.out; subst eo26) | (go_at_call 13; (with_reducible refine (treelineref20_Check.calls kj1 t332 _ _ t333 _ _ t336 _ _ t339 t346 _ ?side1 ?side2 ?side3 ?side4 ?side5 ?side6 A18.out).mono ?_); (case side1 => refine (Kd.N_reads' (e := 51) (base := w.heap.size) (ok := fun k_ => ((some k_ ≠ (.slice Ao16 t336.length co16 : Value).ownBlock ∧ (some k_ ≠ (.slice Ao17 t339.length co17 : Value).ownBlock ∧ some k_ ≠ (v343 : Value).ownBlock)) ∧ k_ ≠ gb345)) (n := t333.length) (c := co15) ?_).2.2; exact (by (with_reducible repeat (first | apply Kd.N_alloc | apply Kd.N_drewN | apply Kd.N_drew)); exact (Kd.N_mono (Kd.N_far (p := ⟨gb345, 3, none⟩) (Kd.N_far (p := ⟨gb345, 2, none⟩) (Kd.N_far (p := ⟨gb345, 1, none⟩) (Kd.N_far (p := ⟨gb345, 0, none⟩) (Kd.N_mono HO335.out (fun k_ hk => (⟨hk, hk.2⟩ : _ ∧ k_ ≠ gb345))) (fun _ hk => hk.2) (.int .i64 t332)) (fun _ hk => hk.2) (.slice Ao15 t333.length co15)) (fun _ hk => hk.2) (.slice Ao16 t336.length co16)) (fun _ hk => hk.2) (.slice Ao17 t339.length co17)) (fun _ h_ => h_.1)))); (case side2 => exact (Kd.N_reads' HO335.out).2.1); (case side3 => refine (Kd.N_reads' (e := 64) (base := w.heap.size) (ok := fun k_ => ((some k_ ≠ (.slice Ao15 t333.length co15 : Value).ownBlock ∧ (some k_ ≠ (.slice Ao17 t339.length co17 : Value).ownBlock ∧ some k_ ≠ (v343 : Value).ownBlock)) ∧ k_ ≠ gb345)) (n := t336.length) (c := co16) ?_).2.2; exact (by (with_reducible repeat (first | apply Kd.N_alloc | apply Kd.N_drewN | apply Kd.N_drew)); exact (Kd.N_mono (Kd.N_far (p := ⟨gb345, 3, none⟩) (Kd.N_far (p := ⟨gb345, 2, none⟩) (Kd.N_far (p := ⟨gb345, 1, none⟩) (Kd.N_far (p := ⟨gb345, 0, none⟩) (Kd.N_mono HO338.out (fun k_ hk => (⟨hk, hk.2⟩ : _ ∧ k_ ≠ gb345))) (fun _ hk => hk.2) (.int .i64 t332)) (fun _ hk => hk.2) (.slice Ao15 t333.length co15)) (fun _ hk => hk.2) (.slice Ao16 t336.length co16)) (fun _ hk => hk.2) (.slice Ao17 t339.length co17)) (fun _ h_ => h_.1)))); (case side4 => exact (Kd.N_reads' HO338.out).2.1); (case side5 => refine (Kd.R_reads' (e := 66) (base := w.heap.size) (ok := fun k_ => True) (n := t339.length) (c := co17) ?_).2.2; exact (by (with_reducible repeat (first | apply Kd.R_alloc | apply Kd.R_drewN | apply Kd.R_drew)); exact (Kd.R_mono (Kd.R_far (p := ⟨gb345, 3, none⟩) (Kd.R_far (p := ⟨gb345, 2, none⟩) (Kd.R_far (p := ⟨gb345, 1, none⟩) (Kd.R_far (p := ⟨gb345, 0, none⟩) (Kd.R_types HO341.out BK345.out (by decide)) (fun _ hk => hk.2) (.int .i64 t332)) (fun _ hk => hk.2) (.slice Ao15 t333.length co15)) (fun _ hk => hk.2) (.slice Ao16 t336.length co16)) (fun _ hk => hk.2) (.slice Ao17 t339.length co17)) (fun _ h_ => h_.1)))); (case side6 => exact (Kd.R_reads' HO341.out).2.1); rintro e w25 ⟨rfl, hb⟩; have n0_ := Aside0.mk (Kd.N_below (by (with_reducible repeat (first | apply Kd.N_alloc | apply Kd.N_drewN | apply Kd.N_drew)); exact (Kd.N_mono (Kd.N_far (p := ⟨gb345, 3, none⟩) (Kd.N_far (p := ⟨gb345, 2, none⟩) (Kd.N_far (p := ⟨gb345, 1, none⟩) (Kd.N_far (p := ⟨gb345, 0, none⟩) (Kd.N_mono HO335.out (fun k_ hk => (⟨hk, hk.2⟩ : _ ∧ k_ ≠ gb345))) (fun _ hk => hk.2) (.int .i64 t332)) (fun _ hk => hk.2) (.slice Ao15 t333.length co15)) (fun _ hk => hk.2) (.slice Ao16 t336.length co16)) (fun _ hk => hk.2) (.slice Ao17 t339.length co17)) (fun _ h_ => h_.1))) hb); have n1_ := Aside0.mk (Kd.N_below (by (with_reducible repeat (first | apply Kd.N_alloc | apply Kd.N_drewN | apply Kd.N_drew)); exact (Kd.N_mono (Kd.N_far (p := ⟨gb345, 3, none⟩) (Kd.N_far (p := ⟨gb345, 2, none⟩) (Kd.N_far (p := ⟨gb345, 1, none⟩) (Kd.N_far (p := ⟨gb345, 0, none⟩) (Kd.N_mono HO338.out (fun k_ hk => (⟨hk, hk.2⟩ : _ ∧ k_ ≠ gb345))) (fun _ hk => hk.2) (.int .i64 t332)) (fun _ hk => hk.2) (.slice Ao15 t333.length co15)) (fun _ hk => hk.2) (.slice Ao16 t336.length co16)) (fun _ hk => hk.2) (.slice Ao17 t339.length co17)) (fun _ h_ => h_.1))) hb); have n2_ := Aside0.mk (Kd.R_below (by (with_reducible repeat (first | apply Kd.R_alloc | apply Kd.R_drewN | apply Kd.R_drew)); exact (Kd.R_mono (Kd.R_far (p := ⟨gb345, 3, none⟩) (Kd.R_far (p := ⟨gb345, 2, none⟩) (Kd.R_far (p := ⟨gb345, 1, none⟩) (Kd.R_far (p := ⟨gb345, 0, none⟩) (Kd.R_types HO341.out BK345.out (by decide)) (fun _ hk => hk.2) (.int .i64 t332)) (fun _ hk => hk.2) (.slice Ao15 t333.length co15)) (fun _ hk => hk.2) (.slice Ao16 t336.length co16)) (fun _ hk => hk.2) (.slice Ao17 t339.length co17)) (fun _ h_ => h_.1))) hb); have n3_ := Aside0.mk (Kd.N_below (by (with_reducible repeat (first | apply Kd.N_alloc | apply Kd.N_drewN | apply Kd.N_drew)); exact (Kd.N_mono (Kd.N_far (p := ⟨gb345, 3, none⟩) (Kd.N_far (p := ⟨gb345, 2, none⟩) (Kd.N_far (p := ⟨gb345, 1, none⟩) (Kd.N_far (p := ⟨gb345, 0, none⟩) (Kd.N_mono HO344.out (fun k_ hk => (⟨hk, hk.2⟩ : _ ∧ k_ ≠ gb345))) (fun _ hk => hk.2) (.int .i64 t332)) (fun _ hk => hk.2) (.slice Ao15 t333.length co15)) (fun _ hk => hk.2) (.slice Ao16 t336.length co16)) (fun _ hk => hk.2) (.slice Ao17 t339.length co17)) (fun _ h_ => h_.1))) hb); have n4_ := Aside0.mk (blk_below (g := gb345) (o := .cells #[.int .i64 t332, .slice Ao15 t333.length co15, .slice Ao16 t336.length co16, .slice Ao17 t339.length co17] 28 (0, 0)) (by (with_reducible repeat (first | refine blk_drewN ?_ _ | refine blk_drew ?_ | refine blk_alloc ?_ _)); refine blk_put (cs := #[.int .i64 t332, .slice Ao15 t333.length co15, .slice Ao16 t336.length co16, .slice none 0 0]) ?_ 3 _ rfl; (with_reducible repeat (first | refine blk_drewN ?_ _ | refine blk_drew ?_ | refine blk_alloc ?_ _)); refine blk_put (cs := #[.int .i64 t332, .slice Ao15 t333.length co15, .slice none 0 0, .slice none 0 0]) ?_ 2 _ rfl; (with_reducible repeat (first | refine blk_drewN ?_ _ | refine blk_drew ?_ | refine blk_alloc ?_ _)); refine blk_put (cs := #[.int .i64 t332, .slice none 0 0, .slice none 0 0, .slice none 0 0]) ?_ 1 _ rfl; (with_reducible repeat (first | refine blk_drewN ?_ _ | refine blk_drew ?_ | refine blk_alloc ?_ _)); refine blk_put (cs := #[.int .i64 0, .slice none 0 0, .slice none 0 0, .slice none 0 0]) ?_ 0 _ rfl; (with_reducible repeat (first | refine blk_drewN ?_ _ | refine blk_drew ?_ | refine blk_alloc ?_ _)); exact BK345.out) hb); have n5_ := Aside0.mk (below_step (by repeat (first | (with_reducible first | exact HB.out | apply below_alloc | apply pw_below_drewN | apply below_drew1 | refine below_set ?_ GE345.out) | exact HB.out)) hb); clear HO335; clear HO338; clear HO341; clear HO344; clear BK345; clear HB; have HO335 := n0_; have HO338 := n1_; have HO341 := n2_; have HO344 := n3_; have BK345 := n4_; have HB := n5_; clear n0_ n1_ n2_ n3_ n4_ n5_; (try clear hb); (try clear hb2); (try clear hk); (try clear hi); obtain ⟨Ao26, co26, eo26⟩ := Kd.N_slice HO344.out; subst eo26))
  go_meet
  case rel => exact ⟨_, (decide ((t342.length : Int) > (l0.length : Int))), (by first | rfl | (simp; done) | (simp [*]; done)), H', ⟨by have := HJ1.out; first | omega | exact Nat.le_refl _⟩, ⟨by (with_reducible repeat (first | apply Kd.N_alloc | apply Kd.N_drewN | apply Kd.N_drew)); exact Kd.N_mono HO344.out (fun _ hk => ⟨hk.1.1, ⟨hk.1.2.1, ⟨hk.1.2.2, hk.2⟩⟩⟩)⟩, ⟨by (with_reducible repeat (first | apply Kd.N_alloc | apply Kd.N_drewN | apply Kd.N_drew)); exact Kd.N_mono HO335.out (fun _ hk => ⟨hk.1.2.2, ⟨hk.1.1, ⟨hk.1.2.1, hk.2⟩⟩⟩)⟩, ⟨by (with_reducible repeat (first | apply Kd.N_alloc | apply Kd.N_drewN | apply Kd.N_drew)); exact Kd.N_mono HO338.out (fun _ hk => ⟨hk.1.2.2, ⟨hk.1.1, ⟨hk.1.2.1, hk.2⟩⟩⟩)⟩, ⟨by (with_reducible repeat (first | apply Kd.R_alloc | apply Kd.R_drewN | apply Kd.R_drew)); exact HO341.out⟩, ⟨by (with_reducible repeat (first | refine blk_drewN ?_ _ | refine blk_drew ?_ | refine blk_alloc ?_ _)); exact BK345.out⟩, ⟨by repeat (first | (with_reducible first | exact HB.out | apply below_alloc | apply pw_below_drewN | apply below_drew1 | refine below_set ?_ GE345.out) | exact HB.out)⟩⟩
 clear HC11
 try clear c1
 try clear c2
 try clear p2
 try clear c4
 try clear c7
 try clear c8
 try clear c9
 try clear c13
 try clear c19
 try clear c19b0
 try clear c19b1
 try clear c20
 try clear c20b0
 try clear c20b1
 try clear hcz14_0
 try clear hcz14_1
 try clear hcz14_2
 try clear hcz14_3
 try clear hcz21_0
 try clear hcz21_1
 try clear hcz21_2
 try clear hcz21_3
 try clear hcz24_0
 try clear hcz24_1
 try clear hcz24_2
 try clear hcz24_3
 try clear hcz27_0
 try clear hcz27_1
 try clear hcz27_2
 try clear hcz27_3
 try clear hfz14_0
 try clear hfz14_1
 try clear hfz14_2
 try clear hfz14_3
 try clear hfz21_0
 try clear hfz21_1
 try clear hfz21_2
 try clear hfz21_3
 try clear hfz24_0
 try clear hfz24_1
 try clear hfz24_2
 try clear hfz24_3
 try clear hfz27_0
 try clear hfz27_1
 try clear hfz27_2
 try clear hfz27_3
 try clear p2
 obtain ⟨kq, x33_10, rfl, HA, HJ10, HO_4, HO_346001, HO_346002, HO_346003, BK345, HB⟩ := hcut
 cases kq with
 | zero => exact absurd HA.out (by simp [treelinelaw24_ScriptMay.j1])
 | succ kj10 => ?_
 have H := HA.out
 clear HA
 simp only [treelinelaw24_ScriptMay.j1] at H
 by_cases c29 : x33_10 = true
 ·subst c29
  have H1 : (some false) = some r := by rw [if_pos rfl] at H; exact H
  clear H
  have H := H1
  clear H1
  obtain rfl := Option.some.inj H
  go_wp2
  go_ret
  exact ⟨by first | rfl | (simp [errW_none, errW_some] <;> rfl) | (simp [*, errW_none, errW_some] <;> rfl), by repeat (first | (with_reducible first | exact HB.out | apply below_alloc | apply pw_below_drewN | apply below_drew1 | refine below_set ?_ GE345.out) | exact HB.out)⟩
 replace c29 := Bool.eq_false_iff.mpr c29
 subst c29
 have H1 : (treelinelaw24_ScriptMay.l0 kj10 t342 0) = some r := by rw [if_neg (show ¬ (false = true) by decide)] at H; exact H
 clear H
 have H := H1
 clear H1
 have H' := Aside0.mk H
 clear H
 go_wp2
 go_loopg [5] kj10 (fun kq v5 w' => ∃ (x5_3 : Int), v5 = .int .i64 x5_3 ∧ Aside0 (treelinelaw24_ScriptMay.l0 kq t342 x5_3 = some r) ∧ Aside0 (kq ≤ kj10) ∧ Aside0 (Kd.N k39 39 w' w.heap.size (fun k_ => some k_ ≠ ((.slice Ao15 t333.length co15) : Value).ownBlock ∧ some k_ ≠ ((.slice Ao16 t336.length co16) : Value).ownBlock ∧ some k_ ≠ ((.slice Ao17 t339.length co17) : Value).ownBlock ∧ k_ ≠ gb345) v343 t342) ∧ Aside0 (Kd.N k51 51 w' w.heap.size (fun k_ => some k_ ≠ (v343 : Value).ownBlock ∧ some k_ ≠ ((.slice Ao16 t336.length co16) : Value).ownBlock ∧ some k_ ≠ ((.slice Ao17 t339.length co17) : Value).ownBlock ∧ k_ ≠ gb345) (.slice Ao15 t333.length co15) t333) ∧ Aside0 (Kd.N (Kd.slice 3 (Kd.int .i64)) 64 w' w.heap.size (fun k_ => some k_ ≠ (v343 : Value).ownBlock ∧ some k_ ≠ ((.slice Ao15 t333.length co15) : Value).ownBlock ∧ some k_ ≠ ((.slice Ao17 t339.length co17) : Value).ownBlock ∧ k_ ≠ gb345) (.slice Ao16 t336.length co16) t336) ∧ Aside0 (Kd.R k66 66 w' w.heap.size (fun _ => True) (.slice Ao17 t339.length co17) t339) ∧ Aside0 (w'.heap[gb345]? = some (.cells #[.int .i64 t332, (.slice Ao15 t333.length co15), (.slice Ao16 t336.length co16), (.slice Ao17 t339.length co17)] 28 (0, 0))) ∧ Aside0 (Below w.heap.size w w'))
 case atStart => exact ⟨(0), (by first | rfl | (simp; done) | (simp [*]; done)), H', ⟨Nat.le_refl _⟩, ⟨by (with_reducible repeat (first | apply Kd.N_alloc | apply Kd.N_drewN | apply Kd.N_drew)); exact HO_4.out⟩, ⟨by (with_reducible repeat (first | apply Kd.N_alloc | apply Kd.N_drewN | apply Kd.N_drew)); exact HO_346001.out⟩, ⟨by (with_reducible repeat (first | apply Kd.N_alloc | apply Kd.N_drewN | apply Kd.N_drew)); exact HO_346002.out⟩, ⟨by (with_reducible repeat (first | apply Kd.R_alloc | apply Kd.R_drewN | apply Kd.R_drew)); exact HO_346003.out⟩, ⟨by (with_reducible repeat (first | refine blk_drewN ?_ _ | refine blk_drew ?_ | refine blk_alloc ?_ _)); exact BK345.out⟩, ⟨by repeat (first | (with_reducible first | exact HB.out | apply below_alloc | apply pw_below_drewN | apply below_drew1 | refine below_set ?_ GE345.out) | exact HB.out)⟩⟩
 clear H'
 try clear c1
 try clear c2
 try clear p2
 try clear c4
 try clear c7
 try clear c8
 try clear c9
 try clear c13
 try clear c19
 try clear c19b0
 try clear c19b1
 try clear c20
 try clear c20b0
 try clear c20b1
 try clear c29
 try clear hcz14_0
 try clear hcz14_1
 try clear hcz14_2
 try clear hcz14_3
 try clear hcz21_0
 try clear hcz21_1
 try clear hcz21_2
 try clear hcz21_3
 try clear hcz24_0
 try clear hcz24_1
 try clear hcz24_2
 try clear hcz24_3
 try clear hcz27_0
 try clear hcz27_1
 try clear hcz27_2
 try clear hcz27_3
 try clear hfz14_0
 try clear hfz14_1
 try clear hfz14_2
 try clear hfz14_3
 try clear hfz21_0
 try clear hfz21_1
 try clear hfz21_2
 try clear hfz21_3
 try clear hfz24_0
 try clear hfz24_1
 try clear hfz24_2
 try clear hfz24_3
 try clear hfz27_0
 try clear hfz27_1
 try clear hfz27_2
 try clear hfz27_3
 try clear p2
 obtain ⟨x5_3, rfl, HA, HK3, HO_4, HO_346001, HO_346002, HO_346003, BK345, HB⟩ := hrel
 cases gk with
 | zero => exact absurd HA.out (by simp [treelinelaw24_ScriptMay.l0])
 | succ k3 => ?_
 have H := HA.out
 clear HA
 simp only [treelinelaw24_ScriptMay.l0] at H
 by_cases c30 : x5_3 < (t342.length : Int)
 rotate_left
 ·rw [if_neg c30] at H
  have c30b0 : decide (x5_3 < (t342.length : Int)) = false := decide_eq_false c30
  clear c30
  obtain rfl := Option.some.inj H
  obtain ⟨Ao41, co41, eo41⟩ := Kd.N_slice HO_4.out
  subst eo41
  go_wp2
  go_ret
  exact ⟨by first | rfl | (simp [errW_none, errW_some] <;> rfl) | (simp [*, errW_none, errW_some] <;> rfl), by repeat (first | (with_reducible first | exact HB.out | apply below_alloc | apply pw_below_drewN | apply below_drew1 | refine below_set ?_ GE345.out) | exact HB.out)⟩
 rw [if_pos c30] at H
 have c30b0 : decide (x5_3 < (t342.length : Int)) = true := decide_eq_true c30
 clear c30
 by_cases c31 : 0 ≤ x5_3
 rotate_left
 ·rw [if_neg c31] at H
  exact absurd H (by simp)
 rw [if_pos c31] at H
 have c31b0 : decide (0 ≤ x5_3) = true := decide_eq_true c31
 clear c31
 by_cases c32 : ((rd_T39 t342 x5_3).f0) < 0
 ·rw [if_pos c32] at H
  have c32b0 : decide (((rd_T39 t342 x5_3).f0) < 0) = true := decide_eq_true c32
  clear c32
  obtain rfl := Option.some.inj H
  obtain ⟨Ao33, co33, eo33⟩ := Kd.N_slice HO_4.out
  subst eo33
  have p347 : 0 ≤ (x5_3 : Int) := of_decide_eq_true (by first | (with_reducible assumption) | assumption)
  have q347 : x5_3 < (t342.length : Int) := of_decide_eq_true (by first | (with_reducible assumption) | assumption)
  obtain ⟨ad347, A347_5, c347_5, e347, hx347_0, hx347_1, hx347_2, hx347_3, hx347_4, hx347_5, hl347_5, hi347_5⟩ := at_T39 (Kd.N_reads' HO_4.out).2.2 x5_3 p347 q347
  cases e347
  obtain ⟨ce347, hce347, hMe347, hcc347⟩ := Kd.N_get HO_4.out z39 x5_3 p347 (by first | exact q347 | exact of_decide_eq_true (by first | (with_reducible assumption) | assumption) | (have e_ := (Kd.N_reads' HO_4.out).1; omega))
  obtain ⟨ua347_5, uc347_5, rfl, ul347_5, ge347_5⟩ := k39_openF hMe347
  have hv347_5 := hcc347 5 _ rfl
  rw [add_field _ _ 5 (by omega)] at hv347_5
  replace hv347_5 := Option.some.inj (hv347_5.symm.trans hx347_5)
  injection hv347_5 with hva_ hvn_ hvc_
  rw [hva_] at ge347_5
  rw [hvc_] at ul347_5
  have HL347_5 := Aside0.mk (show Kd.V (Kd.int .u8) 5 _ w.heap.size _ _ ((rd_T39 t342 x5_3).f5) from Kd.V_mk ul347_5 ge347_5)
  clear hva_ hvn_ hvc_ ge347_5 ul347_5
  clear hcc347 hce347
  have HR347_5 := Aside0.mk hi347_5
  have HC347_5 := Aside0.mk hl347_5
  clear hi347_5 hl347_5
  replace p347 := eq_true p347
  replace q347 := eq_true q347
  go_wp2
  go_ret
  exact ⟨by first | rfl | (simp [errW_none, errW_some] <;> rfl) | (simp [*, errW_none, errW_some] <;> rfl), by repeat (first | (with_reducible first | exact HB.out | apply below_alloc | apply pw_below_drewN | apply below_drew1 | refine below_set ?_ GE345.out) | exact HB.out)⟩
 rw [if_neg c32] at H
 have c32b0 : decide (((rd_T39 t342 x5_3).f0) < 0) = false := decide_eq_false c32
 clear c32
 by_cases c34 : ((rd_T39 t342 x5_3).f0) > 6
 ·rw [if_pos c34] at H
  have c34b0 : decide (6 < ((rd_T39 t342 x5_3).f0)) = true := decide_eq_true c34
  clear c34
  obtain rfl := Option.some.inj H
  obtain ⟨Ao35, co35, eo35⟩ := Kd.N_slice HO_4.out
  subst eo35
  have p347 : 0 ≤ (x5_3 : Int) := of_decide_eq_true (by first | (with_reducible assumption) | assumption)
  have q347 : x5_3 < (t342.length : Int) := of_decide_eq_true (by first | (with_reducible assumption) | assumption)
  obtain ⟨ad347, A347_5, c347_5, e347, hx347_0, hx347_1, hx347_2, hx347_3, hx347_4, hx347_5, hl347_5, hi347_5⟩ := at_T39 (Kd.N_reads' HO_4.out).2.2 x5_3 p347 q347
  cases e347
  obtain ⟨ce347, hce347, hMe347, hcc347⟩ := Kd.N_get HO_4.out z39 x5_3 p347 (by first | exact q347 | exact of_decide_eq_true (by first | (with_reducible assumption) | assumption) | (have e_ := (Kd.N_reads' HO_4.out).1; omega))
  obtain ⟨ua347_5, uc347_5, rfl, ul347_5, ge347_5⟩ := k39_openF hMe347
  have hv347_5 := hcc347 5 _ rfl
  rw [add_field _ _ 5 (by omega)] at hv347_5
  replace hv347_5 := Option.some.inj (hv347_5.symm.trans hx347_5)
  injection hv347_5 with hva_ hvn_ hvc_
  rw [hva_] at ge347_5
  rw [hvc_] at ul347_5
  have HL347_5 := Aside0.mk (show Kd.V (Kd.int .u8) 5 _ w.heap.size _ _ ((rd_T39 t342 x5_3).f5) from Kd.V_mk ul347_5 ge347_5)
  clear hva_ hvn_ hvc_ ge347_5 ul347_5
  clear hcc347 hce347
  have HR347_5 := Aside0.mk hi347_5
  have HC347_5 := Aside0.mk hl347_5
  clear hi347_5 hl347_5
  replace p347 := eq_true p347
  replace q347 := eq_true q347
  have p348 : 0 ≤ (x5_3 : Int) := of_decide_eq_true (by first | (with_reducible assumption) | assumption)
  have q348 : x5_3 < (t342.length : Int) := of_decide_eq_true (by first | (with_reducible assumption) | assumption)
  obtain ⟨ad348, A348_5, c348_5, e348, hx348_0, hx348_1, hx348_2, hx348_3, hx348_4, hx348_5, hl348_5, hi348_5⟩ := at_T39 (Kd.N_reads' HO_4.out).2.2 x5_3 p348 q348
  obtain rfl : ad347 = ad348 := (by injection e348)
  obtain ⟨ce348, hce348, hMe348, hcc348⟩ := Kd.N_get HO_4.out z39 x5_3 p348 (by first | exact q348 | exact of_decide_eq_true (by first | (with_reducible assumption) | assumption) | (have e_ := (Kd.N_reads' HO_4.out).1; omega))
  obtain ⟨ua348_5, uc348_5, rfl, ul348_5, ge348_5⟩ := k39_openF hMe348
  have hv348_5 := hcc348 5 _ rfl
  rw [add_field _ _ 5 (by omega)] at hv348_5
  replace hv348_5 := Option.some.inj (hv348_5.symm.trans hx348_5)
  injection hv348_5 with hva_ hvn_ hvc_
  rw [hva_] at ge348_5
  rw [hvc_] at ul348_5
  have HL348_5 := Aside0.mk (show Kd.V (Kd.int .u8) 5 _ w.heap.size _ _ ((rd_T39 t342 x5_3).f5) from Kd.V_mk ul348_5 ge348_5)
  clear hva_ hvn_ hvc_ ge348_5 ul348_5
  clear hcc348 hce348
  have HR348_5 := Aside0.mk hi348_5
  have HC348_5 := Aside0.mk hl348_5
  clear hi348_5 hl348_5
  replace p348 := eq_true p348
  replace q348 := eq_true q348
  have ea_ := Option.some.inj (hx347_5.symm.trans hx348_5)
  injection ea_ with ea_ en_ ec_
  subst ea_
  subst ec_
  clear en_
  go_wp2
  go_ret
  exact ⟨by first | rfl | (simp [errW_none, errW_some] <;> rfl) | (simp [*, errW_none, errW_some] <;> rfl), by repeat (first | (with_reducible first | exact HB.out | apply below_alloc | apply pw_below_drewN | apply below_drew1 | refine below_set ?_ GE345.out) | exact HB.out)⟩
 rw [if_neg c34] at H
 have c34b0 : decide (6 < ((rd_T39 t342 x5_3).f0)) = false := decide_eq_false c34
 clear c34
 by_cases c36 : ((rd_T39 t342 x5_3).f1) < 0
 ·rw [if_pos c36] at H
  have c36b0 : decide (((rd_T39 t342 x5_3).f1) < 0) = true := decide_eq_true c36
  clear c36
  obtain rfl := Option.some.inj H
  obtain ⟨Ao37, co37, eo37⟩ := Kd.N_slice HO_4.out
  subst eo37
  have p347 : 0 ≤ (x5_3 : Int) := of_decide_eq_true (by first | (with_reducible assumption) | assumption)
  have q347 : x5_3 < (t342.length : Int) := of_decide_eq_true (by first | (with_reducible assumption) | assumption)
  obtain ⟨ad347, A347_5, c347_5, e347, hx347_0, hx347_1, hx347_2, hx347_3, hx347_4, hx347_5, hl347_5, hi347_5⟩ := at_T39 (Kd.N_reads' HO_4.out).2.2 x5_3 p347 q347
  cases e347
  obtain ⟨ce347, hce347, hMe347, hcc347⟩ := Kd.N_get HO_4.out z39 x5_3 p347 (by first | exact q347 | exact of_decide_eq_true (by first | (with_reducible assumption) | assumption) | (have e_ := (Kd.N_reads' HO_4.out).1; omega))
  obtain ⟨ua347_5, uc347_5, rfl, ul347_5, ge347_5⟩ := k39_openF hMe347
  have hv347_5 := hcc347 5 _ rfl
  rw [add_field _ _ 5 (by omega)] at hv347_5
  replace hv347_5 := Option.some.inj (hv347_5.symm.trans hx347_5)
  injection hv347_5 with hva_ hvn_ hvc_
  rw [hva_] at ge347_5
  rw [hvc_] at ul347_5
  have HL347_5 := Aside0.mk (show Kd.V (Kd.int .u8) 5 _ w.heap.size _ _ ((rd_T39 t342 x5_3).f5) from Kd.V_mk ul347_5 ge347_5)
  clear hva_ hvn_ hvc_ ge347_5 ul347_5
  clear hcc347 hce347
  have HR347_5 := Aside0.mk hi347_5
  have HC347_5 := Aside0.mk hl347_5
  clear hi347_5 hl347_5
  replace p347 := eq_true p347
  replace q347 := eq_true q347
  have p348 : 0 ≤ (x5_3 : Int) := of_decide_eq_true (by first | (with_reducible assumption) | assumption)
  have q348 : x5_3 < (t342.length : Int) := of_decide_eq_true (by first | (with_reducible assumption) | assumption)
  obtain ⟨ad348, A348_5, c348_5, e348, hx348_0, hx348_1, hx348_2, hx348_3, hx348_4, hx348_5, hl348_5, hi348_5⟩ := at_T39 (Kd.N_reads' HO_4.out).2.2 x5_3 p348 q348
  obtain rfl : ad347 = ad348 := (by injection e348)
  obtain ⟨ce348, hce348, hMe348, hcc348⟩ := Kd.N_get HO_4.out z39 x5_3 p348 (by first | exact q348 | exact of_decide_eq_true (by first | (with_reducible assumption) | assumption) | (have e_ := (Kd.N_reads' HO_4.out).1; omega))
  obtain ⟨ua348_5, uc348_5, rfl, ul348_5, ge348_5⟩ := k39_openF hMe348
  have hv348_5 := hcc348 5 _ rfl
  rw [add_field _ _ 5 (by omega)] at hv348_5
  replace hv348_5 := Option.some.inj (hv348_5.symm.trans hx348_5)
  injection hv348_5 with hva_ hvn_ hvc_
  rw [hva_] at ge348_5
  rw [hvc_] at ul348_5
  have HL348_5 := Aside0.mk (show Kd.V (Kd.int .u8) 5 _ w.heap.size _ _ ((rd_T39 t342 x5_3).f5) from Kd.V_mk ul348_5 ge348_5)
  clear hva_ hvn_ hvc_ ge348_5 ul348_5
  clear hcc348 hce348
  have HR348_5 := Aside0.mk hi348_5
  have HC348_5 := Aside0.mk hl348_5
  clear hi348_5 hl348_5
  replace p348 := eq_true p348
  replace q348 := eq_true q348
  have ea_ := Option.some.inj (hx347_5.symm.trans hx348_5)
  injection ea_ with ea_ en_ ec_
  subst ea_
  subst ec_
  clear en_
  have p349 : 0 ≤ (x5_3 : Int) := of_decide_eq_true (by first | (with_reducible assumption) | assumption)
  have q349 : x5_3 < (t342.length : Int) := of_decide_eq_true (by first | (with_reducible assumption) | assumption)
  obtain ⟨ad349, A349_5, c349_5, e349, hx349_0, hx349_1, hx349_2, hx349_3, hx349_4, hx349_5, hl349_5, hi349_5⟩ := at_T39 (Kd.N_reads' HO_4.out).2.2 x5_3 p349 q349
  obtain rfl : ad347 = ad349 := (by injection e349)
  obtain ⟨ce349, hce349, hMe349, hcc349⟩ := Kd.N_get HO_4.out z39 x5_3 p349 (by first | exact q349 | exact of_decide_eq_true (by first | (with_reducible assumption) | assumption) | (have e_ := (Kd.N_reads' HO_4.out).1; omega))
  obtain ⟨ua349_5, uc349_5, rfl, ul349_5, ge349_5⟩ := k39_openF hMe349
  have hv349_5 := hcc349 5 _ rfl
  rw [add_field _ _ 5 (by omega)] at hv349_5
  replace hv349_5 := Option.some.inj (hv349_5.symm.trans hx349_5)
  injection hv349_5 with hva_ hvn_ hvc_
  rw [hva_] at ge349_5
  rw [hvc_] at ul349_5
  have HL349_5 := Aside0.mk (show Kd.V (Kd.int .u8) 5 _ w.heap.size _ _ ((rd_T39 t342 x5_3).f5) from Kd.V_mk ul349_5 ge349_5)
  clear hva_ hvn_ hvc_ ge349_5 ul349_5
  clear hcc349 hce349
  have HR349_5 := Aside0.mk hi349_5
  have HC349_5 := Aside0.mk hl349_5
  clear hi349_5 hl349_5
  replace p349 := eq_true p349
  replace q349 := eq_true q349
  have ea_ := Option.some.inj (hx347_5.symm.trans hx349_5)
  injection ea_ with ea_ en_ ec_
  subst ea_
  subst ec_
  clear en_
  go_wp2
  go_ret
  exact ⟨by first | rfl | (simp [errW_none, errW_some] <;> rfl) | (simp [*, errW_none, errW_some] <;> rfl), by repeat (first | (with_reducible first | exact HB.out | apply below_alloc | apply pw_below_drewN | apply below_drew1 | refine below_set ?_ GE345.out) | exact HB.out)⟩
 rw [if_neg c36] at H
 have c36b0 : decide (((rd_T39 t342 x5_3).f1) < 0) = false := decide_eq_false c36
 clear c36
 by_cases c38 : (((rd_T39 t342 x5_3).f5).length : Int) > 76
 ·rw [if_pos c38] at H
  have c38b0 : decide (76 < (((rd_T39 t342 x5_3).f5).length : Int)) = true := decide_eq_true c38
  have c38b1 : decide (76 < ((rd_T39 t342 x5_3).f5).length) = true := decide_eq_true (by omega)
  clear c38
  obtain rfl := Option.some.inj H
  obtain ⟨Ao39, co39, eo39⟩ := Kd.N_slice HO_4.out
  subst eo39
  have p347 : 0 ≤ (x5_3 : Int) := of_decide_eq_true (by first | (with_reducible assumption) | assumption)
  have q347 : x5_3 < (t342.length : Int) := of_decide_eq_true (by first | (with_reducible assumption) | assumption)
  obtain ⟨ad347, A347_5, c347_5, e347, hx347_0, hx347_1, hx347_2, hx347_3, hx347_4, hx347_5, hl347_5, hi347_5⟩ := at_T39 (Kd.N_reads' HO_4.out).2.2 x5_3 p347 q347
  cases e347
  obtain ⟨ce347, hce347, hMe347, hcc347⟩ := Kd.N_get HO_4.out z39 x5_3 p347 (by first | exact q347 | exact of_decide_eq_true (by first | (with_reducible assumption) | assumption) | (have e_ := (Kd.N_reads' HO_4.out).1; omega))
  obtain ⟨ua347_5, uc347_5, rfl, ul347_5, ge347_5⟩ := k39_openF hMe347
  have hv347_5 := hcc347 5 _ rfl
  rw [add_field _ _ 5 (by omega)] at hv347_5
  replace hv347_5 := Option.some.inj (hv347_5.symm.trans hx347_5)
  injection hv347_5 with hva_ hvn_ hvc_
  rw [hva_] at ge347_5
  rw [hvc_] at ul347_5
  have HL347_5 := Aside0.mk (show Kd.V (Kd.int .u8) 5 _ w.heap.size _ _ ((rd_T39 t342 x5_3).f5) from Kd.V_mk ul347_5 ge347_5)
  clear hva_ hvn_ hvc_ ge347_5 ul347_5
  clear hcc347 hce347
  have HR347_5 := Aside0.mk hi347_5
  have HC347_5 := Aside0.mk hl347_5
  clear hi347_5 hl347_5
  replace p347 := eq_true p347
  replace q347 := eq_true q347
  have p348 : 0 ≤ (x5_3 : Int) := of_decide_eq_true (by first | (with_reducible assumption) | assumption)
  have q348 : x5_3 < (t342.length : Int) := of_decide_eq_true (by first | (with_reducible assumption) | assumption)
  obtain ⟨ad348, A348_5, c348_5, e348, hx348_0, hx348_1, hx348_2, hx348_3, hx348_4, hx348_5, hl348_5, hi348_5⟩ := at_T39 (Kd.N_reads' HO_4.out).2.2 x5_3 p348 q348
  obtain rfl : ad347 = ad348 := (by injection e348)
  obtain ⟨ce348, hce348, hMe348, hcc348⟩ := Kd.N_get HO_4.out z39 x5_3 p348 (by first | exact q348 | exact of_decide_eq_true (by first | (with_reducible assumption) | assumption) | (have e_ := (Kd.N_reads' HO_4.out).1; omega))
  obtain ⟨ua348_5, uc348_5, rfl, ul348_5, ge348_5⟩ := k39_openF hMe348
  have hv348_5 := hcc348 5 _ rfl
  rw [add_field _ _ 5 (by omega)] at hv348_5
  replace hv348_5 := Option.some.inj (hv348_5.symm.trans hx348_5)
  injection hv348_5 with hva_ hvn_ hvc_
  rw [hva_] at ge348_5
  rw [hvc_] at ul348_5
  have HL348_5 := Aside0.mk (show Kd.V (Kd.int .u8) 5 _ w.heap.size _ _ ((rd_T39 t342 x5_3).f5) from Kd.V_mk ul348_5 ge348_5)
  clear hva_ hvn_ hvc_ ge348_5 ul348_5
  clear hcc348 hce348
  have HR348_5 := Aside0.mk hi348_5
  have HC348_5 := Aside0.mk hl348_5
  clear hi348_5 hl348_5
  replace p348 := eq_true p348
  replace q348 := eq_true q348
  have ea_ := Option.some.inj (hx347_5.symm.trans hx348_5)
  injection ea_ with ea_ en_ ec_
  subst ea_
  subst ec_
  clear en_
  have p349 : 0 ≤ (x5_3 : Int) := of_decide_eq_true (by first | (with_reducible assumption) | assumption)
  have q349 : x5_3 < (t342.length : Int) := of_decide_eq_true (by first | (with_reducible assumption) | assumption)
  obtain ⟨ad349, A349_5, c349_5, e349, hx349_0, hx349_1, hx349_2, hx349_3, hx349_4, hx349_5, hl349_5, hi349_5⟩ := at_T39 (Kd.N_reads' HO_4.out).2.2 x5_3 p349 q349
  obtain rfl : ad347 = ad349 := (by injection e349)
  obtain ⟨ce349, hce349, hMe349, hcc349⟩ := Kd.N_get HO_4.out z39 x5_3 p349 (by first | exact q349 | exact of_decide_eq_true (by first | (with_reducible assumption) | assumption) | (have e_ := (Kd.N_reads' HO_4.out).1; omega))
  obtain ⟨ua349_5, uc349_5, rfl, ul349_5, ge349_5⟩ := k39_openF hMe349
  have hv349_5 := hcc349 5 _ rfl
  rw [add_field _ _ 5 (by omega)] at hv349_5
  replace hv349_5 := Option.some.inj (hv349_5.symm.trans hx349_5)
  injection hv349_5 with hva_ hvn_ hvc_
  rw [hva_] at ge349_5
  rw [hvc_] at ul349_5
  have HL349_5 := Aside0.mk (show Kd.V (Kd.int .u8) 5 _ w.heap.size _ _ ((rd_T39 t342 x5_3).f5) from Kd.V_mk ul349_5 ge349_5)
  clear hva_ hvn_ hvc_ ge349_5 ul349_5
  clear hcc349 hce349
  have HR349_5 := Aside0.mk hi349_5
  have HC349_5 := Aside0.mk hl349_5
  clear hi349_5 hl349_5
  replace p349 := eq_true p349
  replace q349 := eq_true q349
  have ea_ := Option.some.inj (hx347_5.symm.trans hx349_5)
  injection ea_ with ea_ en_ ec_
  subst ea_
  subst ec_
  clear en_
  have p350 : 0 ≤ (x5_3 : Int) := of_decide_eq_true (by first | (with_reducible assumption) | assumption)
  have q350 : x5_3 < (t342.length : Int) := of_decide_eq_true (by first | (with_reducible assumption) | assumption)
  obtain ⟨ad350, A350_5, c350_5, e350, hx350_0, hx350_1, hx350_2, hx350_3, hx350_4, hx350_5, hl350_5, hi350_5⟩ := at_T39 (Kd.N_reads' HO_4.out).2.2 x5_3 p350 q350
  obtain rfl : ad347 = ad350 := (by injection e350)
  obtain ⟨ce350, hce350, hMe350, hcc350⟩ := Kd.N_get HO_4.out z39 x5_3 p350 (by first | exact q350 | exact of_decide_eq_true (by first | (with_reducible assumption) | assumption) | (have e_ := (Kd.N_reads' HO_4.out).1; omega))
  obtain ⟨ua350_5, uc350_5, rfl, ul350_5, ge350_5⟩ := k39_openF hMe350
  have hv350_5 := hcc350 5 _ rfl
  rw [add_field _ _ 5 (by omega)] at hv350_5
  replace hv350_5 := Option.some.inj (hv350_5.symm.trans hx350_5)
  injection hv350_5 with hva_ hvn_ hvc_
  rw [hva_] at ge350_5
  rw [hvc_] at ul350_5
  have HL350_5 := Aside0.mk (show Kd.V (Kd.int .u8) 5 _ w.heap.size _ _ ((rd_T39 t342 x5_3).f5) from Kd.V_mk ul350_5 ge350_5)
  clear hva_ hvn_ hvc_ ge350_5 ul350_5
  clear hcc350 hce350
  have HR350_5 := Aside0.mk hi350_5
  have HC350_5 := Aside0.mk hl350_5
  clear hi350_5 hl350_5
  replace p350 := eq_true p350
  replace q350 := eq_true q350
  have ea_ := Option.some.inj (hx347_5.symm.trans hx350_5)
  injection ea_ with ea_ en_ ec_
  subst ea_
  subst ec_
  clear en_
  go_wp2
  go_ret
  exact ⟨by first | rfl | (simp [errW_none, errW_some] <;> rfl) | (simp [*, errW_none, errW_some] <;> rfl), by repeat (first | (with_reducible first | exact HB.out | apply below_alloc | apply pw_below_drewN | apply below_drew1 | refine below_set ?_ GE345.out) | exact HB.out)⟩
 rw [if_neg c38] at H
 have c38b0 : decide (76 < (((rd_T39 t342 x5_3).f5).length : Int)) = false := decide_eq_false c38
 have c38b1 : decide (76 < ((rd_T39 t342 x5_3).f5).length) = false := decide_eq_false (by omega)
 clear c38
 have H' := Aside0.mk H
 clear H
 obtain ⟨Ao40, co40, eo40⟩ := Kd.N_slice HO_4.out
 subst eo40
 have p347 : 0 ≤ (x5_3 : Int) := of_decide_eq_true (by first | (with_reducible assumption) | assumption)
 have q347 : x5_3 < (t342.length : Int) := of_decide_eq_true (by first | (with_reducible assumption) | assumption)
 obtain ⟨ad347, A347_5, c347_5, e347, hx347_0, hx347_1, hx347_2, hx347_3, hx347_4, hx347_5, hl347_5, hi347_5⟩ := at_T39 (Kd.N_reads' HO_4.out).2.2 x5_3 p347 q347
 cases e347
 obtain ⟨ce347, hce347, hMe347, hcc347⟩ := Kd.N_get HO_4.out z39 x5_3 p347 (by first | exact q347 | exact of_decide_eq_true (by first | (with_reducible assumption) | assumption) | (have e_ := (Kd.N_reads' HO_4.out).1; omega))
 obtain ⟨ua347_5, uc347_5, rfl, ul347_5, ge347_5⟩ := k39_openF hMe347
 have hv347_5 := hcc347 5 _ rfl
 rw [add_field _ _ 5 (by omega)] at hv347_5
 replace hv347_5 := Option.some.inj (hv347_5.symm.trans hx347_5)
 injection hv347_5 with hva_ hvn_ hvc_
 rw [hva_] at ge347_5
 rw [hvc_] at ul347_5
 have HL347_5 := Aside0.mk (show Kd.V (Kd.int .u8) 5 _ w.heap.size _ _ ((rd_T39 t342 x5_3).f5) from Kd.V_mk ul347_5 ge347_5)
 clear hva_ hvn_ hvc_ ge347_5 ul347_5
 clear hcc347 hce347
 have HR347_5 := Aside0.mk hi347_5
 have HC347_5 := Aside0.mk hl347_5
 clear hi347_5 hl347_5
 replace p347 := eq_true p347
 replace q347 := eq_true q347
 have p348 : 0 ≤ (x5_3 : Int) := of_decide_eq_true (by first | (with_reducible assumption) | assumption)
 have q348 : x5_3 < (t342.length : Int) := of_decide_eq_true (by first | (with_reducible assumption) | assumption)
 obtain ⟨ad348, A348_5, c348_5, e348, hx348_0, hx348_1, hx348_2, hx348_3, hx348_4, hx348_5, hl348_5, hi348_5⟩ := at_T39 (Kd.N_reads' HO_4.out).2.2 x5_3 p348 q348
 obtain rfl : ad347 = ad348 := (by injection e348)
 obtain ⟨ce348, hce348, hMe348, hcc348⟩ := Kd.N_get HO_4.out z39 x5_3 p348 (by first | exact q348 | exact of_decide_eq_true (by first | (with_reducible assumption) | assumption) | (have e_ := (Kd.N_reads' HO_4.out).1; omega))
 obtain ⟨ua348_5, uc348_5, rfl, ul348_5, ge348_5⟩ := k39_openF hMe348
 have hv348_5 := hcc348 5 _ rfl
 rw [add_field _ _ 5 (by omega)] at hv348_5
 replace hv348_5 := Option.some.inj (hv348_5.symm.trans hx348_5)
 injection hv348_5 with hva_ hvn_ hvc_
 rw [hva_] at ge348_5
 rw [hvc_] at ul348_5
 have HL348_5 := Aside0.mk (show Kd.V (Kd.int .u8) 5 _ w.heap.size _ _ ((rd_T39 t342 x5_3).f5) from Kd.V_mk ul348_5 ge348_5)
 clear hva_ hvn_ hvc_ ge348_5 ul348_5
 clear hcc348 hce348
 have HR348_5 := Aside0.mk hi348_5
 have HC348_5 := Aside0.mk hl348_5
 clear hi348_5 hl348_5
 replace p348 := eq_true p348
 replace q348 := eq_true q348
 have ea_ := Option.some.inj (hx347_5.symm.trans hx348_5)
 injection ea_ with ea_ en_ ec_
 subst ea_
 subst ec_
 clear en_
 have p349 : 0 ≤ (x5_3 : Int) := of_decide_eq_true (by first | (with_reducible assumption) | assumption)
 have q349 : x5_3 < (t342.length : Int) := of_decide_eq_true (by first | (with_reducible assumption) | assumption)
 obtain ⟨ad349, A349_5, c349_5, e349, hx349_0, hx349_1, hx349_2, hx349_3, hx349_4, hx349_5, hl349_5, hi349_5⟩ := at_T39 (Kd.N_reads' HO_4.out).2.2 x5_3 p349 q349
 obtain rfl : ad347 = ad349 := (by injection e349)
 obtain ⟨ce349, hce349, hMe349, hcc349⟩ := Kd.N_get HO_4.out z39 x5_3 p349 (by first | exact q349 | exact of_decide_eq_true (by first | (with_reducible assumption) | assumption) | (have e_ := (Kd.N_reads' HO_4.out).1; omega))
 obtain ⟨ua349_5, uc349_5, rfl, ul349_5, ge349_5⟩ := k39_openF hMe349
 have hv349_5 := hcc349 5 _ rfl
 rw [add_field _ _ 5 (by omega)] at hv349_5
 replace hv349_5 := Option.some.inj (hv349_5.symm.trans hx349_5)
 injection hv349_5 with hva_ hvn_ hvc_
 rw [hva_] at ge349_5
 rw [hvc_] at ul349_5
 have HL349_5 := Aside0.mk (show Kd.V (Kd.int .u8) 5 _ w.heap.size _ _ ((rd_T39 t342 x5_3).f5) from Kd.V_mk ul349_5 ge349_5)
 clear hva_ hvn_ hvc_ ge349_5 ul349_5
 clear hcc349 hce349
 have HR349_5 := Aside0.mk hi349_5
 have HC349_5 := Aside0.mk hl349_5
 clear hi349_5 hl349_5
 replace p349 := eq_true p349
 replace q349 := eq_true q349
 have ea_ := Option.some.inj (hx347_5.symm.trans hx349_5)
 injection ea_ with ea_ en_ ec_
 subst ea_
 subst ec_
 clear en_
 have p350 : 0 ≤ (x5_3 : Int) := of_decide_eq_true (by first | (with_reducible assumption) | assumption)
 have q350 : x5_3 < (t342.length : Int) := of_decide_eq_true (by first | (with_reducible assumption) | assumption)
 obtain ⟨ad350, A350_5, c350_5, e350, hx350_0, hx350_1, hx350_2, hx350_3, hx350_4, hx350_5, hl350_5, hi350_5⟩ := at_T39 (Kd.N_reads' HO_4.out).2.2 x5_3 p350 q350
 obtain rfl : ad347 = ad350 := (by injection e350)
 obtain ⟨ce350, hce350, hMe350, hcc350⟩ := Kd.N_get HO_4.out z39 x5_3 p350 (by first | exact q350 | exact of_decide_eq_true (by first | (with_reducible assumption) | assumption) | (have e_ := (Kd.N_reads' HO_4.out).1; omega))
 obtain ⟨ua350_5, uc350_5, rfl, ul350_5, ge350_5⟩ := k39_openF hMe350
 have hv350_5 := hcc350 5 _ rfl
 rw [add_field _ _ 5 (by omega)] at hv350_5
 replace hv350_5 := Option.some.inj (hv350_5.symm.trans hx350_5)
 injection hv350_5 with hva_ hvn_ hvc_
 rw [hva_] at ge350_5
 rw [hvc_] at ul350_5
 have HL350_5 := Aside0.mk (show Kd.V (Kd.int .u8) 5 _ w.heap.size _ _ ((rd_T39 t342 x5_3).f5) from Kd.V_mk ul350_5 ge350_5)
 clear hva_ hvn_ hvc_ ge350_5 ul350_5
 clear hcc350 hce350
 have HR350_5 := Aside0.mk hi350_5
 have HC350_5 := Aside0.mk hl350_5
 clear hi350_5 hl350_5
 replace p350 := eq_true p350
 replace q350 := eq_true q350
 have ea_ := Option.some.inj (hx347_5.symm.trans hx350_5)
 injection ea_ with ea_ en_ ec_
 subst ea_
 subst ec_
 clear en_
 go_wp2
 go_roundg k3
 case measure => have := HJ1.out; have := HJ10.out; have := HK3.out; omega
 case rel => exact ⟨(wrap64 (x5_3 + 1)), (by first | rfl | (simp; done) | (simp [*]; done)), H', ⟨by have := HJ1.out; have := HJ10.out; have := HK3.out; omega⟩, ⟨by (with_reducible repeat (first | apply Kd.N_alloc | apply Kd.N_drewN | apply Kd.N_drew)); exact HO_4.out⟩, ⟨by (with_reducible repeat (first | apply Kd.N_alloc | apply Kd.N_drewN | apply Kd.N_drew)); exact HO_346001.out⟩, ⟨by (with_reducible repeat (first | apply Kd.N_alloc | apply Kd.N_drewN | apply Kd.N_drew)); exact HO_346002.out⟩, ⟨by (with_reducible repeat (first | apply Kd.R_alloc | apply Kd.R_drewN | apply Kd.R_drew)); exact HO_346003.out⟩, ⟨by (with_reducible repeat (first | refine blk_drewN ?_ _ | refine blk_drew ?_ | refine blk_alloc ?_ _)); exact BK345.out⟩, ⟨by repeat (first | (with_reducible first | exact HB.out | apply below_alloc | apply pw_below_drewN | apply below_drew1 | refine below_set ?_ GE345.out) | exact HB.out)⟩⟩
end Go.Proofs.YtiikllgppmmiaaaDoor.OScriptMay
