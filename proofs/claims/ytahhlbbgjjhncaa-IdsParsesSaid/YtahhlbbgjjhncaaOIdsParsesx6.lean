/- What Go functions that the law IdsParses uses come to, and why: part 6. Made out of the kit's print by a program of this session (wip/tools/stub.py, splice.py), functions that it does not take told by hand. -/
import Derived.Test.YtahhlbbgjjhncaaOIdsParsesx5
namespace Go.Proofs.Ytahhlbbgjjhncaa.OIdsParses
open Go.RowKit Go.Proofs.YtahhlbbgjjhncaaW.PrintWords Go.Proofs.YtahhlbbgjjhncaaW.PrintLast Go.Proofs.YtahhlbbgjjhncaaW.PrintMore
attribute [local go_sem] max2_int min2_int max_two min_two max_three min_three max_four min_four   -- for this text's walks alone
set_option linter.unusedVariables false
set_option linter.unusedSimpArgs false

/-! ### treelinelaw01_IdsParses: function 11 -/
mutual
def treelinelaw01_IdsParses.j0 : Nat → ByteArray → Bool → Option (Bool)
  | 0, _, _ => none
  | k + 1, x0, x13 => if x13 = true then ((treelinelaw01_awake.f k).bind fun t138 => (some t138)) else ((ids_Parse.f k x0).bind fun bt139 => (if bt139.2 = 0 then ((treelineref01_Text.f bt139.1).bind fun t141 => (if t141.toList = x0.toList then (some (decide (bt139.1 < 281474976710656))) else (some false))) else (if bt139.1 = 0 then (if bt139.2 = 3 then (treelinelaw01_IdsParses.j1 k x0 bt139.1 bt139.2 ((x0.size : Int) != 17)) else (treelinelaw01_IdsParses.j1 k x0 bt139.1 bt139.2 true)) else (treelinelaw01_IdsParses.j1 k x0 bt139.1 bt139.2 true))))
def treelinelaw01_IdsParses.j1 : Nat → ByteArray → Int → Int → Bool → Option (Bool)
  | 0, _, _, _, _ => none
  | k + 1, x0, x3, x4, x32 => if x32 = true then (if x3 = 0 then (some (x4 == 3)) else (some false)) else (treelinelaw01_IdsParses.l0 k x0 0)
def treelinelaw01_IdsParses.l0 : Nat → ByteArray → Int → Option (Bool)
  | 0, _, _ => none
  | k + 1, x0, x5 => if x5 < 17 then (if 0 ≤ x5 then (if x5 < (x0.size : Int) then (if (bt x0 x5) ≥ 48 then (if (bt x0 x5) ≤ 57 then (if (Int.tmod x5 3) = 2 then (if (bt x0 x5) = 58 then (treelinelaw01_IdsParses.l0 k x0 (wrap64 (x5 + 1))) else (some true)) else (treelinelaw01_IdsParses.l0 k x0 (wrap64 (x5 + 1)))) else (if (bt x0 x5) ≥ 97 then (if (Int.tmod x5 3) = 2 then (if (bt x0 x5) = 58 then (treelinelaw01_IdsParses.l0 k x0 (wrap64 (x5 + 1))) else (some true)) else (if ((bt x0 x5) ≤ 102) then (treelinelaw01_IdsParses.l0 k x0 (wrap64 (x5 + 1))) else (some true))) else (if (Int.tmod x5 3) = 2 then (if (bt x0 x5) = 58 then (treelinelaw01_IdsParses.l0 k x0 (wrap64 (x5 + 1))) else (some true)) else (some true)))) else (if (bt x0 x5) ≥ 97 then (if (Int.tmod x5 3) = 2 then (if (bt x0 x5) = 58 then (treelinelaw01_IdsParses.l0 k x0 (wrap64 (x5 + 1))) else (some true)) else (if ((bt x0 x5) ≤ 102) then (treelinelaw01_IdsParses.l0 k x0 (wrap64 (x5 + 1))) else (some true))) else (if (Int.tmod x5 3) = 2 then (if (bt x0 x5) = 58 then (treelinelaw01_IdsParses.l0 k x0 (wrap64 (x5 + 1))) else (some true)) else (some true)))) else (none)) else (none)) else (some false)
end
def treelinelaw01_IdsParses.f (k : Nat) (a0 : ByteArray) : Option (Bool) := (treelinelaw01_awake.f k).bind fun t137 => (if t137 = true then (treelinelaw01_IdsParses.j0 k a0 (decide ((a0.size : Int) > 1000))) else (treelinelaw01_IdsParses.j0 k a0 true))
theorem treelinelaw01_IdsParses.mono_l : ∀ k, (∀ y0 y1, LeO (treelinelaw01_IdsParses.j0 k y0 y1) (treelinelaw01_IdsParses.j0 (k + 1) y0 y1)) ∧ (∀ y0 y1 y2 y3, LeO (treelinelaw01_IdsParses.j1 k y0 y1 y2 y3) (treelinelaw01_IdsParses.j1 (k + 1) y0 y1 y2 y3)) ∧ (∀ y0 y1, LeO (treelinelaw01_IdsParses.l0 k y0 y1) (treelinelaw01_IdsParses.l0 (k + 1) y0 y1))
  | 0 => ⟨fun _ _ r h => by simp [treelinelaw01_IdsParses.j0] at h, fun _ _ _ _ r h => by simp [treelinelaw01_IdsParses.j1] at h, fun _ _ r h => by simp [treelinelaw01_IdsParses.l0] at h⟩
  | k + 1 => by
    obtain ⟨ih0, ih1, ih2⟩ := treelinelaw01_IdsParses.mono_l k
    refine ⟨?_, ?_, ?_⟩
    · intro y0 y1
      unfold treelinelaw01_IdsParses.j0
      repeat' first
      | (with_reducible exact ih0 _ _)
      | (with_reducible exact ih1 _ _ _ _)
      | (with_reducible exact ih2 _ _)
      | (with_reducible exact ids_Parse.mono _ _)
      | (with_reducible exact treelinelaw01_awake.mono _)
      | (with_reducible exact LeO.refl _)
      | (with_reducible exact LeO.none _)
      | (with_reducible refine LeO.ite ?_ ?_)
      | (with_reducible refine LeO.bind ?_ (fun _ => ?_))
      | exact ih0 _ _
      | exact ih1 _ _ _ _
      | exact ih2 _ _
      | exact ids_Parse.mono _ _
      | exact treelinelaw01_awake.mono _
      | exact LeO.none _
      | refine LeO.ite ?_ ?_
      | refine LeO.bind ?_ (fun _ => ?_)
    · intro y0 y1 y2 y3
      unfold treelinelaw01_IdsParses.j1
      repeat' first
      | (with_reducible exact ih0 _ _)
      | (with_reducible exact ih1 _ _ _ _)
      | (with_reducible exact ih2 _ _)
      | (with_reducible exact ids_Parse.mono _ _)
      | (with_reducible exact treelinelaw01_awake.mono _)
      | (with_reducible exact LeO.refl _)
      | (with_reducible exact LeO.none _)
      | (with_reducible refine LeO.ite ?_ ?_)
      | (with_reducible refine LeO.bind ?_ (fun _ => ?_))
      | exact ih0 _ _
      | exact ih1 _ _ _ _
      | exact ih2 _ _
      | exact ids_Parse.mono _ _
      | exact treelinelaw01_awake.mono _
      | exact LeO.none _
      | refine LeO.ite ?_ ?_
      | refine LeO.bind ?_ (fun _ => ?_)
    · intro y0 y1
      unfold treelinelaw01_IdsParses.l0
      repeat' first
      | (with_reducible exact ih0 _ _)
      | (with_reducible exact ih1 _ _ _ _)
      | (with_reducible exact ih2 _ _)
      | (with_reducible exact ids_Parse.mono _ _)
      | (with_reducible exact treelinelaw01_awake.mono _)
      | (with_reducible exact LeO.refl _)
      | (with_reducible exact LeO.none _)
      | (with_reducible refine LeO.ite ?_ ?_)
      | (with_reducible refine LeO.bind ?_ (fun _ => ?_))
      | exact ih0 _ _
      | exact ih1 _ _ _ _
      | exact ih2 _ _
      | exact ids_Parse.mono _ _
      | exact treelinelaw01_awake.mono _
      | exact LeO.none _
      | refine LeO.ite ?_ ?_
      | refine LeO.bind ?_ (fun _ => ?_)
theorem treelinelaw01_IdsParses.mono : ∀ a0 k, LeO (treelinelaw01_IdsParses.f k a0) (treelinelaw01_IdsParses.f (k + 1) a0) := by
  intro a0 k
  obtain ⟨ih0, ih1, ih2⟩ := treelinelaw01_IdsParses.mono_l k
  unfold treelinelaw01_IdsParses.f
  repeat' first
      | (with_reducible exact ih0 _ _)
      | (with_reducible exact ih1 _ _ _ _)
      | (with_reducible exact ih2 _ _)
      | (with_reducible exact ids_Parse.mono _ _)
      | (with_reducible exact treelinelaw01_awake.mono _)
      | (with_reducible exact LeO.refl _)
      | (with_reducible exact LeO.none _)
      | (with_reducible refine LeO.ite ?_ ?_)
      | (with_reducible refine LeO.bind ?_ (fun _ => ?_))
      | exact ih0 _ _
      | exact ih1 _ _ _ _
      | exact ih2 _ _
      | exact ids_Parse.mono _ _
      | exact treelinelaw01_awake.mono _
      | exact LeO.none _
      | refine LeO.ite ?_ ?_
      | refine LeO.bind ?_ (fun _ => ?_)
set_option maxHeartbeats 8000000 in
set_option maxRecDepth 100000 in
theorem treelinelaw01_IdsParses.calls (k : Nat) (a0 : ByteArray) (r : Bool) (w : World) (h : treelinelaw01_IdsParses.f k a0 = some r) (LRT : Aside0 (r = true)) :
    Calls Try.prog 11 #[.string a0] w fun e w' => e = .returned (.bool r) ∧ Below w.heap.size w w' := by
  have HB := Aside0.mk (Below.refl w.heap.size w)
  have H : ((treelinelaw01_awake.f k).bind fun t137 => (if t137 = true then (treelinelaw01_IdsParses.j0 k a0 (decide ((a0.size : Int) > 1000))) else (treelinelaw01_IdsParses.j0 k a0 true))) = some r := h
  clear h
  have HC2 := Aside0.mk H
  clear H
  go_enter Try.func11, Try.ntmps11
  go_upto_region 1 with (fail)
  go_cut [13] (fun v13 wc => ∃ (kq : Nat) (x13_1 : Bool), v13 = .bool x13_1 ∧ Aside0 (treelinelaw01_IdsParses.j0 kq a0 x13_1 = some r) ∧ Aside0 (kq ≤ k) ∧ Aside0 (Below w.heap.size w wc))
  case first =>
    have H := HC2.out
    clear HC2
    replace H := Option.bind_eq_some_iff.mp H
    obtain ⟨t137, A30, H⟩ := H
    replace H : (if t137 = true then (treelinelaw01_IdsParses.j0 k a0 (decide ((a0.size : Int) > 1000))) else (treelinelaw01_IdsParses.j0 k a0 true)) = some r := H
    have A3 := Aside0.mk A30
    clear A30
    by_cases c4 : t137 = true
    · subst c4
      have H1 : (treelinelaw01_IdsParses.j0 k a0 (decide ((a0.size : Int) > 1000))) = some r := by rw [if_pos rfl] at H; exact H
      clear H
      have H := H1
      clear H1
      have H' := Aside0.mk H
      clear H
      go_wp2_with (first | ((with_reducible refine gate_callee (f := 25) rfl ?_); refine goesL_ (some 7) rfl rfl Try.func25 (by kernel_rfl) rfl #[] rfl (by (try simp only [List.map_toArray, List.map_cons, List.map_nil]); first | done | rfl | (simp only [List.length_drop, List.length_take]; rfl)) ?_; (with_reducible refine (treelinelaw01_awake.calls k  true _ A3.out).mono ?_); rintro e w5 ⟨rfl, hb⟩; refine ⟨_, rfl, ?_⟩; have n0_ := Aside0.mk (below_step (by repeat (first | (with_reducible first | exact HB.out | apply below_alloc | apply pw_below_drewN | apply below_drew1) | exact HB.out)) hb); clear HB; have HB := n0_; clear n0_; (try clear hb); (try clear hb2); (try clear hk); (try clear hi)) | (go_at_call 25; (with_reducible refine (treelinelaw01_awake.calls k  true _ A3.out).mono ?_); rintro e w5 ⟨rfl, hb⟩; have n0_ := Aside0.mk (below_step (by repeat (first | (with_reducible first | exact HB.out | apply below_alloc | apply pw_below_drewN | apply below_drew1) | exact HB.out)) hb); clear HB; have HB := n0_; clear n0_; (try clear hb); (try clear hb2); (try clear hk); (try clear hi)))
      go_meet
      case rel => exact ⟨_, (decide ((a0.size : Int) > 1000)), (by first | rfl | (simp; done) | (simp [*]; done)), H', ⟨by first | omega | exact Nat.le_refl _⟩, ⟨by repeat (first | (with_reducible first | exact HB.out | apply below_alloc | apply pw_below_drewN | apply below_drew1) | exact HB.out)⟩⟩
    · replace c4 := Bool.eq_false_iff.mpr c4
      subst c4
      have H1 : (treelinelaw01_IdsParses.j0 k a0 true) = some r := by rw [if_neg (show ¬ (false = true) by decide)] at H; exact H
      clear H
      have H := H1
      clear H1
      have H' := Aside0.mk H
      clear H
      go_wp2_with (first | ((with_reducible refine gate_callee (f := 25) rfl ?_); refine goesL_ (some 7) rfl rfl Try.func25 (by kernel_rfl) rfl #[] rfl (by (try simp only [List.map_toArray, List.map_cons, List.map_nil]); first | done | rfl | (simp only [List.length_drop, List.length_take]; rfl)) ?_; (with_reducible refine (treelinelaw01_awake.calls k  false _ A3.out).mono ?_); rintro e w6 ⟨rfl, hb⟩; refine ⟨_, rfl, ?_⟩; have n0_ := Aside0.mk (below_step (by repeat (first | (with_reducible first | exact HB.out | apply below_alloc | apply pw_below_drewN | apply below_drew1) | exact HB.out)) hb); clear HB; have HB := n0_; clear n0_; (try clear hb); (try clear hb2); (try clear hk); (try clear hi)) | (go_at_call 25; (with_reducible refine (treelinelaw01_awake.calls k  false _ A3.out).mono ?_); rintro e w6 ⟨rfl, hb⟩; have n0_ := Aside0.mk (below_step (by repeat (first | (with_reducible first | exact HB.out | apply below_alloc | apply pw_below_drewN | apply below_drew1) | exact HB.out)) hb); clear HB; have HB := n0_; clear n0_; (try clear hb); (try clear hb2); (try clear hk); (try clear hi)))
      go_meet
      case rel => exact ⟨_, (true), (by first | rfl | (simp; done) | (simp [*]; done)), H', ⟨by first | omega | exact Nat.le_refl _⟩, ⟨by repeat (first | (with_reducible first | exact HB.out | apply below_alloc | apply pw_below_drewN | apply below_drew1) | exact HB.out)⟩⟩
  case rest =>
    clear HC2
    try clear c1
    try clear c2
    try clear p2
    try clear c4
    obtain ⟨kq, x13_1, rfl, HA, HJ1, HB⟩ := hcut
    cases kq with
    | zero => exact absurd HA.out (by simp [treelinelaw01_IdsParses.j0])
    | succ kj1 =>
      have H := HA.out
      clear HA
      simp only [treelinelaw01_IdsParses.j0] at H
      by_cases c7 : x13_1 = true
      · subst c7
        have H1 : ((treelinelaw01_awake.f kj1).bind fun t138 => (some t138)) = some r := by rw [if_pos rfl] at H; exact H
        clear H
        have H := H1
        clear H1
        replace H := Option.bind_eq_some_iff.mp H
        obtain ⟨t138, A80, H⟩ := H
        replace H : (some t138) = some r := H
        have A8 := Aside0.mk A80
        clear A80
        obtain rfl := Option.some.inj H
        (try exact absurd LRT.out (by decide))
        all_goals
          go_wp2_with (first | ((with_reducible refine gate_callee (f := 25) rfl ?_); refine goesL_ (some 14) rfl rfl Try.func25 (by kernel_rfl) rfl #[] rfl (by (try simp only [List.map_toArray, List.map_cons, List.map_nil]); first | done | rfl | (simp only [List.length_drop, List.length_take]; rfl)) ?_; (with_reducible refine (treelinelaw01_awake.calls kj1  t138 _ A8.out).mono ?_); rintro e w9 ⟨rfl, hb⟩; refine ⟨_, rfl, ?_⟩; have n0_ := Aside0.mk (below_step (by repeat (first | (with_reducible first | exact HB.out | apply below_alloc | apply pw_below_drewN | apply below_drew1) | exact HB.out)) hb); clear HB; have HB := n0_; clear n0_; (try clear hb); (try clear hb2); (try clear hk); (try clear hi)) | (go_at_call 25; (with_reducible refine (treelinelaw01_awake.calls kj1  t138 _ A8.out).mono ?_); rintro e w9 ⟨rfl, hb⟩; have n0_ := Aside0.mk (below_step (by repeat (first | (with_reducible first | exact HB.out | apply below_alloc | apply pw_below_drewN | apply below_drew1) | exact HB.out)) hb); clear HB; have HB := n0_; clear n0_; (try clear hb); (try clear hb2); (try clear hk); (try clear hi)))
          go_ret
          exact ⟨by first | rfl | (simp [errW_none, errW_some] <;> rfl) | (simp [*, errW_none, errW_some] <;> rfl), by repeat (first | (with_reducible first | exact HB.out | apply below_alloc | apply pw_below_drewN | apply below_drew1) | exact HB.out)⟩
      · replace c7 := Bool.eq_false_iff.mpr c7
        subst c7
        have H1 : ((ids_Parse.f kj1 a0).bind fun bt139 => (if bt139.2 = 0 then ((treelineref01_Text.f bt139.1).bind fun t141 => (if t141.toList = a0.toList then (some (decide (bt139.1 < 281474976710656))) else (some false))) else (if bt139.1 = 0 then (if bt139.2 = 3 then (treelinelaw01_IdsParses.j1 kj1 a0 bt139.1 bt139.2 ((a0.size : Int) != 17)) else (treelinelaw01_IdsParses.j1 kj1 a0 bt139.1 bt139.2 true)) else (treelinelaw01_IdsParses.j1 kj1 a0 bt139.1 bt139.2 true)))) = some r := by rw [if_neg (show ¬ (false = true) by decide)] at H; exact H
        clear H
        have H := H1
        clear H1
        replace H := Option.bind_eq_some_iff.mp H
        obtain ⟨⟨t139, t140⟩, A100, H⟩ := H
        replace H : (if t140 = 0 then ((treelineref01_Text.f t139).bind fun t141 => (if t141.toList = a0.toList then (some (decide (t139 < 281474976710656))) else (some false))) else (if t139 = 0 then (if t140 = 3 then (treelinelaw01_IdsParses.j1 kj1 a0 t139 t140 ((a0.size : Int) != 17)) else (treelinelaw01_IdsParses.j1 kj1 a0 t139 t140 true)) else (treelinelaw01_IdsParses.j1 kj1 a0 t139 t140 true))) = some r := H
        have A10 := Aside0.mk A100
        clear A100
        by_cases c11 : t140 = 0
        · rw [if_pos c11] at H
          have c11b0 : (t140 == 0) = true := beq_iff_eq.mpr c11
          have c11b1 : (t140 != 0) = false := bne_eq_false_iff_eq.mpr c11
          clear c11
          replace H := Option.bind_eq_some_iff.mp H
          obtain ⟨t141, A120, H⟩ := H
          replace H : (if t141.toList = a0.toList then (some (decide (t139 < 281474976710656))) else (some false)) = some r := H
          have A12 := Aside0.mk A120
          clear A120
          by_cases c13 : t141.toList = a0.toList
          · rw [if_pos c13] at H
            have c13b0 : (t141.toList == a0.toList) = true := beq_iff_eq.mpr c13
            have c13b1 : (t141.toList != a0.toList) = false := bne_eq_false_iff_eq.mpr c13
            clear c13
            obtain rfl := Option.some.inj H
            (try exact absurd LRT.out (by decide))
            all_goals
              go_wp2_with (first | ((with_reducible refine gate_callee (f := 37) rfl ?_); refine goesL_ (some 17) rfl rfl Try.func37 (by kernel_rfl) rfl #[.string a0] rfl (by (try simp only [List.map_toArray, List.map_cons, List.map_nil]); first | done | rfl | (simp only [List.length_drop, List.length_take]; rfl)) ?_; (with_reducible refine (ids_Parse.calls kj1 a0 t139 t140 _ A10.out).mono ?_); rintro e w' ⟨rfl, ⟨nd, rfl⟩⟩; refine ⟨_, rfl, ?_⟩) | ((with_reducible refine gate_callee (f := 38) rfl ?_); refine goesL_ (some 84) rfl rfl Try.func38 (by kernel_rfl) rfl #[.int .u64 t139] rfl (by (try simp only [List.map_toArray, List.map_cons, List.map_nil]); first | done | rfl | (simp only [List.length_drop, List.length_take]; rfl)) ?_; (with_reducible refine (treelineref01_Text.calls t139 t141 _ A12.out).mono ?_); rintro e w14 ⟨rfl, hb⟩; refine ⟨_, rfl, ?_⟩; have n0_ := Aside0.mk (below_step (by repeat (first | (with_reducible first | exact HB.out | apply below_alloc | apply pw_below_drewN | apply below_drew1) | exact HB.out)) hb); clear HB; have HB := n0_; clear n0_; (try clear hb); (try clear hb2); (try clear hk); (try clear hi)) | (go_at_call 37; (with_reducible refine (ids_Parse.calls kj1 a0 t139 t140 _ A10.out).mono ?_); rintro e w' ⟨rfl, ⟨nd, rfl⟩⟩) | (go_at_call 38; (with_reducible refine (treelineref01_Text.calls t139 t141 _ A12.out).mono ?_); rintro e w14 ⟨rfl, hb⟩; have n0_ := Aside0.mk (below_step (by repeat (first | (with_reducible first | exact HB.out | apply below_alloc | apply pw_below_drewN | apply below_drew1) | exact HB.out)) hb); clear HB; have HB := n0_; clear n0_; (try clear hb); (try clear hb2); (try clear hk); (try clear hi)))
              go_ret
              exact ⟨by first | rfl | (simp [errW_none, errW_some] <;> rfl) | (simp [*, errW_none, errW_some] <;> rfl), by repeat (first | (with_reducible first | exact HB.out | apply below_alloc | apply pw_below_drewN | apply below_drew1) | exact HB.out)⟩
          · rw [if_neg c13] at H
            have c13b0 : (t141.toList == a0.toList) = false := beq_eq_false_iff_ne.mpr c13
            have c13b1 : (t141.toList != a0.toList) = true := bne_iff_ne.mpr c13
            exact absurd ((Option.some.inj H).trans LRT.out) (by decide)
        · rw [if_neg c11] at H
          have c11b0 : (t140 == 0) = false := beq_eq_false_iff_ne.mpr c11
          have c11b1 : (t140 != 0) = true := bne_iff_ne.mpr c11
          have HC16 := Aside0.mk H
          clear H
          go_upto_region 5 with (first | ((with_reducible refine gate_callee (f := 37) rfl ?_); refine goesL_ (some 17) rfl rfl Try.func37 (by kernel_rfl) rfl #[.string a0] rfl (by (try simp only [List.map_toArray, List.map_cons, List.map_nil]); first | done | rfl | (simp only [List.length_drop, List.length_take]; rfl)) ?_; (with_reducible refine (ids_Parse.calls kj1 a0 t139 t140 _ A10.out).mono ?_); rintro e w' ⟨rfl, ⟨nd, rfl⟩⟩; refine ⟨_, rfl, ?_⟩))
          (try simp only [Act.put, List.setIfInBounds_toArray, List.set_cons_zero, List.set_cons_succ])
          go_cut [32] (fun v32 wc => ∃ (kq : Nat) (x32_15 : Bool), v32 = .bool x32_15 ∧ Aside0 (treelinelaw01_IdsParses.j1 kq a0 t139 t140 x32_15 = some r) ∧ Aside0 (kq ≤ kj1) ∧ Aside0 (Below w.heap.size w wc))
          case first =>
            have H := HC16.out
            clear HC16
            by_cases c17 : t139 = 0
            · rw [if_pos c17] at H
              have c17b0 : (t139 == 0) = true := beq_iff_eq.mpr c17
              have c17b1 : (t139 != 0) = false := bne_eq_false_iff_eq.mpr c17
              clear c17
              (first | rw [c17b0] | (simp only [i64_w, i32_w]; rw [c17b0]) | skip)
              by_cases c18 : t140 = 3
              · rw [if_pos c18] at H
                have c18b0 : (t140 == 3) = true := beq_iff_eq.mpr c18
                have c18b1 : (t140 != 3) = false := bne_eq_false_iff_eq.mpr c18
                clear c18
                have H' := Aside0.mk H
                clear H
                go_wp2
                go_meet
                case rel => exact ⟨_, (((a0.size : Int) != 17)), (by first | rfl | (simp; done) | (simp [*]; done)), H', ⟨by have := HJ1.out; first | omega | exact Nat.le_refl _⟩, ⟨by repeat (first | (with_reducible first | exact HB.out | apply below_alloc | apply pw_below_drewN | apply below_drew1) | exact HB.out)⟩⟩
              · rw [if_neg c18] at H
                have c18b0 : (t140 == 3) = false := beq_eq_false_iff_ne.mpr c18
                have c18b1 : (t140 != 3) = true := bne_iff_ne.mpr c18
                have H' := Aside0.mk H
                clear H
                go_wp2
                go_meet
                case rel => exact ⟨_, (true), (by first | rfl | (simp; done) | (simp [*]; done)), H', ⟨by have := HJ1.out; first | omega | exact Nat.le_refl _⟩, ⟨by repeat (first | (with_reducible first | exact HB.out | apply below_alloc | apply pw_below_drewN | apply below_drew1) | exact HB.out)⟩⟩
            · rw [if_neg c17] at H
              have c17b0 : (t139 == 0) = false := beq_eq_false_iff_ne.mpr c17
              have c17b1 : (t139 != 0) = true := bne_iff_ne.mpr c17
              (first | rw [c17b0] | (simp only [i64_w, i32_w]; rw [c17b0]) | skip)
              have H' := Aside0.mk H
              clear H
              go_wp2
              go_meet
              case rel => exact ⟨_, (true), (by first | rfl | (simp; done) | (simp [*]; done)), H', ⟨by have := HJ1.out; first | omega | exact Nat.le_refl _⟩, ⟨by repeat (first | (with_reducible first | exact HB.out | apply below_alloc | apply pw_below_drewN | apply below_drew1) | exact HB.out)⟩⟩
          case rest =>
            clear HC16
            try clear c1
            try clear c2
            try clear p2
            try clear c3
            try clear c4
            try clear c7
            try clear c11
            try clear c11b0
            try clear c11b1
            try clear c13
            try clear c13b0
            try clear c13b1
            try clear c17
            try clear c17b0
            try clear c17b1
            try clear c18
            try clear c18b0
            try clear c18b1
            try clear p2
            obtain ⟨kq, x32_15, rfl, HA, HJ15, HB⟩ := hcut
            cases kq with
            | zero => exact absurd HA.out (by simp [treelinelaw01_IdsParses.j1])
            | succ kj15 =>
              have H := HA.out
              clear HA
              simp only [treelinelaw01_IdsParses.j1] at H
              by_cases c19 : x32_15 = true
              · subst c19
                have H1 : (if t139 = 0 then (some (t140 == 3)) else (some false)) = some r := by rw [if_pos rfl] at H; exact H
                clear H
                have H := H1
                clear H1
                by_cases c20 : t139 = 0
                · rw [if_pos c20] at H
                  have c20b0 : (t139 == 0) = true := beq_iff_eq.mpr c20
                  have c20b1 : (t139 != 0) = false := bne_eq_false_iff_eq.mpr c20
                  clear c20
                  obtain rfl := Option.some.inj H
                  (try exact absurd LRT.out (by decide))
                  all_goals
                    go_wp2
                    go_ret
                    exact ⟨by first | rfl | (simp [errW_none, errW_some] <;> rfl) | (simp [*, errW_none, errW_some] <;> rfl), by repeat (first | (with_reducible first | exact HB.out | apply below_alloc | apply pw_below_drewN | apply below_drew1) | exact HB.out)⟩
                · rw [if_neg c20] at H
                  have c20b0 : (t139 == 0) = false := beq_eq_false_iff_ne.mpr c20
                  have c20b1 : (t139 != 0) = true := bne_iff_ne.mpr c20
                  exact absurd ((Option.some.inj H).trans LRT.out) (by decide)
              · replace c19 := Bool.eq_false_iff.mpr c19
                subst c19
                have H1 : (treelinelaw01_IdsParses.l0 kj15 a0 0) = some r := by rw [if_neg (show ¬ (false = true) by decide)] at H; exact H
                clear H
                have H := H1
                clear H1
                have H' := Aside0.mk H
                clear H
                go_wp2
                go_loopg [5] kj15 (fun kq v5 w' => ∃ (x5_3 : Int), v5 = .int .i64 x5_3 ∧ Aside0 (treelinelaw01_IdsParses.l0 kq a0 x5_3 = some r) ∧ Aside0 (kq ≤ kj15) ∧ Aside0 (Below w.heap.size w w'))
                case atStart => exact ⟨(0), (by first | rfl | (simp; done) | (simp [*]; done)), H', ⟨Nat.le_refl _⟩, ⟨by repeat (first | (with_reducible first | exact HB.out | apply below_alloc | apply pw_below_drewN | apply below_drew1) | exact HB.out)⟩⟩
                case round =>
                  clear H'
                  try clear c1
                  try clear c2
                  try clear p2
                  try clear c3
                  try clear c4
                  try clear c7
                  try clear c11
                  try clear c11b0
                  try clear c11b1
                  try clear c13
                  try clear c13b0
                  try clear c13b1
                  try clear c17
                  try clear c17b0
                  try clear c17b1
                  try clear c18
                  try clear c18b0
                  try clear c18b1
                  try clear c19
                  try clear c20
                  try clear c20b0
                  try clear c20b1
                  try clear p2
                  obtain ⟨x5_3, rfl, HA, HK3, HB⟩ := hrel
                  cases gk with
                  | zero => exact absurd HA.out (by simp [treelinelaw01_IdsParses.l0])
                  | succ k3 =>
                    have H := HA.out
                    clear HA
                    simp only [treelinelaw01_IdsParses.l0] at H
                    by_cases c21 : x5_3 < 17
                    · rw [if_pos c21] at H
                      have c21b0 : decide (x5_3 < 17) = true := decide_eq_true c21
                      clear c21
                      by_cases c22 : 0 ≤ x5_3
                      · rw [if_pos c22] at H
                        have c22b0 : decide (0 ≤ x5_3) = true := decide_eq_true c22
                        clear c22
                        by_cases c23 : x5_3 < (a0.size : Int)
                        · rw [if_pos c23] at H
                          have c23b0 : decide (x5_3 < (a0.size : Int)) = true := decide_eq_true c23
                          clear c23
                          by_cases c25 : (bt a0 x5_3) ≥ 48
                          · rw [if_pos c25] at H
                            have c25b0 : decide (48 ≤ (bt a0 x5_3)) = true := decide_eq_true c25
                            clear c25
                            by_cases c27 : (bt a0 x5_3) ≤ 57
                            · rw [if_pos c27] at H
                              have c27b0 : decide ((bt a0 x5_3) ≤ 57) = true := decide_eq_true c27
                              clear c27
                              by_cases c28 : (Int.tmod x5_3 3) = 2
                              · rw [if_pos c28] at H
                                have c28b0 : ((Int.tmod x5_3 3) == 2) = true := beq_iff_eq.mpr c28
                                have c28b1 : ((Int.tmod x5_3 3) != 2) = false := bne_eq_false_iff_eq.mpr c28
                                clear c28
                                by_cases c30 : (bt a0 x5_3) = 58
                                · rw [if_pos c30] at H
                                  have c30b0 : ((bt a0 x5_3) == 58) = true := beq_iff_eq.mpr c30
                                  have c30b1 : ((bt a0 x5_3) != 58) = false := bne_eq_false_iff_eq.mpr c30
                                  clear c30
                                  have H' := Aside0.mk H
                                  clear H
                                  have p24 : 0 ≤ (x5_3 : Int) := of_decide_eq_true (by first | (with_reducible assumption) | assumption)
                                  have q24 : x5_3 < (a0.size : Int) := of_decide_eq_true (by first | (with_reducible assumption) | assumption)
                                  have hx24 := bt_at a0 x5_3
                                  replace p24 := eq_true p24
                                  replace q24 := eq_true q24
                                  have p26 : 0 ≤ (x5_3 : Int) := of_decide_eq_true (by first | (with_reducible assumption) | assumption)
                                  have q26 : x5_3 < (a0.size : Int) := of_decide_eq_true (by first | (with_reducible assumption) | assumption)
                                  have hx26 := bt_at a0 x5_3
                                  replace p26 := eq_true p26
                                  replace q26 := eq_true q26
                                  have p29 : 0 ≤ (x5_3 : Int) := of_decide_eq_true (by first | (with_reducible assumption) | assumption)
                                  have q29 : x5_3 < (a0.size : Int) := of_decide_eq_true (by first | (with_reducible assumption) | assumption)
                                  have hx29 := bt_at a0 x5_3
                                  replace p29 := eq_true p29
                                  replace q29 := eq_true q29
                                  go_wp2
                                  go_roundg k3
                                  case measure => have := HJ1.out; have := HJ15.out; have := HK3.out; omega
                                  case rel => exact ⟨(wrap64 (x5_3 + 1)), (by first | rfl | (simp; done) | (simp [*]; done)), H', ⟨by have := HJ1.out; have := HJ15.out; have := HK3.out; omega⟩, ⟨by repeat (first | (with_reducible first | exact HB.out | apply below_alloc | apply pw_below_drewN | apply below_drew1) | exact HB.out)⟩⟩
                                · rw [if_neg c30] at H
                                  have c30b0 : ((bt a0 x5_3) == 58) = false := beq_eq_false_iff_ne.mpr c30
                                  have c30b1 : ((bt a0 x5_3) != 58) = true := bne_iff_ne.mpr c30
                                  obtain rfl := Option.some.inj H
                                  (try exact absurd LRT.out (by decide))
                                  all_goals
                                    have p24 : 0 ≤ (x5_3 : Int) := of_decide_eq_true (by first | (with_reducible assumption) | assumption)
                                    have q24 : x5_3 < (a0.size : Int) := of_decide_eq_true (by first | (with_reducible assumption) | assumption)
                                    have hx24 := bt_at a0 x5_3
                                    replace p24 := eq_true p24
                                    replace q24 := eq_true q24
                                    have p26 : 0 ≤ (x5_3 : Int) := of_decide_eq_true (by first | (with_reducible assumption) | assumption)
                                    have q26 : x5_3 < (a0.size : Int) := of_decide_eq_true (by first | (with_reducible assumption) | assumption)
                                    have hx26 := bt_at a0 x5_3
                                    replace p26 := eq_true p26
                                    replace q26 := eq_true q26
                                    have p29 : 0 ≤ (x5_3 : Int) := of_decide_eq_true (by first | (with_reducible assumption) | assumption)
                                    have q29 : x5_3 < (a0.size : Int) := of_decide_eq_true (by first | (with_reducible assumption) | assumption)
                                    have hx29 := bt_at a0 x5_3
                                    replace p29 := eq_true p29
                                    replace q29 := eq_true q29
                                    go_wp2
                                    go_ret
                                    exact ⟨by first | rfl | (simp [errW_none, errW_some] <;> rfl) | (simp [*, errW_none, errW_some] <;> rfl), by repeat (first | (with_reducible first | exact HB.out | apply below_alloc | apply pw_below_drewN | apply below_drew1) | exact HB.out)⟩
                              · rw [if_neg c28] at H
                                have c28b0 : ((Int.tmod x5_3 3) == 2) = false := beq_eq_false_iff_ne.mpr c28
                                have c28b1 : ((Int.tmod x5_3 3) != 2) = true := bne_iff_ne.mpr c28
                                have H' := Aside0.mk H
                                clear H
                                have p24 : 0 ≤ (x5_3 : Int) := of_decide_eq_true (by first | (with_reducible assumption) | assumption)
                                have q24 : x5_3 < (a0.size : Int) := of_decide_eq_true (by first | (with_reducible assumption) | assumption)
                                have hx24 := bt_at a0 x5_3
                                replace p24 := eq_true p24
                                replace q24 := eq_true q24
                                have p26 : 0 ≤ (x5_3 : Int) := of_decide_eq_true (by first | (with_reducible assumption) | assumption)
                                have q26 : x5_3 < (a0.size : Int) := of_decide_eq_true (by first | (with_reducible assumption) | assumption)
                                have hx26 := bt_at a0 x5_3
                                replace p26 := eq_true p26
                                replace q26 := eq_true q26
                                go_wp2
                                go_roundg k3
                                case measure => have := HJ1.out; have := HJ15.out; have := HK3.out; omega
                                case rel => exact ⟨(wrap64 (x5_3 + 1)), (by first | rfl | (simp; done) | (simp [*]; done)), H', ⟨by have := HJ1.out; have := HJ15.out; have := HK3.out; omega⟩, ⟨by repeat (first | (with_reducible first | exact HB.out | apply below_alloc | apply pw_below_drewN | apply below_drew1) | exact HB.out)⟩⟩
                            · rw [if_neg c27] at H
                              have c27b0 : decide ((bt a0 x5_3) ≤ 57) = false := decide_eq_false c27
                              clear c27
                              by_cases c32 : (bt a0 x5_3) ≥ 97
                              · rw [if_pos c32] at H
                                have c32b0 : decide (97 ≤ (bt a0 x5_3)) = true := decide_eq_true c32
                                clear c32
                                by_cases c34 : (Int.tmod x5_3 3) = 2
                                · rw [if_pos c34] at H
                                  have c34b0 : ((Int.tmod x5_3 3) == 2) = true := beq_iff_eq.mpr c34
                                  have c34b1 : ((Int.tmod x5_3 3) != 2) = false := bne_eq_false_iff_eq.mpr c34
                                  clear c34
                                  by_cases c36 : (bt a0 x5_3) = 58
                                  · rw [if_pos c36] at H
                                    have c36b0 : ((bt a0 x5_3) == 58) = true := beq_iff_eq.mpr c36
                                    have c36b1 : ((bt a0 x5_3) != 58) = false := bne_eq_false_iff_eq.mpr c36
                                    clear c36
                                    have H' := Aside0.mk H
                                    clear H
                                    have p24 : 0 ≤ (x5_3 : Int) := of_decide_eq_true (by first | (with_reducible assumption) | assumption)
                                    have q24 : x5_3 < (a0.size : Int) := of_decide_eq_true (by first | (with_reducible assumption) | assumption)
                                    have hx24 := bt_at a0 x5_3
                                    replace p24 := eq_true p24
                                    replace q24 := eq_true q24
                                    have p26 : 0 ≤ (x5_3 : Int) := of_decide_eq_true (by first | (with_reducible assumption) | assumption)
                                    have q26 : x5_3 < (a0.size : Int) := of_decide_eq_true (by first | (with_reducible assumption) | assumption)
                                    have hx26 := bt_at a0 x5_3
                                    replace p26 := eq_true p26
                                    replace q26 := eq_true q26
                                    have p31 : 0 ≤ (x5_3 : Int) := of_decide_eq_true (by first | (with_reducible assumption) | assumption)
                                    have q31 : x5_3 < (a0.size : Int) := of_decide_eq_true (by first | (with_reducible assumption) | assumption)
                                    have hx31 := bt_at a0 x5_3
                                    replace p31 := eq_true p31
                                    replace q31 := eq_true q31
                                    have p33 : 0 ≤ (x5_3 : Int) := of_decide_eq_true (by first | (with_reducible assumption) | assumption)
                                    have q33 : x5_3 < (a0.size : Int) := of_decide_eq_true (by first | (with_reducible assumption) | assumption)
                                    have hx33 := bt_at a0 x5_3
                                    replace p33 := eq_true p33
                                    replace q33 := eq_true q33
                                    have p35 : 0 ≤ (x5_3 : Int) := of_decide_eq_true (by first | (with_reducible assumption) | assumption)
                                    have q35 : x5_3 < (a0.size : Int) := of_decide_eq_true (by first | (with_reducible assumption) | assumption)
                                    have hx35 := bt_at a0 x5_3
                                    replace p35 := eq_true p35
                                    replace q35 := eq_true q35
                                    go_wp2
                                    go_roundg k3
                                    case measure => have := HJ1.out; have := HJ15.out; have := HK3.out; omega
                                    case rel => exact ⟨(wrap64 (x5_3 + 1)), (by first | rfl | (simp; done) | (simp [*]; done)), H', ⟨by have := HJ1.out; have := HJ15.out; have := HK3.out; omega⟩, ⟨by repeat (first | (with_reducible first | exact HB.out | apply below_alloc | apply pw_below_drewN | apply below_drew1) | exact HB.out)⟩⟩
                                  · rw [if_neg c36] at H
                                    have c36b0 : ((bt a0 x5_3) == 58) = false := beq_eq_false_iff_ne.mpr c36
                                    have c36b1 : ((bt a0 x5_3) != 58) = true := bne_iff_ne.mpr c36
                                    obtain rfl := Option.some.inj H
                                    (try exact absurd LRT.out (by decide))
                                    all_goals
                                      have p24 : 0 ≤ (x5_3 : Int) := of_decide_eq_true (by first | (with_reducible assumption) | assumption)
                                      have q24 : x5_3 < (a0.size : Int) := of_decide_eq_true (by first | (with_reducible assumption) | assumption)
                                      have hx24 := bt_at a0 x5_3
                                      replace p24 := eq_true p24
                                      replace q24 := eq_true q24
                                      have p26 : 0 ≤ (x5_3 : Int) := of_decide_eq_true (by first | (with_reducible assumption) | assumption)
                                      have q26 : x5_3 < (a0.size : Int) := of_decide_eq_true (by first | (with_reducible assumption) | assumption)
                                      have hx26 := bt_at a0 x5_3
                                      replace p26 := eq_true p26
                                      replace q26 := eq_true q26
                                      have p31 : 0 ≤ (x5_3 : Int) := of_decide_eq_true (by first | (with_reducible assumption) | assumption)
                                      have q31 : x5_3 < (a0.size : Int) := of_decide_eq_true (by first | (with_reducible assumption) | assumption)
                                      have hx31 := bt_at a0 x5_3
                                      replace p31 := eq_true p31
                                      replace q31 := eq_true q31
                                      have p33 : 0 ≤ (x5_3 : Int) := of_decide_eq_true (by first | (with_reducible assumption) | assumption)
                                      have q33 : x5_3 < (a0.size : Int) := of_decide_eq_true (by first | (with_reducible assumption) | assumption)
                                      have hx33 := bt_at a0 x5_3
                                      replace p33 := eq_true p33
                                      replace q33 := eq_true q33
                                      have p35 : 0 ≤ (x5_3 : Int) := of_decide_eq_true (by first | (with_reducible assumption) | assumption)
                                      have q35 : x5_3 < (a0.size : Int) := of_decide_eq_true (by first | (with_reducible assumption) | assumption)
                                      have hx35 := bt_at a0 x5_3
                                      replace p35 := eq_true p35
                                      replace q35 := eq_true q35
                                      go_wp2
                                      go_ret
                                      exact ⟨by first | rfl | (simp [errW_none, errW_some] <;> rfl) | (simp [*, errW_none, errW_some] <;> rfl), by repeat (first | (with_reducible first | exact HB.out | apply below_alloc | apply pw_below_drewN | apply below_drew1) | exact HB.out)⟩
                                · rw [if_neg c34] at H
                                  have c34b0 : ((Int.tmod x5_3 3) == 2) = false := beq_eq_false_iff_ne.mpr c34
                                  have c34b1 : ((Int.tmod x5_3 3) != 2) = true := bne_iff_ne.mpr c34
                                  by_cases c37 : ((bt a0 x5_3) ≤ 102)
                                  · rw [if_pos c37] at H
                                    have c37b0 : decide ((bt a0 x5_3) ≤ 102) = true := decide_eq_true c37
                                    clear c37
                                    have H' := Aside0.mk H
                                    clear H
                                    have p24 : 0 ≤ (x5_3 : Int) := of_decide_eq_true (by first | (with_reducible assumption) | assumption)
                                    have q24 : x5_3 < (a0.size : Int) := of_decide_eq_true (by first | (with_reducible assumption) | assumption)
                                    have hx24 := bt_at a0 x5_3
                                    replace p24 := eq_true p24
                                    replace q24 := eq_true q24
                                    have p26 : 0 ≤ (x5_3 : Int) := of_decide_eq_true (by first | (with_reducible assumption) | assumption)
                                    have q26 : x5_3 < (a0.size : Int) := of_decide_eq_true (by first | (with_reducible assumption) | assumption)
                                    have hx26 := bt_at a0 x5_3
                                    replace p26 := eq_true p26
                                    replace q26 := eq_true q26
                                    have p31 : 0 ≤ (x5_3 : Int) := of_decide_eq_true (by first | (with_reducible assumption) | assumption)
                                    have q31 : x5_3 < (a0.size : Int) := of_decide_eq_true (by first | (with_reducible assumption) | assumption)
                                    have hx31 := bt_at a0 x5_3
                                    replace p31 := eq_true p31
                                    replace q31 := eq_true q31
                                    have p33 : 0 ≤ (x5_3 : Int) := of_decide_eq_true (by first | (with_reducible assumption) | assumption)
                                    have q33 : x5_3 < (a0.size : Int) := of_decide_eq_true (by first | (with_reducible assumption) | assumption)
                                    have hx33 := bt_at a0 x5_3
                                    replace p33 := eq_true p33
                                    replace q33 := eq_true q33
                                    go_wp2
                                    go_roundg k3
                                    case measure => have := HJ1.out; have := HJ15.out; have := HK3.out; omega
                                    case rel => exact ⟨(wrap64 (x5_3 + 1)), (by first | rfl | (simp; done) | (simp [*]; done)), H', ⟨by have := HJ1.out; have := HJ15.out; have := HK3.out; omega⟩, ⟨by repeat (first | (with_reducible first | exact HB.out | apply below_alloc | apply pw_below_drewN | apply below_drew1) | exact HB.out)⟩⟩
                                  · rw [if_neg c37] at H
                                    have c37b0 : decide ((bt a0 x5_3) ≤ 102) = false := decide_eq_false c37
                                    clear c37
                                    obtain rfl := Option.some.inj H
                                    (try exact absurd LRT.out (by decide))
                                    all_goals
                                      have p24 : 0 ≤ (x5_3 : Int) := of_decide_eq_true (by first | (with_reducible assumption) | assumption)
                                      have q24 : x5_3 < (a0.size : Int) := of_decide_eq_true (by first | (with_reducible assumption) | assumption)
                                      have hx24 := bt_at a0 x5_3
                                      replace p24 := eq_true p24
                                      replace q24 := eq_true q24
                                      have p26 : 0 ≤ (x5_3 : Int) := of_decide_eq_true (by first | (with_reducible assumption) | assumption)
                                      have q26 : x5_3 < (a0.size : Int) := of_decide_eq_true (by first | (with_reducible assumption) | assumption)
                                      have hx26 := bt_at a0 x5_3
                                      replace p26 := eq_true p26
                                      replace q26 := eq_true q26
                                      have p31 : 0 ≤ (x5_3 : Int) := of_decide_eq_true (by first | (with_reducible assumption) | assumption)
                                      have q31 : x5_3 < (a0.size : Int) := of_decide_eq_true (by first | (with_reducible assumption) | assumption)
                                      have hx31 := bt_at a0 x5_3
                                      replace p31 := eq_true p31
                                      replace q31 := eq_true q31
                                      have p33 : 0 ≤ (x5_3 : Int) := of_decide_eq_true (by first | (with_reducible assumption) | assumption)
                                      have q33 : x5_3 < (a0.size : Int) := of_decide_eq_true (by first | (with_reducible assumption) | assumption)
                                      have hx33 := bt_at a0 x5_3
                                      replace p33 := eq_true p33
                                      replace q33 := eq_true q33
                                      go_wp2
                                      go_ret
                                      exact ⟨by first | rfl | (simp [errW_none, errW_some] <;> rfl) | (simp [*, errW_none, errW_some] <;> rfl), by repeat (first | (with_reducible first | exact HB.out | apply below_alloc | apply pw_below_drewN | apply below_drew1) | exact HB.out)⟩
                              · rw [if_neg c32] at H
                                have c32b0 : decide (97 ≤ (bt a0 x5_3)) = false := decide_eq_false c32
                                clear c32
                                by_cases c38 : (Int.tmod x5_3 3) = 2
                                · rw [if_pos c38] at H
                                  have c38b0 : ((Int.tmod x5_3 3) == 2) = true := beq_iff_eq.mpr c38
                                  have c38b1 : ((Int.tmod x5_3 3) != 2) = false := bne_eq_false_iff_eq.mpr c38
                                  clear c38
                                  by_cases c40 : (bt a0 x5_3) = 58
                                  · rw [if_pos c40] at H
                                    have c40b0 : ((bt a0 x5_3) == 58) = true := beq_iff_eq.mpr c40
                                    have c40b1 : ((bt a0 x5_3) != 58) = false := bne_eq_false_iff_eq.mpr c40
                                    clear c40
                                    have H' := Aside0.mk H
                                    clear H
                                    have p24 : 0 ≤ (x5_3 : Int) := of_decide_eq_true (by first | (with_reducible assumption) | assumption)
                                    have q24 : x5_3 < (a0.size : Int) := of_decide_eq_true (by first | (with_reducible assumption) | assumption)
                                    have hx24 := bt_at a0 x5_3
                                    replace p24 := eq_true p24
                                    replace q24 := eq_true q24
                                    have p26 : 0 ≤ (x5_3 : Int) := of_decide_eq_true (by first | (with_reducible assumption) | assumption)
                                    have q26 : x5_3 < (a0.size : Int) := of_decide_eq_true (by first | (with_reducible assumption) | assumption)
                                    have hx26 := bt_at a0 x5_3
                                    replace p26 := eq_true p26
                                    replace q26 := eq_true q26
                                    have p31 : 0 ≤ (x5_3 : Int) := of_decide_eq_true (by first | (with_reducible assumption) | assumption)
                                    have q31 : x5_3 < (a0.size : Int) := of_decide_eq_true (by first | (with_reducible assumption) | assumption)
                                    have hx31 := bt_at a0 x5_3
                                    replace p31 := eq_true p31
                                    replace q31 := eq_true q31
                                    have p39 : 0 ≤ (x5_3 : Int) := of_decide_eq_true (by first | (with_reducible assumption) | assumption)
                                    have q39 : x5_3 < (a0.size : Int) := of_decide_eq_true (by first | (with_reducible assumption) | assumption)
                                    have hx39 := bt_at a0 x5_3
                                    replace p39 := eq_true p39
                                    replace q39 := eq_true q39
                                    go_wp2
                                    go_roundg k3
                                    case measure => have := HJ1.out; have := HJ15.out; have := HK3.out; omega
                                    case rel => exact ⟨(wrap64 (x5_3 + 1)), (by first | rfl | (simp; done) | (simp [*]; done)), H', ⟨by have := HJ1.out; have := HJ15.out; have := HK3.out; omega⟩, ⟨by repeat (first | (with_reducible first | exact HB.out | apply below_alloc | apply pw_below_drewN | apply below_drew1) | exact HB.out)⟩⟩
                                  · rw [if_neg c40] at H
                                    have c40b0 : ((bt a0 x5_3) == 58) = false := beq_eq_false_iff_ne.mpr c40
                                    have c40b1 : ((bt a0 x5_3) != 58) = true := bne_iff_ne.mpr c40
                                    obtain rfl := Option.some.inj H
                                    (try exact absurd LRT.out (by decide))
                                    all_goals
                                      have p24 : 0 ≤ (x5_3 : Int) := of_decide_eq_true (by first | (with_reducible assumption) | assumption)
                                      have q24 : x5_3 < (a0.size : Int) := of_decide_eq_true (by first | (with_reducible assumption) | assumption)
                                      have hx24 := bt_at a0 x5_3
                                      replace p24 := eq_true p24
                                      replace q24 := eq_true q24
                                      have p26 : 0 ≤ (x5_3 : Int) := of_decide_eq_true (by first | (with_reducible assumption) | assumption)
                                      have q26 : x5_3 < (a0.size : Int) := of_decide_eq_true (by first | (with_reducible assumption) | assumption)
                                      have hx26 := bt_at a0 x5_3
                                      replace p26 := eq_true p26
                                      replace q26 := eq_true q26
                                      have p31 : 0 ≤ (x5_3 : Int) := of_decide_eq_true (by first | (with_reducible assumption) | assumption)
                                      have q31 : x5_3 < (a0.size : Int) := of_decide_eq_true (by first | (with_reducible assumption) | assumption)
                                      have hx31 := bt_at a0 x5_3
                                      replace p31 := eq_true p31
                                      replace q31 := eq_true q31
                                      have p39 : 0 ≤ (x5_3 : Int) := of_decide_eq_true (by first | (with_reducible assumption) | assumption)
                                      have q39 : x5_3 < (a0.size : Int) := of_decide_eq_true (by first | (with_reducible assumption) | assumption)
                                      have hx39 := bt_at a0 x5_3
                                      replace p39 := eq_true p39
                                      replace q39 := eq_true q39
                                      go_wp2
                                      go_ret
                                      exact ⟨by first | rfl | (simp [errW_none, errW_some] <;> rfl) | (simp [*, errW_none, errW_some] <;> rfl), by repeat (first | (with_reducible first | exact HB.out | apply below_alloc | apply pw_below_drewN | apply below_drew1) | exact HB.out)⟩
                                · rw [if_neg c38] at H
                                  have c38b0 : ((Int.tmod x5_3 3) == 2) = false := beq_eq_false_iff_ne.mpr c38
                                  have c38b1 : ((Int.tmod x5_3 3) != 2) = true := bne_iff_ne.mpr c38
                                  obtain rfl := Option.some.inj H
                                  (try exact absurd LRT.out (by decide))
                                  all_goals
                                    have p24 : 0 ≤ (x5_3 : Int) := of_decide_eq_true (by first | (with_reducible assumption) | assumption)
                                    have q24 : x5_3 < (a0.size : Int) := of_decide_eq_true (by first | (with_reducible assumption) | assumption)
                                    have hx24 := bt_at a0 x5_3
                                    replace p24 := eq_true p24
                                    replace q24 := eq_true q24
                                    have p26 : 0 ≤ (x5_3 : Int) := of_decide_eq_true (by first | (with_reducible assumption) | assumption)
                                    have q26 : x5_3 < (a0.size : Int) := of_decide_eq_true (by first | (with_reducible assumption) | assumption)
                                    have hx26 := bt_at a0 x5_3
                                    replace p26 := eq_true p26
                                    replace q26 := eq_true q26
                                    have p31 : 0 ≤ (x5_3 : Int) := of_decide_eq_true (by first | (with_reducible assumption) | assumption)
                                    have q31 : x5_3 < (a0.size : Int) := of_decide_eq_true (by first | (with_reducible assumption) | assumption)
                                    have hx31 := bt_at a0 x5_3
                                    replace p31 := eq_true p31
                                    replace q31 := eq_true q31
                                    go_wp2
                                    go_ret
                                    exact ⟨by first | rfl | (simp [errW_none, errW_some] <;> rfl) | (simp [*, errW_none, errW_some] <;> rfl), by repeat (first | (with_reducible first | exact HB.out | apply below_alloc | apply pw_below_drewN | apply below_drew1) | exact HB.out)⟩
                          · rw [if_neg c25] at H
                            have c25b0 : decide (48 ≤ (bt a0 x5_3)) = false := decide_eq_false c25
                            clear c25
                            by_cases c42 : (bt a0 x5_3) ≥ 97
                            · rw [if_pos c42] at H
                              have c42b0 : decide (97 ≤ (bt a0 x5_3)) = true := decide_eq_true c42
                              clear c42
                              by_cases c44 : (Int.tmod x5_3 3) = 2
                              · rw [if_pos c44] at H
                                have c44b0 : ((Int.tmod x5_3 3) == 2) = true := beq_iff_eq.mpr c44
                                have c44b1 : ((Int.tmod x5_3 3) != 2) = false := bne_eq_false_iff_eq.mpr c44
                                clear c44
                                by_cases c46 : (bt a0 x5_3) = 58
                                · rw [if_pos c46] at H
                                  have c46b0 : ((bt a0 x5_3) == 58) = true := beq_iff_eq.mpr c46
                                  have c46b1 : ((bt a0 x5_3) != 58) = false := bne_eq_false_iff_eq.mpr c46
                                  clear c46
                                  have H' := Aside0.mk H
                                  clear H
                                  have p24 : 0 ≤ (x5_3 : Int) := of_decide_eq_true (by first | (with_reducible assumption) | assumption)
                                  have q24 : x5_3 < (a0.size : Int) := of_decide_eq_true (by first | (with_reducible assumption) | assumption)
                                  have hx24 := bt_at a0 x5_3
                                  replace p24 := eq_true p24
                                  replace q24 := eq_true q24
                                  have p41 : 0 ≤ (x5_3 : Int) := of_decide_eq_true (by first | (with_reducible assumption) | assumption)
                                  have q41 : x5_3 < (a0.size : Int) := of_decide_eq_true (by first | (with_reducible assumption) | assumption)
                                  have hx41 := bt_at a0 x5_3
                                  replace p41 := eq_true p41
                                  replace q41 := eq_true q41
                                  have p43 : 0 ≤ (x5_3 : Int) := of_decide_eq_true (by first | (with_reducible assumption) | assumption)
                                  have q43 : x5_3 < (a0.size : Int) := of_decide_eq_true (by first | (with_reducible assumption) | assumption)
                                  have hx43 := bt_at a0 x5_3
                                  replace p43 := eq_true p43
                                  replace q43 := eq_true q43
                                  have p45 : 0 ≤ (x5_3 : Int) := of_decide_eq_true (by first | (with_reducible assumption) | assumption)
                                  have q45 : x5_3 < (a0.size : Int) := of_decide_eq_true (by first | (with_reducible assumption) | assumption)
                                  have hx45 := bt_at a0 x5_3
                                  replace p45 := eq_true p45
                                  replace q45 := eq_true q45
                                  go_wp2
                                  go_roundg k3
                                  case measure => have := HJ1.out; have := HJ15.out; have := HK3.out; omega
                                  case rel => exact ⟨(wrap64 (x5_3 + 1)), (by first | rfl | (simp; done) | (simp [*]; done)), H', ⟨by have := HJ1.out; have := HJ15.out; have := HK3.out; omega⟩, ⟨by repeat (first | (with_reducible first | exact HB.out | apply below_alloc | apply pw_below_drewN | apply below_drew1) | exact HB.out)⟩⟩
                                · rw [if_neg c46] at H
                                  have c46b0 : ((bt a0 x5_3) == 58) = false := beq_eq_false_iff_ne.mpr c46
                                  have c46b1 : ((bt a0 x5_3) != 58) = true := bne_iff_ne.mpr c46
                                  obtain rfl := Option.some.inj H
                                  (try exact absurd LRT.out (by decide))
                                  all_goals
                                    have p24 : 0 ≤ (x5_3 : Int) := of_decide_eq_true (by first | (with_reducible assumption) | assumption)
                                    have q24 : x5_3 < (a0.size : Int) := of_decide_eq_true (by first | (with_reducible assumption) | assumption)
                                    have hx24 := bt_at a0 x5_3
                                    replace p24 := eq_true p24
                                    replace q24 := eq_true q24
                                    have p41 : 0 ≤ (x5_3 : Int) := of_decide_eq_true (by first | (with_reducible assumption) | assumption)
                                    have q41 : x5_3 < (a0.size : Int) := of_decide_eq_true (by first | (with_reducible assumption) | assumption)
                                    have hx41 := bt_at a0 x5_3
                                    replace p41 := eq_true p41
                                    replace q41 := eq_true q41
                                    have p43 : 0 ≤ (x5_3 : Int) := of_decide_eq_true (by first | (with_reducible assumption) | assumption)
                                    have q43 : x5_3 < (a0.size : Int) := of_decide_eq_true (by first | (with_reducible assumption) | assumption)
                                    have hx43 := bt_at a0 x5_3
                                    replace p43 := eq_true p43
                                    replace q43 := eq_true q43
                                    have p45 : 0 ≤ (x5_3 : Int) := of_decide_eq_true (by first | (with_reducible assumption) | assumption)
                                    have q45 : x5_3 < (a0.size : Int) := of_decide_eq_true (by first | (with_reducible assumption) | assumption)
                                    have hx45 := bt_at a0 x5_3
                                    replace p45 := eq_true p45
                                    replace q45 := eq_true q45
                                    go_wp2
                                    go_ret
                                    exact ⟨by first | rfl | (simp [errW_none, errW_some] <;> rfl) | (simp [*, errW_none, errW_some] <;> rfl), by repeat (first | (with_reducible first | exact HB.out | apply below_alloc | apply pw_below_drewN | apply below_drew1) | exact HB.out)⟩
                              · rw [if_neg c44] at H
                                have c44b0 : ((Int.tmod x5_3 3) == 2) = false := beq_eq_false_iff_ne.mpr c44
                                have c44b1 : ((Int.tmod x5_3 3) != 2) = true := bne_iff_ne.mpr c44
                                by_cases c47 : ((bt a0 x5_3) ≤ 102)
                                · rw [if_pos c47] at H
                                  have c47b0 : decide ((bt a0 x5_3) ≤ 102) = true := decide_eq_true c47
                                  clear c47
                                  have H' := Aside0.mk H
                                  clear H
                                  have p24 : 0 ≤ (x5_3 : Int) := of_decide_eq_true (by first | (with_reducible assumption) | assumption)
                                  have q24 : x5_3 < (a0.size : Int) := of_decide_eq_true (by first | (with_reducible assumption) | assumption)
                                  have hx24 := bt_at a0 x5_3
                                  replace p24 := eq_true p24
                                  replace q24 := eq_true q24
                                  have p41 : 0 ≤ (x5_3 : Int) := of_decide_eq_true (by first | (with_reducible assumption) | assumption)
                                  have q41 : x5_3 < (a0.size : Int) := of_decide_eq_true (by first | (with_reducible assumption) | assumption)
                                  have hx41 := bt_at a0 x5_3
                                  replace p41 := eq_true p41
                                  replace q41 := eq_true q41
                                  have p43 : 0 ≤ (x5_3 : Int) := of_decide_eq_true (by first | (with_reducible assumption) | assumption)
                                  have q43 : x5_3 < (a0.size : Int) := of_decide_eq_true (by first | (with_reducible assumption) | assumption)
                                  have hx43 := bt_at a0 x5_3
                                  replace p43 := eq_true p43
                                  replace q43 := eq_true q43
                                  go_wp2
                                  go_roundg k3
                                  case measure => have := HJ1.out; have := HJ15.out; have := HK3.out; omega
                                  case rel => exact ⟨(wrap64 (x5_3 + 1)), (by first | rfl | (simp; done) | (simp [*]; done)), H', ⟨by have := HJ1.out; have := HJ15.out; have := HK3.out; omega⟩, ⟨by repeat (first | (with_reducible first | exact HB.out | apply below_alloc | apply pw_below_drewN | apply below_drew1) | exact HB.out)⟩⟩
                                · rw [if_neg c47] at H
                                  have c47b0 : decide ((bt a0 x5_3) ≤ 102) = false := decide_eq_false c47
                                  clear c47
                                  obtain rfl := Option.some.inj H
                                  (try exact absurd LRT.out (by decide))
                                  all_goals
                                    have p24 : 0 ≤ (x5_3 : Int) := of_decide_eq_true (by first | (with_reducible assumption) | assumption)
                                    have q24 : x5_3 < (a0.size : Int) := of_decide_eq_true (by first | (with_reducible assumption) | assumption)
                                    have hx24 := bt_at a0 x5_3
                                    replace p24 := eq_true p24
                                    replace q24 := eq_true q24
                                    have p41 : 0 ≤ (x5_3 : Int) := of_decide_eq_true (by first | (with_reducible assumption) | assumption)
                                    have q41 : x5_3 < (a0.size : Int) := of_decide_eq_true (by first | (with_reducible assumption) | assumption)
                                    have hx41 := bt_at a0 x5_3
                                    replace p41 := eq_true p41
                                    replace q41 := eq_true q41
                                    have p43 : 0 ≤ (x5_3 : Int) := of_decide_eq_true (by first | (with_reducible assumption) | assumption)
                                    have q43 : x5_3 < (a0.size : Int) := of_decide_eq_true (by first | (with_reducible assumption) | assumption)
                                    have hx43 := bt_at a0 x5_3
                                    replace p43 := eq_true p43
                                    replace q43 := eq_true q43
                                    go_wp2
                                    go_ret
                                    exact ⟨by first | rfl | (simp [errW_none, errW_some] <;> rfl) | (simp [*, errW_none, errW_some] <;> rfl), by repeat (first | (with_reducible first | exact HB.out | apply below_alloc | apply pw_below_drewN | apply below_drew1) | exact HB.out)⟩
                            · rw [if_neg c42] at H
                              have c42b0 : decide (97 ≤ (bt a0 x5_3)) = false := decide_eq_false c42
                              clear c42
                              by_cases c48 : (Int.tmod x5_3 3) = 2
                              · rw [if_pos c48] at H
                                have c48b0 : ((Int.tmod x5_3 3) == 2) = true := beq_iff_eq.mpr c48
                                have c48b1 : ((Int.tmod x5_3 3) != 2) = false := bne_eq_false_iff_eq.mpr c48
                                clear c48
                                by_cases c50 : (bt a0 x5_3) = 58
                                · rw [if_pos c50] at H
                                  have c50b0 : ((bt a0 x5_3) == 58) = true := beq_iff_eq.mpr c50
                                  have c50b1 : ((bt a0 x5_3) != 58) = false := bne_eq_false_iff_eq.mpr c50
                                  clear c50
                                  have H' := Aside0.mk H
                                  clear H
                                  have p24 : 0 ≤ (x5_3 : Int) := of_decide_eq_true (by first | (with_reducible assumption) | assumption)
                                  have q24 : x5_3 < (a0.size : Int) := of_decide_eq_true (by first | (with_reducible assumption) | assumption)
                                  have hx24 := bt_at a0 x5_3
                                  replace p24 := eq_true p24
                                  replace q24 := eq_true q24
                                  have p41 : 0 ≤ (x5_3 : Int) := of_decide_eq_true (by first | (with_reducible assumption) | assumption)
                                  have q41 : x5_3 < (a0.size : Int) := of_decide_eq_true (by first | (with_reducible assumption) | assumption)
                                  have hx41 := bt_at a0 x5_3
                                  replace p41 := eq_true p41
                                  replace q41 := eq_true q41
                                  have p49 : 0 ≤ (x5_3 : Int) := of_decide_eq_true (by first | (with_reducible assumption) | assumption)
                                  have q49 : x5_3 < (a0.size : Int) := of_decide_eq_true (by first | (with_reducible assumption) | assumption)
                                  have hx49 := bt_at a0 x5_3
                                  replace p49 := eq_true p49
                                  replace q49 := eq_true q49
                                  go_wp2
                                  go_roundg k3
                                  case measure => have := HJ1.out; have := HJ15.out; have := HK3.out; omega
                                  case rel => exact ⟨(wrap64 (x5_3 + 1)), (by first | rfl | (simp; done) | (simp [*]; done)), H', ⟨by have := HJ1.out; have := HJ15.out; have := HK3.out; omega⟩, ⟨by repeat (first | (with_reducible first | exact HB.out | apply below_alloc | apply pw_below_drewN | apply below_drew1) | exact HB.out)⟩⟩
                                · rw [if_neg c50] at H
                                  have c50b0 : ((bt a0 x5_3) == 58) = false := beq_eq_false_iff_ne.mpr c50
                                  have c50b1 : ((bt a0 x5_3) != 58) = true := bne_iff_ne.mpr c50
                                  obtain rfl := Option.some.inj H
                                  (try exact absurd LRT.out (by decide))
                                  all_goals
                                    have p24 : 0 ≤ (x5_3 : Int) := of_decide_eq_true (by first | (with_reducible assumption) | assumption)
                                    have q24 : x5_3 < (a0.size : Int) := of_decide_eq_true (by first | (with_reducible assumption) | assumption)
                                    have hx24 := bt_at a0 x5_3
                                    replace p24 := eq_true p24
                                    replace q24 := eq_true q24
                                    have p41 : 0 ≤ (x5_3 : Int) := of_decide_eq_true (by first | (with_reducible assumption) | assumption)
                                    have q41 : x5_3 < (a0.size : Int) := of_decide_eq_true (by first | (with_reducible assumption) | assumption)
                                    have hx41 := bt_at a0 x5_3
                                    replace p41 := eq_true p41
                                    replace q41 := eq_true q41
                                    have p49 : 0 ≤ (x5_3 : Int) := of_decide_eq_true (by first | (with_reducible assumption) | assumption)
                                    have q49 : x5_3 < (a0.size : Int) := of_decide_eq_true (by first | (with_reducible assumption) | assumption)
                                    have hx49 := bt_at a0 x5_3
                                    replace p49 := eq_true p49
                                    replace q49 := eq_true q49
                                    go_wp2
                                    go_ret
                                    exact ⟨by first | rfl | (simp [errW_none, errW_some] <;> rfl) | (simp [*, errW_none, errW_some] <;> rfl), by repeat (first | (with_reducible first | exact HB.out | apply below_alloc | apply pw_below_drewN | apply below_drew1) | exact HB.out)⟩
                              · rw [if_neg c48] at H
                                have c48b0 : ((Int.tmod x5_3 3) == 2) = false := beq_eq_false_iff_ne.mpr c48
                                have c48b1 : ((Int.tmod x5_3 3) != 2) = true := bne_iff_ne.mpr c48
                                obtain rfl := Option.some.inj H
                                (try exact absurd LRT.out (by decide))
                                all_goals
                                  have p24 : 0 ≤ (x5_3 : Int) := of_decide_eq_true (by first | (with_reducible assumption) | assumption)
                                  have q24 : x5_3 < (a0.size : Int) := of_decide_eq_true (by first | (with_reducible assumption) | assumption)
                                  have hx24 := bt_at a0 x5_3
                                  replace p24 := eq_true p24
                                  replace q24 := eq_true q24
                                  have p41 : 0 ≤ (x5_3 : Int) := of_decide_eq_true (by first | (with_reducible assumption) | assumption)
                                  have q41 : x5_3 < (a0.size : Int) := of_decide_eq_true (by first | (with_reducible assumption) | assumption)
                                  have hx41 := bt_at a0 x5_3
                                  replace p41 := eq_true p41
                                  replace q41 := eq_true q41
                                  go_wp2
                                  go_ret
                                  exact ⟨by first | rfl | (simp [errW_none, errW_some] <;> rfl) | (simp [*, errW_none, errW_some] <;> rfl), by repeat (first | (with_reducible first | exact HB.out | apply below_alloc | apply pw_below_drewN | apply below_drew1) | exact HB.out)⟩
                        · rw [if_neg c23] at H
                          exact absurd H (by simp)
                      · rw [if_neg c22] at H
                        exact absurd H (by simp)
                    · rw [if_neg c21] at H
                      have c21b0 : decide (x5_3 < 17) = false := decide_eq_false c21
                      clear c21
                      obtain rfl := Option.some.inj H
                      (try exact absurd LRT.out (by decide))
                      all_goals
                        go_wp2
                        go_ret
                        exact ⟨by first | rfl | (simp [errW_none, errW_some] <;> rfl) | (simp [*, errW_none, errW_some] <;> rfl), by repeat (first | (with_reducible first | exact HB.out | apply below_alloc | apply pw_below_drewN | apply below_drew1) | exact HB.out)⟩

/-- THE ONE PURE STATEMENT of treelinelaw01_IdsParses: yours. -/
def treelinelaw01_IdsParses.Pure : Prop := ∀ (a0 : ByteArray), a0.size ≤ 140737488351232 → ∃ k, treelinelaw01_IdsParses.f k a0 = some true
theorem treelinelaw01_IdsParses.walk (P : treelinelaw01_IdsParses.Pure) (a0 : ByteArray) (w : World) (w0 : a0.size ≤ 140737488351232) :
    Calls Try.prog 11 #[.string a0] w fun e w' => e = .returned (.bool true) ∧ Below w.heap.size w w' := by
  obtain ⟨k, h⟩ := P a0 w0
  refine (treelinelaw01_IdsParses.calls k a0 true w h ⟨rfl⟩).mono ?_
  rintro e w' ⟨rfl, hd⟩
  exact ⟨rfl, hd⟩


end Go.Proofs.Ytahhlbbgjjhncaa.OIdsParses
