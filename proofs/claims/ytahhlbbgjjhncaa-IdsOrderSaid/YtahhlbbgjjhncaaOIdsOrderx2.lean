/- What Go functions that the law IdsOrder uses come to, and why: part 2. Made out of the kit's print by a program of this session (wip/tools/mend.py), with more rows. -/
import Derived.Test.YtahhlbbgjjhncaaPIdsOrderx0
import Derived.Test.YtahhlbbgjjhncaaOIdsOrderx1
namespace Go.Proofs.Ytahhlbbgjjhncaa.PIdsOrder
open Go.RowKit Go.Proofs.YtahhlbbgjjhncaaW.PrintWords Go.Proofs.YtahhlbbgjjhncaaW.PrintLast Go.Proofs.YtahhlbbgjjhncaaW.PrintMore
attribute [local go_sem] max2_int min2_int max_two min_two max_three min_three max_four min_four   -- for this text's walks alone
set_option linter.unusedVariables false
set_option linter.unusedSimpArgs false

/-! ### treelinelaw01_IdsOrder: function 9 -/
mutual
def treelinelaw01_IdsOrder.j0 : Nat → Int → Int → Int → Int → Int → Int → Int → Int → Bool → Option (Bool)
  | 0, _, _, _, _, _, _, _, _, _ => none
  | k + 1, x0, x1, x2, x3, x4, x5, x13, x14, x15 => if x0 = x1 then (treelinelaw01_IdsOrder.j1 k x0 x1 x2 x3 x4 x5 x13 x15 (x13 == x14)) else (treelinelaw01_IdsOrder.j1 k x0 x1 x2 x3 x4 x5 x13 x15 false)
def treelinelaw01_IdsOrder.j1 : Nat → Int → Int → Int → Int → Int → Int → Int → Bool → Bool → Option (Bool)
  | 0, _, _, _, _, _, _, _, _, _ => none
  | k + 1, x0, x1, x2, x3, x4, x5, x13, x15, x16 => (ids_Bridge.f x0 x2).bind fun t128 => ((ids_Bridge.f x1 x3).bind fun t129 => (if ((decide (t128 < t129)) != x15) = true then (treelinelaw01_IdsOrder.j2 k x0 x1 x4 x5 x13 t128 true) else (treelinelaw01_IdsOrder.j2 k x0 x1 x4 x5 x13 t128 ((t128 == t129) != x16))))
def treelinelaw01_IdsOrder.j2 : Nat → Int → Int → Int → Int → Int → Int → Bool → Option (Bool)
  | 0, _, _, _, _, _, _, _ => none
  | k + 1, x0, x1, x4, x5, x13, x17, x69 => if x69 = true then (some false) else ((ids_Split.f x17).bind fun bt130 => ((ids_Port.f ((x0) % 256) (Int.tmod (wrap64 (x4)) 255)).bind fun t132 => ((ids_Port.f ((x1) % 256) (Int.tmod (wrap64 (x5)) 255)).bind fun t133 => (if bt130.1 = x0 then (if bt130.2 = x13 then (if ((x0) % 256) < ((x1) % 256) then (some ((decide (t132 < t133)) == true)) else (if ((x0) % 256) = ((x1) % 256) then (some ((decide (t132 < t133)) == (decide ((Int.tmod (wrap64 (x4)) 255) < (Int.tmod (wrap64 (x5)) 255))))) else (some ((decide (t132 < t133)) == false)))) else (some false)) else (some false)))))
end
def treelinelaw01_IdsOrder.f (k : Nat) (a0 : Int) (a1 : Int) (a2 : Int) (a3 : Int) (a4 : Int) (a5 : Int) : Option (Bool) := (treelinelaw01_awake.f k).bind fun t127 => (if t127 = true then (if a0 < a1 then (treelinelaw01_IdsOrder.j0 k a0 a1 a2 a3 a4 a5 (Int.tmod a2 281474976710656) (Int.tmod a3 281474976710656) true) else (if a0 = a1 then (treelinelaw01_IdsOrder.j0 k a0 a1 a2 a3 a4 a5 (Int.tmod a2 281474976710656) (Int.tmod a3 281474976710656) (decide ((Int.tmod a2 281474976710656) < (Int.tmod a3 281474976710656)))) else (treelinelaw01_IdsOrder.j0 k a0 a1 a2 a3 a4 a5 (Int.tmod a2 281474976710656) (Int.tmod a3 281474976710656) false))) else (some false))
theorem treelinelaw01_IdsOrder.mono_l : ∀ k, (∀ y0 y1 y2 y3 y4 y5 y6 y7 y8, LeO (treelinelaw01_IdsOrder.j0 k y0 y1 y2 y3 y4 y5 y6 y7 y8) (treelinelaw01_IdsOrder.j0 (k + 1) y0 y1 y2 y3 y4 y5 y6 y7 y8)) ∧ (∀ y0 y1 y2 y3 y4 y5 y6 y7 y8, LeO (treelinelaw01_IdsOrder.j1 k y0 y1 y2 y3 y4 y5 y6 y7 y8) (treelinelaw01_IdsOrder.j1 (k + 1) y0 y1 y2 y3 y4 y5 y6 y7 y8)) ∧ (∀ y0 y1 y2 y3 y4 y5 y6, LeO (treelinelaw01_IdsOrder.j2 k y0 y1 y2 y3 y4 y5 y6) (treelinelaw01_IdsOrder.j2 (k + 1) y0 y1 y2 y3 y4 y5 y6))
  | 0 => ⟨fun _ _ _ _ _ _ _ _ _ r h => by simp [treelinelaw01_IdsOrder.j0] at h, fun _ _ _ _ _ _ _ _ _ r h => by simp [treelinelaw01_IdsOrder.j1] at h, fun _ _ _ _ _ _ _ r h => by simp [treelinelaw01_IdsOrder.j2] at h⟩
  | k + 1 => by
    obtain ⟨ih0, ih1, ih2⟩ := treelinelaw01_IdsOrder.mono_l k
    refine ⟨?_, ?_, ?_⟩
    · intro y0 y1 y2 y3 y4 y5 y6 y7 y8
      unfold treelinelaw01_IdsOrder.j0
      repeat' first
      | (with_reducible exact ih0 _ _ _ _ _ _ _ _ _)
      | (with_reducible exact ih1 _ _ _ _ _ _ _ _ _)
      | (with_reducible exact ih2 _ _ _ _ _ _ _)
      | (with_reducible exact treelinelaw01_awake.mono _)
      | (with_reducible exact LeO.refl _)
      | (with_reducible exact LeO.none _)
      | (with_reducible refine LeO.ite ?_ ?_)
      | (with_reducible refine LeO.bind ?_ (fun _ => ?_))
      | exact ih0 _ _ _ _ _ _ _ _ _
      | exact ih1 _ _ _ _ _ _ _ _ _
      | exact ih2 _ _ _ _ _ _ _
      | exact treelinelaw01_awake.mono _
      | exact LeO.none _
      | refine LeO.ite ?_ ?_
      | refine LeO.bind ?_ (fun _ => ?_)
    · intro y0 y1 y2 y3 y4 y5 y6 y7 y8
      unfold treelinelaw01_IdsOrder.j1
      repeat' first
      | (with_reducible exact ih0 _ _ _ _ _ _ _ _ _)
      | (with_reducible exact ih1 _ _ _ _ _ _ _ _ _)
      | (with_reducible exact ih2 _ _ _ _ _ _ _)
      | (with_reducible exact treelinelaw01_awake.mono _)
      | (with_reducible exact LeO.refl _)
      | (with_reducible exact LeO.none _)
      | (with_reducible refine LeO.ite ?_ ?_)
      | (with_reducible refine LeO.bind ?_ (fun _ => ?_))
      | exact ih0 _ _ _ _ _ _ _ _ _
      | exact ih1 _ _ _ _ _ _ _ _ _
      | exact ih2 _ _ _ _ _ _ _
      | exact treelinelaw01_awake.mono _
      | exact LeO.none _
      | refine LeO.ite ?_ ?_
      | refine LeO.bind ?_ (fun _ => ?_)
    · intro y0 y1 y2 y3 y4 y5 y6
      unfold treelinelaw01_IdsOrder.j2
      repeat' first
      | (with_reducible exact ih0 _ _ _ _ _ _ _ _ _)
      | (with_reducible exact ih1 _ _ _ _ _ _ _ _ _)
      | (with_reducible exact ih2 _ _ _ _ _ _ _)
      | (with_reducible exact treelinelaw01_awake.mono _)
      | (with_reducible exact LeO.refl _)
      | (with_reducible exact LeO.none _)
      | (with_reducible refine LeO.ite ?_ ?_)
      | (with_reducible refine LeO.bind ?_ (fun _ => ?_))
      | exact ih0 _ _ _ _ _ _ _ _ _
      | exact ih1 _ _ _ _ _ _ _ _ _
      | exact ih2 _ _ _ _ _ _ _
      | exact treelinelaw01_awake.mono _
      | exact LeO.none _
      | refine LeO.ite ?_ ?_
      | refine LeO.bind ?_ (fun _ => ?_)
theorem treelinelaw01_IdsOrder.mono : ∀ a0 a1 a2 a3 a4 a5 k, LeO (treelinelaw01_IdsOrder.f k a0 a1 a2 a3 a4 a5) (treelinelaw01_IdsOrder.f (k + 1) a0 a1 a2 a3 a4 a5) := by
  intro a0 a1 a2 a3 a4 a5 k
  obtain ⟨ih0, ih1, ih2⟩ := treelinelaw01_IdsOrder.mono_l k
  unfold treelinelaw01_IdsOrder.f
  repeat' first
      | (with_reducible exact ih0 _ _ _ _ _ _ _ _ _)
      | (with_reducible exact ih1 _ _ _ _ _ _ _ _ _)
      | (with_reducible exact ih2 _ _ _ _ _ _ _)
      | (with_reducible exact treelinelaw01_awake.mono _)
      | (with_reducible exact LeO.refl _)
      | (with_reducible exact LeO.none _)
      | (with_reducible refine LeO.ite ?_ ?_)
      | (with_reducible refine LeO.bind ?_ (fun _ => ?_))
      | exact ih0 _ _ _ _ _ _ _ _ _
      | exact ih1 _ _ _ _ _ _ _ _ _
      | exact ih2 _ _ _ _ _ _ _
      | exact treelinelaw01_awake.mono _
      | exact LeO.none _
      | refine LeO.ite ?_ ?_
      | refine LeO.bind ?_ (fun _ => ?_)
set_option maxHeartbeats 8000000 in
set_option maxRecDepth 100000 in
theorem treelinelaw01_IdsOrder.calls (k : Nat) (a0 : Int) (a1 : Int) (a2 : Int) (a3 : Int) (a4 : Int) (a5 : Int) (r : Bool) (w : World) (h : treelinelaw01_IdsOrder.f k a0 a1 a2 a3 a4 a5 = some r) :
    Calls Try.prog 9 #[.int .u16 a0, .int .u16 a1, .int .u64 a2, .int .u64 a3, .int .u8 a4, .int .u8 a5] w fun e w' => e = .returned (.bool r) ∧ Below w.heap.size w w' := by
  have HB := Aside0.mk (Below.refl w.heap.size w)
  have H : ((treelinelaw01_awake.f k).bind fun t127 => (if t127 = true then (if a0 < a1 then (treelinelaw01_IdsOrder.j0 k a0 a1 a2 a3 a4 a5 (Int.tmod a2 281474976710656) (Int.tmod a3 281474976710656) true) else (if a0 = a1 then (treelinelaw01_IdsOrder.j0 k a0 a1 a2 a3 a4 a5 (Int.tmod a2 281474976710656) (Int.tmod a3 281474976710656) (decide ((Int.tmod a2 281474976710656) < (Int.tmod a3 281474976710656)))) else (treelinelaw01_IdsOrder.j0 k a0 a1 a2 a3 a4 a5 (Int.tmod a2 281474976710656) (Int.tmod a3 281474976710656) false))) else (some false))) = some r := h
  clear h
  replace H := Option.bind_eq_some_iff.mp H
  obtain ⟨t127, A70, H⟩ := H
  replace H : (if t127 = true then (if a0 < a1 then (treelinelaw01_IdsOrder.j0 k a0 a1 a2 a3 a4 a5 (Int.tmod a2 281474976710656) (Int.tmod a3 281474976710656) true) else (if a0 = a1 then (treelinelaw01_IdsOrder.j0 k a0 a1 a2 a3 a4 a5 (Int.tmod a2 281474976710656) (Int.tmod a3 281474976710656) (decide ((Int.tmod a2 281474976710656) < (Int.tmod a3 281474976710656)))) else (treelinelaw01_IdsOrder.j0 k a0 a1 a2 a3 a4 a5 (Int.tmod a2 281474976710656) (Int.tmod a3 281474976710656) false))) else (some false)) = some r := H
  have A7 := Aside0.mk A70
  clear A70
  by_cases c8 : t127 = true
  · subst c8
    have H1 : (if a0 < a1 then (treelinelaw01_IdsOrder.j0 k a0 a1 a2 a3 a4 a5 (Int.tmod a2 281474976710656) (Int.tmod a3 281474976710656) true) else (if a0 = a1 then (treelinelaw01_IdsOrder.j0 k a0 a1 a2 a3 a4 a5 (Int.tmod a2 281474976710656) (Int.tmod a3 281474976710656) (decide ((Int.tmod a2 281474976710656) < (Int.tmod a3 281474976710656)))) else (treelinelaw01_IdsOrder.j0 k a0 a1 a2 a3 a4 a5 (Int.tmod a2 281474976710656) (Int.tmod a3 281474976710656) false))) = some r := by rw [if_pos rfl] at H; exact H
    clear H
    have H := H1
    clear H1
    have HC9 := Aside0.mk H
    clear H
    go_enter Try.func9, Try.ntmps9
    go_upto_region 4 with (first | ((with_reducible refine gate_callee (f := 25) rfl ?_); refine goesL_ (some 25) rfl rfl Try.func25 (by kernel_rfl) rfl #[] rfl (by (try simp only [List.map_toArray, List.map_cons, List.map_nil]); first | done | rfl | (simp only [List.length_drop, List.length_take]; rfl)) ?_; (with_reducible refine (treelinelaw01_awake.calls k  true _ A7.out).mono ?_); rintro e w10 ⟨rfl, hb⟩; refine ⟨_, rfl, ?_⟩; have n0_ := Aside0.mk (below_step (by repeat (first | (with_reducible first | exact HB.out | apply below_alloc | apply pw_below_drewN | apply below_drew1) | exact HB.out)) hb); clear HB; have HB := n0_; clear n0_; (try clear hb); (try clear hb2); (try clear hk); (try clear hi)))
    (try simp only [Act.put, List.setIfInBounds_toArray, List.set_cons_zero, List.set_cons_succ])
    go_cut [15] (fun v15 wc => ∃ (kq : Nat) (x15_8 : Bool), v15 = .bool x15_8 ∧ Aside0 (treelinelaw01_IdsOrder.j0 kq a0 a1 a2 a3 a4 a5 (Int.tmod a2 281474976710656) (Int.tmod a3 281474976710656) x15_8 = some r) ∧ Aside0 (kq ≤ k) ∧ Aside0 (Below w.heap.size w wc))
    case first =>
      have H := HC9.out
      clear HC9
      by_cases c11 : a0 < a1
      · rw [if_pos c11] at H
        have c11b0 : decide (a0 < a1) = true := decide_eq_true c11
        clear c11
        (first | rw [c11b0] | (simp only [i64_w, i32_w]; rw [c11b0]) | skip)
        have H' := Aside0.mk H
        clear H
        go_wp2
        go_meet
        case rel => exact ⟨_, (true), (by first | rfl | (simp; done) | (simp [*]; done)), H', ⟨by first | omega | exact Nat.le_refl _⟩, ⟨by repeat (first | (with_reducible first | exact HB.out | apply below_alloc | apply pw_below_drewN | apply below_drew1) | exact HB.out)⟩⟩
      · rw [if_neg c11] at H
        have c11b0 : decide (a0 < a1) = false := decide_eq_false c11
        clear c11
        (first | rw [c11b0] | (simp only [i64_w, i32_w]; rw [c11b0]) | skip)
        by_cases c12 : a0 = a1
        · rw [if_pos c12] at H
          have c12b0 : (a0 == a1) = true := beq_iff_eq.mpr c12
          have c12b1 : (a0 != a1) = false := bne_eq_false_iff_eq.mpr c12
          clear c12
          have H' := Aside0.mk H
          clear H
          go_wp2
          go_meet
          case rel => exact ⟨_, (decide ((Int.tmod a2 281474976710656) < (Int.tmod a3 281474976710656))), (by first | rfl | (simp; done) | (simp [*]; done)), H', ⟨by first | omega | exact Nat.le_refl _⟩, ⟨by repeat (first | (with_reducible first | exact HB.out | apply below_alloc | apply pw_below_drewN | apply below_drew1) | exact HB.out)⟩⟩
        · rw [if_neg c12] at H
          have c12b0 : (a0 == a1) = false := beq_eq_false_iff_ne.mpr c12
          have c12b1 : (a0 != a1) = true := bne_iff_ne.mpr c12
          have H' := Aside0.mk H
          clear H
          go_wp2
          go_meet
          case rel => exact ⟨_, (false), (by first | rfl | (simp; done) | (simp [*]; done)), H', ⟨by first | omega | exact Nat.le_refl _⟩, ⟨by repeat (first | (with_reducible first | exact HB.out | apply below_alloc | apply pw_below_drewN | apply below_drew1) | exact HB.out)⟩⟩
    case rest =>
      clear HC9
      try clear c1
      try clear c2
      try clear p2
      try clear c8
      try clear c9
      try clear c11
      try clear c11b0
      try clear c12
      try clear c12b0
      try clear c12b1
      obtain ⟨kq, x15_8, rfl, HA, HJ8, HB⟩ := hcut
      cases kq with
      | zero => exact absurd HA.out (by simp [treelinelaw01_IdsOrder.j0])
      | succ kj8 =>
        have H := HA.out
        clear HA
        simp only [treelinelaw01_IdsOrder.j0] at H
        have HC13 := Aside0.mk H
        clear H
        go_upto_region 5 with (fail)
        go_cut [16] (fun v16 wc => ∃ (kq : Nat) (x16_12 : Bool), v16 = .bool x16_12 ∧ Aside0 (treelinelaw01_IdsOrder.j1 kq a0 a1 a2 a3 a4 a5 (Int.tmod a2 281474976710656) x15_8 x16_12 = some r) ∧ Aside0 (kq ≤ kj8) ∧ Aside0 (Below w.heap.size w wc))
        case first =>
          have H := HC13.out
          clear HC13
          by_cases c14 : a0 = a1
          · rw [if_pos c14] at H
            have c14b0 : (a0 == a1) = true := beq_iff_eq.mpr c14
            have c14b1 : (a0 != a1) = false := bne_eq_false_iff_eq.mpr c14
            clear c14
            (first | rw [c14b0] | (simp only [i64_w, i32_w]; rw [c14b0]) | skip)
            have H' := Aside0.mk H
            clear H
            go_wp2
            go_meet
            case rel => exact ⟨_, (((Int.tmod a2 281474976710656) == (Int.tmod a3 281474976710656))), (by first | rfl | (simp; done) | (simp [*]; done)), H', ⟨by have := HJ8.out; first | omega | exact Nat.le_refl _⟩, ⟨by repeat (first | (with_reducible first | exact HB.out | apply below_alloc | apply pw_below_drewN | apply below_drew1) | exact HB.out)⟩⟩
          · rw [if_neg c14] at H
            have c14b0 : (a0 == a1) = false := beq_eq_false_iff_ne.mpr c14
            have c14b1 : (a0 != a1) = true := bne_iff_ne.mpr c14
            (first | rw [c14b0] | (simp only [i64_w, i32_w]; rw [c14b0]) | skip)
            have H' := Aside0.mk H
            clear H
            go_wp2
            go_meet
            case rel => exact ⟨_, (false), (by first | rfl | (simp; done) | (simp [*]; done)), H', ⟨by have := HJ8.out; first | omega | exact Nat.le_refl _⟩, ⟨by repeat (first | (with_reducible first | exact HB.out | apply below_alloc | apply pw_below_drewN | apply below_drew1) | exact HB.out)⟩⟩
        case rest =>
          clear HC13
          try clear c1
          try clear c2
          try clear p2
          try clear c8
          try clear c9
          try clear c11
          try clear c11b0
          try clear c12
          try clear c12b0
          try clear c12b1
          try clear c14
          try clear c14b0
          try clear c14b1
          try clear p2
          obtain ⟨kq, x16_12, rfl, HA, HJ12, HB⟩ := hcut
          cases kq with
          | zero => exact absurd HA.out (by simp [treelinelaw01_IdsOrder.j1])
          | succ kj12 =>
            have H := HA.out
            clear HA
            simp only [treelinelaw01_IdsOrder.j1] at H
            replace H := Option.bind_eq_some_iff.mp H
            obtain ⟨t128, A150, H⟩ := H
            replace H : ((ids_Bridge.f a1 a3).bind fun t129 => (if ((decide (t128 < t129)) != x15_8) = true then (treelinelaw01_IdsOrder.j2 kj12 a0 a1 a4 a5 (Int.tmod a2 281474976710656) t128 true) else (treelinelaw01_IdsOrder.j2 kj12 a0 a1 a4 a5 (Int.tmod a2 281474976710656) t128 ((t128 == t129) != x16_12)))) = some r := H
            have A15 := Aside0.mk A150
            clear A150
            replace H := Option.bind_eq_some_iff.mp H
            obtain ⟨t129, A160, H⟩ := H
            replace H : (if ((decide (t128 < t129)) != x15_8) = true then (treelinelaw01_IdsOrder.j2 kj12 a0 a1 a4 a5 (Int.tmod a2 281474976710656) t128 true) else (treelinelaw01_IdsOrder.j2 kj12 a0 a1 a4 a5 (Int.tmod a2 281474976710656) t128 ((t128 == t129) != x16_12))) = some r := H
            have A16 := Aside0.mk A160
            clear A160
            have HC17 := Aside0.mk H
            clear H
            go_upto_region 7 with (first | ((with_reducible refine gate_callee (f := 28) rfl ?_); refine goesL_ (some 54) rfl rfl Try.func28 (by kernel_rfl) rfl #[.int .u16 a0, .int .u64 a2] rfl (by (try simp only [List.map_toArray, List.map_cons, List.map_nil]); first | done | rfl | (simp only [List.length_drop, List.length_take]; rfl)) ?_; (with_reducible refine (ids_Bridge.calls a0 a2 t128 _ A15.out).mono ?_); rintro e w' ⟨rfl, ⟨nd, rfl⟩⟩; refine ⟨_, rfl, ?_⟩) | ((with_reducible refine gate_callee (f := 28) rfl ?_); refine goesL_ (some 57) rfl rfl Try.func28 (by kernel_rfl) rfl #[.int .u16 a1, .int .u64 a3] rfl (by (try simp only [List.map_toArray, List.map_cons, List.map_nil]); first | done | rfl | (simp only [List.length_drop, List.length_take]; rfl)) ?_; (with_reducible refine (ids_Bridge.calls a1 a3 t129 _ A16.out).mono ?_); rintro e w' ⟨rfl, ⟨nd, rfl⟩⟩; refine ⟨_, rfl, ?_⟩))
            (try simp only [Act.put, List.setIfInBounds_toArray, List.set_cons_zero, List.set_cons_succ])
            go_cut [69] (fun v69 wc => ∃ (kq : Nat) (x69_16 : Bool), v69 = .bool x69_16 ∧ Aside0 (treelinelaw01_IdsOrder.j2 kq a0 a1 a4 a5 (Int.tmod a2 281474976710656) t128 x69_16 = some r) ∧ Aside0 (kq ≤ kj12) ∧ Aside0 (Below w.heap.size w wc))
            case first =>
              have H := HC17.out
              clear HC17
              by_cases c18 : ((decide (t128 < t129)) != x15_8) = true
              · rw [if_pos c18] at H
                have c18b0 : ((decide (t128 < t129)) != x15_8) = true := c18
                (try (have c18b1 : decide ((decide (t128 < t129)) = x15_8) = false := by simpa using c18))
                (try (have c18b2 : ((decide (t128 < t129)) == x15_8) = false := by simpa using c18))
                (try (have c18b3 : ¬ ((decide (t128 < t129)) = x15_8) := by simpa using c18))
                clear c18
                (first | rw [c18b0] | (simp only [i64_w, i32_w]; rw [c18b0]) | skip)
                have H' := Aside0.mk H
                clear H
                go_wp2
                go_meet
                case rel => exact ⟨_, (true), (by first | rfl | (simp; done) | (simp [*]; done)), H', ⟨by have := HJ8.out; have := HJ12.out; first | omega | exact Nat.le_refl _⟩, ⟨by repeat (first | (with_reducible first | exact HB.out | apply below_alloc | apply pw_below_drewN | apply below_drew1) | exact HB.out)⟩⟩
              · rw [if_neg c18] at H
                have c18b0 : ((decide (t128 < t129)) != x15_8) = false := by simpa using c18
                (try (have c18b1 : decide ((decide (t128 < t129)) = x15_8) = true := by simpa using c18))
                (try (have c18b2 : ((decide (t128 < t129)) == x15_8) = true := by simpa using c18))
                clear c18
                (first | rw [c18b0] | (simp only [i64_w, i32_w]; rw [c18b0]) | skip)
                have H' := Aside0.mk H
                clear H
                go_wp2
                go_meet
                case rel => exact ⟨_, (((t128 == t129) != x16_12)), (by first | rfl | (simp; done) | (simp [*]; done)), H', ⟨by have := HJ8.out; have := HJ12.out; first | omega | exact Nat.le_refl _⟩, ⟨by repeat (first | (with_reducible first | exact HB.out | apply below_alloc | apply pw_below_drewN | apply below_drew1) | exact HB.out)⟩⟩
            case rest =>
              clear HC17
              try clear c1
              try clear c2
              try clear p2
              try clear c8
              try clear c9
              try clear c11
              try clear c11b0
              try clear c12
              try clear c12b0
              try clear c12b1
              try clear c14
              try clear c14b0
              try clear c14b1
              try clear c18
              try clear c18b0
              try clear c18b1
              try clear c18b2
              try clear p2
              obtain ⟨kq, x69_16, rfl, HA, HJ16, HB⟩ := hcut
              cases kq with
              | zero => exact absurd HA.out (by simp [treelinelaw01_IdsOrder.j2])
              | succ kj16 =>
                have H := HA.out
                clear HA
                simp only [treelinelaw01_IdsOrder.j2] at H
                by_cases c19 : x69_16 = true
                · subst c19
                  have H1 : (some false) = some r := by rw [if_pos rfl] at H; exact H
                  clear H
                  have H := H1
                  clear H1
                  obtain rfl := Option.some.inj H
                  go_wp2
                  go_ret
                  exact ⟨by first | rfl | (simp [errW_none, errW_some] <;> rfl) | (simp [*, errW_none, errW_some] <;> rfl), by repeat (first | (with_reducible first | exact HB.out | apply below_alloc | apply pw_below_drewN | apply below_drew1) | exact HB.out)⟩
                · replace c19 := Bool.eq_false_iff.mpr c19
                  subst c19
                  have H1 : ((ids_Split.f t128).bind fun bt130 => ((ids_Port.f ((a0) % 256) (Int.tmod (wrap64 (a4)) 255)).bind fun t132 => ((ids_Port.f ((a1) % 256) (Int.tmod (wrap64 (a5)) 255)).bind fun t133 => (if bt130.1 = a0 then (if bt130.2 = (Int.tmod a2 281474976710656) then (if ((a0) % 256) < ((a1) % 256) then (some ((decide (t132 < t133)) == true)) else (if ((a0) % 256) = ((a1) % 256) then (some ((decide (t132 < t133)) == (decide ((Int.tmod (wrap64 (a4)) 255) < (Int.tmod (wrap64 (a5)) 255))))) else (some ((decide (t132 < t133)) == false)))) else (some false)) else (some false))))) = some r := by rw [if_neg (show ¬ (false = true) by decide)] at H; exact H
                  clear H
                  have H := H1
                  clear H1
                  replace H := Option.bind_eq_some_iff.mp H
                  obtain ⟨⟨t130, t131⟩, A200, H⟩ := H
                  replace H : ((ids_Port.f ((a0) % 256) (Int.tmod (wrap64 (a4)) 255)).bind fun t132 => ((ids_Port.f ((a1) % 256) (Int.tmod (wrap64 (a5)) 255)).bind fun t133 => (if t130 = a0 then (if t131 = (Int.tmod a2 281474976710656) then (if ((a0) % 256) < ((a1) % 256) then (some ((decide (t132 < t133)) == true)) else (if ((a0) % 256) = ((a1) % 256) then (some ((decide (t132 < t133)) == (decide ((Int.tmod (wrap64 (a4)) 255) < (Int.tmod (wrap64 (a5)) 255))))) else (some ((decide (t132 < t133)) == false)))) else (some false)) else (some false)))) = some r := H
                  have A20 := Aside0.mk A200
                  clear A200
                  replace H := Option.bind_eq_some_iff.mp H
                  obtain ⟨t132, A210, H⟩ := H
                  replace H : ((ids_Port.f ((a1) % 256) (Int.tmod (wrap64 (a5)) 255)).bind fun t133 => (if t130 = a0 then (if t131 = (Int.tmod a2 281474976710656) then (if ((a0) % 256) < ((a1) % 256) then (some ((decide (t132 < t133)) == true)) else (if ((a0) % 256) = ((a1) % 256) then (some ((decide (t132 < t133)) == (decide ((Int.tmod (wrap64 (a4)) 255) < (Int.tmod (wrap64 (a5)) 255))))) else (some ((decide (t132 < t133)) == false)))) else (some false)) else (some false))) = some r := H
                  have A21 := Aside0.mk A210
                  clear A210
                  replace H := Option.bind_eq_some_iff.mp H
                  obtain ⟨t133, A220, H⟩ := H
                  replace H : (if t130 = a0 then (if t131 = (Int.tmod a2 281474976710656) then (if ((a0) % 256) < ((a1) % 256) then (some ((decide (t132 < t133)) == true)) else (if ((a0) % 256) = ((a1) % 256) then (some ((decide (t132 < t133)) == (decide ((Int.tmod (wrap64 (a4)) 255) < (Int.tmod (wrap64 (a5)) 255))))) else (some ((decide (t132 < t133)) == false)))) else (some false)) else (some false)) = some r := H
                  have A22 := Aside0.mk A220
                  clear A220
                  by_cases c23 : t130 = a0
                  · rw [if_pos c23] at H
                    have c23b0 : (t130 == a0) = true := beq_iff_eq.mpr c23
                    have c23b1 : (t130 != a0) = false := bne_eq_false_iff_eq.mpr c23
                    clear c23
                    by_cases c24 : t131 = (Int.tmod a2 281474976710656)
                    · rw [if_pos c24] at H
                      have c24b0 : (t131 == (Int.tmod a2 281474976710656)) = true := beq_iff_eq.mpr c24
                      have c24b1 : (t131 != (Int.tmod a2 281474976710656)) = false := bne_eq_false_iff_eq.mpr c24
                      clear c24
                      by_cases c25 : ((a0) % 256) < ((a1) % 256)
                      · rw [if_pos c25] at H
                        have c25b0 : decide (((a0) % 256) < ((a1) % 256)) = true := decide_eq_true c25
                        clear c25
                        obtain rfl := Option.some.inj H
                        go_wp2_with (first | ((with_reducible refine gate_callee (f := 29) rfl ?_); refine goesL_ (some 72) rfl rfl Try.func29 (by kernel_rfl) rfl #[.int .u64 t128] rfl (by (try simp only [List.map_toArray, List.map_cons, List.map_nil]); first | done | rfl | (simp only [List.length_drop, List.length_take]; rfl)) ?_; (with_reducible refine (ids_Split.calls t128 t130 t131 _ A20.out).mono ?_); rintro e w' ⟨rfl, ⟨nd, rfl⟩⟩; refine ⟨_, rfl, ?_⟩) | ((with_reducible refine gate_callee (f := 30) rfl ?_); refine goesL_ (some 84) rfl rfl Try.func30 (by kernel_rfl) rfl #[.int .u8 ((a0) % 256), .int .i64 (Int.tmod (wrap64 (a4)) 255)] rfl (by (try simp only [List.map_toArray, List.map_cons, List.map_nil]); first | done | rfl | (simp only [List.length_drop, List.length_take]; rfl)) ?_; (with_reducible refine (ids_Port.calls ((a0) % 256) (Int.tmod (wrap64 (a4)) 255) t132 _ A21.out).mono ?_); rintro e w' ⟨rfl, ⟨nd, rfl⟩⟩; refine ⟨_, rfl, ?_⟩) | ((with_reducible refine gate_callee (f := 30) rfl ?_); refine goesL_ (some 88) rfl rfl Try.func30 (by kernel_rfl) rfl #[.int .u8 ((a1) % 256), .int .i64 (Int.tmod (wrap64 (a5)) 255)] rfl (by (try simp only [List.map_toArray, List.map_cons, List.map_nil]); first | done | rfl | (simp only [List.length_drop, List.length_take]; rfl)) ?_; (with_reducible refine (ids_Port.calls ((a1) % 256) (Int.tmod (wrap64 (a5)) 255) t133 _ A22.out).mono ?_); rintro e w' ⟨rfl, ⟨nd, rfl⟩⟩; refine ⟨_, rfl, ?_⟩))
                        go_ret
                        exact ⟨by first | rfl | (simp [errW_none, errW_some] <;> rfl) | (simp [*, errW_none, errW_some] <;> rfl), by repeat (first | (with_reducible first | exact HB.out | apply below_alloc | apply pw_below_drewN | apply below_drew1) | exact HB.out)⟩
                      · rw [if_neg c25] at H
                        have c25b0 : decide (((a0) % 256) < ((a1) % 256)) = false := decide_eq_false c25
                        clear c25
                        by_cases c26 : ((a0) % 256) = ((a1) % 256)
                        · rw [if_pos c26] at H
                          have c26b0 : (((a0) % 256) == ((a1) % 256)) = true := beq_iff_eq.mpr c26
                          have c26b1 : (((a0) % 256) != ((a1) % 256)) = false := bne_eq_false_iff_eq.mpr c26
                          clear c26
                          obtain rfl := Option.some.inj H
                          go_wp2_with (first | ((with_reducible refine gate_callee (f := 29) rfl ?_); refine goesL_ (some 72) rfl rfl Try.func29 (by kernel_rfl) rfl #[.int .u64 t128] rfl (by (try simp only [List.map_toArray, List.map_cons, List.map_nil]); first | done | rfl | (simp only [List.length_drop, List.length_take]; rfl)) ?_; (with_reducible refine (ids_Split.calls t128 t130 t131 _ A20.out).mono ?_); rintro e w' ⟨rfl, ⟨nd, rfl⟩⟩; refine ⟨_, rfl, ?_⟩) | ((with_reducible refine gate_callee (f := 30) rfl ?_); refine goesL_ (some 84) rfl rfl Try.func30 (by kernel_rfl) rfl #[.int .u8 ((a0) % 256), .int .i64 (Int.tmod (wrap64 (a4)) 255)] rfl (by (try simp only [List.map_toArray, List.map_cons, List.map_nil]); first | done | rfl | (simp only [List.length_drop, List.length_take]; rfl)) ?_; (with_reducible refine (ids_Port.calls ((a0) % 256) (Int.tmod (wrap64 (a4)) 255) t132 _ A21.out).mono ?_); rintro e w' ⟨rfl, ⟨nd, rfl⟩⟩; refine ⟨_, rfl, ?_⟩) | ((with_reducible refine gate_callee (f := 30) rfl ?_); refine goesL_ (some 88) rfl rfl Try.func30 (by kernel_rfl) rfl #[.int .u8 ((a1) % 256), .int .i64 (Int.tmod (wrap64 (a5)) 255)] rfl (by (try simp only [List.map_toArray, List.map_cons, List.map_nil]); first | done | rfl | (simp only [List.length_drop, List.length_take]; rfl)) ?_; (with_reducible refine (ids_Port.calls ((a1) % 256) (Int.tmod (wrap64 (a5)) 255) t133 _ A22.out).mono ?_); rintro e w' ⟨rfl, ⟨nd, rfl⟩⟩; refine ⟨_, rfl, ?_⟩))
                          go_ret
                          exact ⟨by first | rfl | (simp [errW_none, errW_some] <;> rfl) | (simp [*, errW_none, errW_some] <;> rfl), by repeat (first | (with_reducible first | exact HB.out | apply below_alloc | apply pw_below_drewN | apply below_drew1) | exact HB.out)⟩
                        · rw [if_neg c26] at H
                          have c26b0 : (((a0) % 256) == ((a1) % 256)) = false := beq_eq_false_iff_ne.mpr c26
                          have c26b1 : (((a0) % 256) != ((a1) % 256)) = true := bne_iff_ne.mpr c26
                          obtain rfl := Option.some.inj H
                          go_wp2_with (first | ((with_reducible refine gate_callee (f := 29) rfl ?_); refine goesL_ (some 72) rfl rfl Try.func29 (by kernel_rfl) rfl #[.int .u64 t128] rfl (by (try simp only [List.map_toArray, List.map_cons, List.map_nil]); first | done | rfl | (simp only [List.length_drop, List.length_take]; rfl)) ?_; (with_reducible refine (ids_Split.calls t128 t130 t131 _ A20.out).mono ?_); rintro e w' ⟨rfl, ⟨nd, rfl⟩⟩; refine ⟨_, rfl, ?_⟩) | ((with_reducible refine gate_callee (f := 30) rfl ?_); refine goesL_ (some 84) rfl rfl Try.func30 (by kernel_rfl) rfl #[.int .u8 ((a0) % 256), .int .i64 (Int.tmod (wrap64 (a4)) 255)] rfl (by (try simp only [List.map_toArray, List.map_cons, List.map_nil]); first | done | rfl | (simp only [List.length_drop, List.length_take]; rfl)) ?_; (with_reducible refine (ids_Port.calls ((a0) % 256) (Int.tmod (wrap64 (a4)) 255) t132 _ A21.out).mono ?_); rintro e w' ⟨rfl, ⟨nd, rfl⟩⟩; refine ⟨_, rfl, ?_⟩) | ((with_reducible refine gate_callee (f := 30) rfl ?_); refine goesL_ (some 88) rfl rfl Try.func30 (by kernel_rfl) rfl #[.int .u8 ((a1) % 256), .int .i64 (Int.tmod (wrap64 (a5)) 255)] rfl (by (try simp only [List.map_toArray, List.map_cons, List.map_nil]); first | done | rfl | (simp only [List.length_drop, List.length_take]; rfl)) ?_; (with_reducible refine (ids_Port.calls ((a1) % 256) (Int.tmod (wrap64 (a5)) 255) t133 _ A22.out).mono ?_); rintro e w' ⟨rfl, ⟨nd, rfl⟩⟩; refine ⟨_, rfl, ?_⟩))
                          go_ret
                          exact ⟨by first | rfl | (simp [errW_none, errW_some] <;> rfl) | (simp [*, errW_none, errW_some] <;> rfl), by repeat (first | (with_reducible first | exact HB.out | apply below_alloc | apply pw_below_drewN | apply below_drew1) | exact HB.out)⟩
                    · rw [if_neg c24] at H
                      have c24b0 : (t131 == (Int.tmod a2 281474976710656)) = false := beq_eq_false_iff_ne.mpr c24
                      have c24b1 : (t131 != (Int.tmod a2 281474976710656)) = true := bne_iff_ne.mpr c24
                      obtain rfl := Option.some.inj H
                      go_wp2_with (first | ((with_reducible refine gate_callee (f := 29) rfl ?_); refine goesL_ (some 72) rfl rfl Try.func29 (by kernel_rfl) rfl #[.int .u64 t128] rfl (by (try simp only [List.map_toArray, List.map_cons, List.map_nil]); first | done | rfl | (simp only [List.length_drop, List.length_take]; rfl)) ?_; (with_reducible refine (ids_Split.calls t128 t130 t131 _ A20.out).mono ?_); rintro e w' ⟨rfl, ⟨nd, rfl⟩⟩; refine ⟨_, rfl, ?_⟩) | ((with_reducible refine gate_callee (f := 30) rfl ?_); refine goesL_ (some 84) rfl rfl Try.func30 (by kernel_rfl) rfl #[.int .u8 ((a0) % 256), .int .i64 (Int.tmod (wrap64 (a4)) 255)] rfl (by (try simp only [List.map_toArray, List.map_cons, List.map_nil]); first | done | rfl | (simp only [List.length_drop, List.length_take]; rfl)) ?_; (with_reducible refine (ids_Port.calls ((a0) % 256) (Int.tmod (wrap64 (a4)) 255) t132 _ A21.out).mono ?_); rintro e w' ⟨rfl, ⟨nd, rfl⟩⟩; refine ⟨_, rfl, ?_⟩) | ((with_reducible refine gate_callee (f := 30) rfl ?_); refine goesL_ (some 88) rfl rfl Try.func30 (by kernel_rfl) rfl #[.int .u8 ((a1) % 256), .int .i64 (Int.tmod (wrap64 (a5)) 255)] rfl (by (try simp only [List.map_toArray, List.map_cons, List.map_nil]); first | done | rfl | (simp only [List.length_drop, List.length_take]; rfl)) ?_; (with_reducible refine (ids_Port.calls ((a1) % 256) (Int.tmod (wrap64 (a5)) 255) t133 _ A22.out).mono ?_); rintro e w' ⟨rfl, ⟨nd, rfl⟩⟩; refine ⟨_, rfl, ?_⟩))
                      go_ret
                      exact ⟨by first | rfl | (simp [errW_none, errW_some] <;> rfl) | (simp [*, errW_none, errW_some] <;> rfl), by repeat (first | (with_reducible first | exact HB.out | apply below_alloc | apply pw_below_drewN | apply below_drew1) | exact HB.out)⟩
                  · rw [if_neg c23] at H
                    have c23b0 : (t130 == a0) = false := beq_eq_false_iff_ne.mpr c23
                    have c23b1 : (t130 != a0) = true := bne_iff_ne.mpr c23
                    obtain rfl := Option.some.inj H
                    go_wp2_with (first | ((with_reducible refine gate_callee (f := 29) rfl ?_); refine goesL_ (some 72) rfl rfl Try.func29 (by kernel_rfl) rfl #[.int .u64 t128] rfl (by (try simp only [List.map_toArray, List.map_cons, List.map_nil]); first | done | rfl | (simp only [List.length_drop, List.length_take]; rfl)) ?_; (with_reducible refine (ids_Split.calls t128 t130 t131 _ A20.out).mono ?_); rintro e w' ⟨rfl, ⟨nd, rfl⟩⟩; refine ⟨_, rfl, ?_⟩) | ((with_reducible refine gate_callee (f := 30) rfl ?_); refine goesL_ (some 84) rfl rfl Try.func30 (by kernel_rfl) rfl #[.int .u8 ((a0) % 256), .int .i64 (Int.tmod (wrap64 (a4)) 255)] rfl (by (try simp only [List.map_toArray, List.map_cons, List.map_nil]); first | done | rfl | (simp only [List.length_drop, List.length_take]; rfl)) ?_; (with_reducible refine (ids_Port.calls ((a0) % 256) (Int.tmod (wrap64 (a4)) 255) t132 _ A21.out).mono ?_); rintro e w' ⟨rfl, ⟨nd, rfl⟩⟩; refine ⟨_, rfl, ?_⟩) | ((with_reducible refine gate_callee (f := 30) rfl ?_); refine goesL_ (some 88) rfl rfl Try.func30 (by kernel_rfl) rfl #[.int .u8 ((a1) % 256), .int .i64 (Int.tmod (wrap64 (a5)) 255)] rfl (by (try simp only [List.map_toArray, List.map_cons, List.map_nil]); first | done | rfl | (simp only [List.length_drop, List.length_take]; rfl)) ?_; (with_reducible refine (ids_Port.calls ((a1) % 256) (Int.tmod (wrap64 (a5)) 255) t133 _ A22.out).mono ?_); rintro e w' ⟨rfl, ⟨nd, rfl⟩⟩; refine ⟨_, rfl, ?_⟩))
                    go_ret
                    exact ⟨by first | rfl | (simp [errW_none, errW_some] <;> rfl) | (simp [*, errW_none, errW_some] <;> rfl), by repeat (first | (with_reducible first | exact HB.out | apply below_alloc | apply pw_below_drewN | apply below_drew1) | exact HB.out)⟩
  · replace c8 := Bool.eq_false_iff.mpr c8
    subst c8
    have H1 : (some false) = some r := by rw [if_neg (show ¬ (false = true) by decide)] at H; exact H
    clear H
    have H := H1
    clear H1
    obtain rfl := Option.some.inj H
    go_enter Try.func9, Try.ntmps9
    go_wp2_with (first | ((with_reducible refine gate_callee (f := 25) rfl ?_); refine goesL_ (some 25) rfl rfl Try.func25 (by kernel_rfl) rfl #[] rfl (by (try simp only [List.map_toArray, List.map_cons, List.map_nil]); first | done | rfl | (simp only [List.length_drop, List.length_take]; rfl)) ?_; (with_reducible refine (treelinelaw01_awake.calls k  false _ A7.out).mono ?_); rintro e w27 ⟨rfl, hb⟩; refine ⟨_, rfl, ?_⟩; have n0_ := Aside0.mk (below_step (by repeat (first | (with_reducible first | exact HB.out | apply below_alloc | apply pw_below_drewN | apply below_drew1) | exact HB.out)) hb); clear HB; have HB := n0_; clear n0_; (try clear hb); (try clear hb2); (try clear hk); (try clear hi)))
    go_ret
    exact ⟨by first | rfl | (simp [errW_none, errW_some] <;> rfl) | (simp [*, errW_none, errW_some] <;> rfl), by repeat (first | (with_reducible first | exact HB.out | apply below_alloc | apply pw_below_drewN | apply below_drew1) | exact HB.out)⟩

/-- THE ONE PURE STATEMENT of treelinelaw01_IdsOrder: yours. -/
def treelinelaw01_IdsOrder.Pure : Prop := ∀ (a0 : Int) (a1 : Int) (a2 : Int) (a3 : Int) (a4 : Int) (a5 : Int), (Lit.int .u16 a0).wf = true → (Lit.int .u16 a1).wf = true → (Lit.int .u64 a2).wf = true → (Lit.int .u64 a3).wf = true → (Lit.int .u8 a4).wf = true → (Lit.int .u8 a5).wf = true → ∃ k, treelinelaw01_IdsOrder.f k a0 a1 a2 a3 a4 a5 = some true
theorem treelinelaw01_IdsOrder.walk (P : treelinelaw01_IdsOrder.Pure) (a0 : Int) (a1 : Int) (a2 : Int) (a3 : Int) (a4 : Int) (a5 : Int) (w : World) (w0 : (Lit.int .u16 a0).wf = true) (w1 : (Lit.int .u16 a1).wf = true) (w2 : (Lit.int .u64 a2).wf = true) (w3 : (Lit.int .u64 a3).wf = true) (w4 : (Lit.int .u8 a4).wf = true) (w5 : (Lit.int .u8 a5).wf = true) :
    Calls Try.prog 9 #[.int .u16 a0, .int .u16 a1, .int .u64 a2, .int .u64 a3, .int .u8 a4, .int .u8 a5] w fun e w' => e = .returned (.bool true) ∧ Below w.heap.size w w' := by
  obtain ⟨k, h⟩ := P a0 a1 a2 a3 a4 a5 w0 w1 w2 w3 w4 w5
  refine (treelinelaw01_IdsOrder.calls k a0 a1 a2 a3 a4 a5 true w h).mono ?_
  rintro e w' ⟨rfl, hd⟩
  exact ⟨rfl, hd⟩

end Go.Proofs.Ytahhlbbgjjhncaa.PIdsOrder
