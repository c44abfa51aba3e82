/- What Go functions that the law HashNext uses come to, and why: part 1. Made out of the kit's print by a program of this session (wip/tools/mend.py), with more rows. -/
import Derived.Test.YtfdjlempllmelaaPHashNextx0
namespace Go.Proofs.Ytfdjlempllmelaa.PHashNext
open Go.RowKit Go.Proofs.YtfdjlempllmelaaW.PrintWords Go.Proofs.YtfdjlempllmelaaW.PrintLast Go.Proofs.YtfdjlempllmelaaW.PrintMore
attribute [local go_sem] max2_int min2_int max_two min_two max_three min_three max_four min_four   -- for this text's walks alone
set_option linter.unusedVariables false
set_option linter.unusedSimpArgs false

/-! ### hash_Way: function 17 -/
def hash_Way.f (a0 : Int) (a1 : Int) (a2 : Int) : Option (Int) := if a2 < 1 then (some 0) else (if a2 = 0 then (none) else (some (Int.tmod (wrap64 ((Int.tmod (wrap64 (a1 - a0)) a2) + a2)) a2)))
set_option maxHeartbeats 8000000 in
set_option maxRecDepth 100000 in
theorem hash_Way.calls (a0 : Int) (a1 : Int) (a2 : Int) (r : Int) (w : World) (h : hash_Way.f a0 a1 a2 = some r) :
    Calls Try.prog 17 #[.int .i64 a0, .int .i64 a1, .int .i64 a2] w fun e w' => e = .returned (.int .i64 r) ∧ Drawn0 w w' := by
  have H : (if a2 < 1 then (some 0) else (if a2 = 0 then (none) else (some (Int.tmod (wrap64 ((Int.tmod (wrap64 (a1 - a0)) a2) + a2)) a2)))) = some r := h
  clear h
  by_cases c4 : a2 < 1
  · rw [if_pos c4] at H
    have c4b0 : decide (a2 < 1) = true := decide_eq_true c4
    clear c4
    obtain rfl := Option.some.inj H
    go_enter Try.func17, Try.ntmps17
    go_wp2
    go_ret
    exact ⟨by first | rfl | (simp; done) | (simp [*]; done), by repeat (first | exact Drawn0.refl _ | apply Drawn0.step)⟩
  · rw [if_neg c4] at H
    have c4b0 : decide (a2 < 1) = false := decide_eq_false c4
    clear c4
    by_cases c5 : a2 = 0
    · rw [if_pos c5] at H
      exact absurd H (by simp)
    · rw [if_neg c5] at H
      have c5b0 : (a2 == 0) = false := beq_eq_false_iff_ne.mpr c5
      have c5b1 : (a2 != 0) = true := bne_iff_ne.mpr c5
      obtain rfl := Option.some.inj H
      go_enter Try.func17, Try.ntmps17
      go_wp2
      go_ret
      exact ⟨by first | rfl | (simp; done) | (simp [*]; done), by repeat (first | exact Drawn0.refl _ | apply Drawn0.step)⟩

/-! ### hash_Next: function 18 -/
def hash_Next.f (a0 : Int) (a1 : Int) : Option (Int) := if a1 < 1 then (some 0) else (if a0 < 0 then (some 0) else (if a0 ≥ (wrap64 (a1 - 1)) then (some 0) else (some (wrap64 (a0 + 1)))))
set_option maxHeartbeats 8000000 in
set_option maxRecDepth 100000 in
theorem hash_Next.calls (a0 : Int) (a1 : Int) (r : Int) (w : World) (h : hash_Next.f a0 a1 = some r) :
    Calls Try.prog 18 #[.int .i64 a0, .int .i64 a1] w fun e w' => e = .returned (.int .i64 r) ∧ Drawn0 w w' := by
  have H : (if a1 < 1 then (some 0) else (if a0 < 0 then (some 0) else (if a0 ≥ (wrap64 (a1 - 1)) then (some 0) else (some (wrap64 (a0 + 1)))))) = some r := h
  clear h
  by_cases c3 : a1 < 1
  · rw [if_pos c3] at H
    have c3b0 : decide (a1 < 1) = true := decide_eq_true c3
    clear c3
    obtain rfl := Option.some.inj H
    go_enter Try.func18, Try.ntmps18
    go_wp2
    go_ret
    exact ⟨by first | rfl | (simp; done) | (simp [*]; done), by repeat (first | exact Drawn0.refl _ | apply Drawn0.step)⟩
  · rw [if_neg c3] at H
    have c3b0 : decide (a1 < 1) = false := decide_eq_false c3
    clear c3
    by_cases c4 : a0 < 0
    · rw [if_pos c4] at H
      have c4b0 : decide (a0 < 0) = true := decide_eq_true c4
      clear c4
      obtain rfl := Option.some.inj H
      go_enter Try.func18, Try.ntmps18
      go_wp2
      go_ret
      exact ⟨by first | rfl | (simp; done) | (simp [*]; done), by repeat (first | exact Drawn0.refl _ | apply Drawn0.step)⟩
    · rw [if_neg c4] at H
      have c4b0 : decide (a0 < 0) = false := decide_eq_false c4
      clear c4
      by_cases c5 : a0 ≥ (wrap64 (a1 - 1))
      · rw [if_pos c5] at H
        have c5b0 : decide ((wrap64 (a1 - 1)) ≤ a0) = true := decide_eq_true c5
        clear c5
        obtain rfl := Option.some.inj H
        go_enter Try.func18, Try.ntmps18
        go_wp2
        go_ret
        exact ⟨by first | rfl | (simp; done) | (simp [*]; done), by repeat (first | exact Drawn0.refl _ | apply Drawn0.step)⟩
      · rw [if_neg c5] at H
        have c5b0 : decide ((wrap64 (a1 - 1)) ≤ a0) = false := decide_eq_false c5
        clear c5
        obtain rfl := Option.some.inj H
        go_enter Try.func18, Try.ntmps18
        go_wp2
        go_ret
        exact ⟨by first | rfl | (simp; done) | (simp [*]; done), by repeat (first | exact Drawn0.refl _ | apply Drawn0.step)⟩

/-! ### treelinelaw06_awake: function 15 -/
def treelinelaw06_awake.f  : Option (Bool) := (hash_Next.f 3 4).bind fun t101 => (if t101 = 0 then ((hash_Way.f 3 1 4).bind fun t102 => (if t102 = 2 then ((hash_Next.f 1 4).bind fun t103 => (some (t103 == 2))) else (some false))) else (some false))
set_option maxHeartbeats 8000000 in
set_option maxRecDepth 100000 in
theorem treelinelaw06_awake.calls  (r : Bool) (w : World) (h : treelinelaw06_awake.f  = some r) :
    Calls Try.prog 15 #[] w fun e w' => e = .returned (.bool r) ∧ Drawn0 w w' := by
  have H : ((hash_Next.f 3 4).bind fun t101 => (if t101 = 0 then ((hash_Way.f 3 1 4).bind fun t102 => (if t102 = 2 then ((hash_Next.f 1 4).bind fun t103 => (some (t103 == 2))) else (some false))) else (some false))) = some r := h
  clear h
  replace H := Option.bind_eq_some_iff.mp H
  obtain ⟨t101, A10, H⟩ := H
  replace H : (if t101 = 0 then ((hash_Way.f 3 1 4).bind fun t102 => (if t102 = 2 then ((hash_Next.f 1 4).bind fun t103 => (some (t103 == 2))) else (some false))) else (some false)) = some r := H
  have A1 := Aside0.mk A10
  clear A10
  by_cases c2 : t101 = 0
  · rw [if_pos c2] at H
    have c2b0 : (t101 == 0) = true := beq_iff_eq.mpr c2
    have c2b1 : (t101 != 0) = false := bne_eq_false_iff_eq.mpr c2
    clear c2
    replace H := Option.bind_eq_some_iff.mp H
    obtain ⟨t102, A30, H⟩ := H
    replace H : (if t102 = 2 then ((hash_Next.f 1 4).bind fun t103 => (some (t103 == 2))) else (some false)) = some r := H
    have A3 := Aside0.mk A30
    clear A30
    by_cases c4 : t102 = 2
    · rw [if_pos c4] at H
      have c4b0 : (t102 == 2) = true := beq_iff_eq.mpr c4
      have c4b1 : (t102 != 2) = false := bne_eq_false_iff_eq.mpr c4
      clear c4
      replace H := Option.bind_eq_some_iff.mp H
      obtain ⟨t103, A50, H⟩ := H
      replace H : (some (t103 == 2)) = some r := H
      have A5 := Aside0.mk A50
      clear A50
      obtain rfl := Option.some.inj H
      go_enter Try.func15, Try.ntmps15
      go_wp2_with (first | ((with_reducible refine gate_callee (f := 18) rfl ?_); refine goesL_ (some 1) rfl rfl Try.func18 (by kernel_rfl) rfl #[.int .i64 3, .int .i64 4] rfl (by (try simp only [List.map_toArray, List.map_cons, List.map_nil]); first | done | rfl | (simp only [List.length_drop, List.length_take]; rfl)) ?_; (with_reducible refine (hash_Next.calls 3 4 t101 _ A1.out).mono ?_); rintro e w' ⟨rfl, ⟨nd, rfl⟩⟩; refine ⟨_, rfl, ?_⟩) | (go_at_call 17; (with_reducible refine (hash_Way.calls 3 1 4 t102 _ A3.out).mono ?_); rintro e w' ⟨rfl, ⟨nd, rfl⟩⟩) | (go_at_call 18; (with_reducible refine (hash_Next.calls 1 4 t103 _ A5.out).mono ?_); rintro e w' ⟨rfl, ⟨nd, rfl⟩⟩) | (go_at_call 18; (with_reducible refine (hash_Next.calls 3 4 t101 _ A1.out).mono ?_); rintro e w' ⟨rfl, ⟨nd, rfl⟩⟩))
      go_ret
      exact ⟨by first | rfl | (simp; done) | (simp [*]; done), by repeat (first | exact Drawn0.refl _ | apply Drawn0.step)⟩
    · rw [if_neg c4] at H
      have c4b0 : (t102 == 2) = false := beq_eq_false_iff_ne.mpr c4
      have c4b1 : (t102 != 2) = true := bne_iff_ne.mpr c4
      obtain rfl := Option.some.inj H
      go_enter Try.func15, Try.ntmps15
      go_wp2_with (first | ((with_reducible refine gate_callee (f := 18) rfl ?_); refine goesL_ (some 1) rfl rfl Try.func18 (by kernel_rfl) rfl #[.int .i64 3, .int .i64 4] rfl (by (try simp only [List.map_toArray, List.map_cons, List.map_nil]); first | done | rfl | (simp only [List.length_drop, List.length_take]; rfl)) ?_; (with_reducible refine (hash_Next.calls 3 4 t101 _ A1.out).mono ?_); rintro e w' ⟨rfl, ⟨nd, rfl⟩⟩; refine ⟨_, rfl, ?_⟩) | (go_at_call 17; (with_reducible refine (hash_Way.calls 3 1 4 t102 _ A3.out).mono ?_); rintro e w' ⟨rfl, ⟨nd, rfl⟩⟩) | (go_at_call 18; (with_reducible refine (hash_Next.calls 3 4 t101 _ A1.out).mono ?_); rintro e w' ⟨rfl, ⟨nd, rfl⟩⟩))
      go_ret
      exact ⟨by first | rfl | (simp; done) | (simp [*]; done), by repeat (first | exact Drawn0.refl _ | apply Drawn0.step)⟩
  · rw [if_neg c2] at H
    have c2b0 : (t101 == 0) = false := beq_eq_false_iff_ne.mpr c2
    have c2b1 : (t101 != 0) = true := bne_iff_ne.mpr c2
    obtain rfl := Option.some.inj H
    go_enter Try.func15, Try.ntmps15
    go_wp2_with (first | ((with_reducible refine gate_callee (f := 18) rfl ?_); refine goesL_ (some 1) rfl rfl Try.func18 (by kernel_rfl) rfl #[.int .i64 3, .int .i64 4] rfl (by (try simp only [List.map_toArray, List.map_cons, List.map_nil]); first | done | rfl | (simp only [List.length_drop, List.length_take]; rfl)) ?_; (with_reducible refine (hash_Next.calls 3 4 t101 _ A1.out).mono ?_); rintro e w' ⟨rfl, ⟨nd, rfl⟩⟩; refine ⟨_, rfl, ?_⟩) | (go_at_call 18; (with_reducible refine (hash_Next.calls 3 4 t101 _ A1.out).mono ?_); rintro e w' ⟨rfl, ⟨nd, rfl⟩⟩))
    go_ret
    exact ⟨by first | rfl | (simp; done) | (simp [*]; done), by repeat (first | exact Drawn0.refl _ | apply Drawn0.step)⟩

/-! ### treelinelaw06_HashNext: function 5 -/
def treelinelaw06_HashNext.l0 : Nat → Int → Int → Int → Int → Int → Option (Bool)
  | 0, _, _, _, _, _ => none
  | k + 1, x2, x7, x8, x9, x10 => if x10 < (wrap64 (x2)) then ((hash_Way.f x8 x9 x7).bind fun t106 => (if x7 = 0 then (none) else (if t106 = (Int.tmod x10 x7) then ((hash_Next.f x9 x7).bind fun t107 => (treelinelaw06_HashNext.l0 k x2 x7 x8 t107 (wrap64 (x10 + 1)))) else (some false)))) else ((hash_Way.f x9 x9 x7).bind fun t105 => (some (t105 == 0)))
def treelinelaw06_HashNext.f (k : Nat) (a0 : Int) (a1 : Int) (a2 : Int) : Option (Bool) := (treelinelaw06_awake.f).bind fun t104 => (if t104 = true then (if (wrap64 (1 + (Int.tmod (wrap64 (a1)) 500))) = 0 then (none) else (treelinelaw06_HashNext.l0 k a2 (wrap64 (1 + (Int.tmod (wrap64 (a1)) 500))) (Int.tmod (wrap64 (a0)) (wrap64 (1 + (Int.tmod (wrap64 (a1)) 500)))) (Int.tmod (wrap64 (a0)) (wrap64 (1 + (Int.tmod (wrap64 (a1)) 500)))) 0)) else (some false))
theorem treelinelaw06_HashNext.mono_l : ∀ k, (∀ y0 y1 y2 y3 y4, LeO (treelinelaw06_HashNext.l0 k y0 y1 y2 y3 y4) (treelinelaw06_HashNext.l0 (k + 1) y0 y1 y2 y3 y4))
  | 0 => fun _ _ _ _ _ r h => by simp [treelinelaw06_HashNext.l0] at h
  | k + 1 => by
    have ih0 := treelinelaw06_HashNext.mono_l k
    · intro y0 y1 y2 y3 y4
      unfold treelinelaw06_HashNext.l0
      repeat' first
      | (with_reducible exact ih0 _ _ _ _ _)
      | (with_reducible exact LeO.refl _)
      | (with_reducible exact LeO.none _)
      | (with_reducible refine LeO.ite ?_ ?_)
      | (with_reducible refine LeO.bind ?_ (fun _ => ?_))
      | exact ih0 _ _ _ _ _
      | exact LeO.none _
      | refine LeO.ite ?_ ?_
      | refine LeO.bind ?_ (fun _ => ?_)
theorem treelinelaw06_HashNext.mono : ∀ a0 a1 a2 k, LeO (treelinelaw06_HashNext.f k a0 a1 a2) (treelinelaw06_HashNext.f (k + 1) a0 a1 a2) := by
  intro a0 a1 a2 k
  have ih0 := treelinelaw06_HashNext.mono_l k
  unfold treelinelaw06_HashNext.f
  repeat' first
      | (with_reducible exact ih0 _ _ _ _ _)
      | (with_reducible exact LeO.refl _)
      | (with_reducible exact LeO.none _)
      | (with_reducible refine LeO.ite ?_ ?_)
      | (with_reducible refine LeO.bind ?_ (fun _ => ?_))
      | exact ih0 _ _ _ _ _
      | exact LeO.none _
      | refine LeO.ite ?_ ?_
      | refine LeO.bind ?_ (fun _ => ?_)
set_option maxHeartbeats 8000000 in
set_option maxRecDepth 100000 in
theorem treelinelaw06_HashNext.calls (k : Nat) (a0 : Int) (a1 : Int) (a2 : Int) (r : Bool) (w : World) (h : treelinelaw06_HashNext.f k a0 a1 a2 = some r) (LRT : Aside0 (r = true)) :
    Calls Try.prog 5 #[.int .u16 a0, .int .u16 a1, .int .u8 a2] w fun e w' => e = .returned (.bool r) ∧ Drawn0 w w' := by
  have H : ((treelinelaw06_awake.f).bind fun t104 => (if t104 = true then (if (wrap64 (1 + (Int.tmod (wrap64 (a1)) 500))) = 0 then (none) else (treelinelaw06_HashNext.l0 k a2 (wrap64 (1 + (Int.tmod (wrap64 (a1)) 500))) (Int.tmod (wrap64 (a0)) (wrap64 (1 + (Int.tmod (wrap64 (a1)) 500)))) (Int.tmod (wrap64 (a0)) (wrap64 (1 + (Int.tmod (wrap64 (a1)) 500)))) 0)) else (some false))) = some r := h
  clear h
  replace H := Option.bind_eq_some_iff.mp H
  obtain ⟨t104, A40, H⟩ := H
  replace H : (if t104 = true then (if (wrap64 (1 + (Int.tmod (wrap64 (a1)) 500))) = 0 then (none) else (treelinelaw06_HashNext.l0 k a2 (wrap64 (1 + (Int.tmod (wrap64 (a1)) 500))) (Int.tmod (wrap64 (a0)) (wrap64 (1 + (Int.tmod (wrap64 (a1)) 500)))) (Int.tmod (wrap64 (a0)) (wrap64 (1 + (Int.tmod (wrap64 (a1)) 500)))) 0)) else (some false)) = some r := H
  have A4 := Aside0.mk A40
  clear A40
  by_cases c5 : t104 = true
  · subst c5
    have H1 : (if (wrap64 (1 + (Int.tmod (wrap64 (a1)) 500))) = 0 then (none) else (treelinelaw06_HashNext.l0 k a2 (wrap64 (1 + (Int.tmod (wrap64 (a1)) 500))) (Int.tmod (wrap64 (a0)) (wrap64 (1 + (Int.tmod (wrap64 (a1)) 500)))) (Int.tmod (wrap64 (a0)) (wrap64 (1 + (Int.tmod (wrap64 (a1)) 500)))) 0)) = some r := by rw [if_pos rfl] at H; exact H
    clear H
    have H := H1
    clear H1
    by_cases c6 : (wrap64 (1 + (Int.tmod (wrap64 (a1)) 500))) = 0
    · rw [if_pos c6] at H
      exact absurd H (by simp)
    · rw [if_neg c6] at H
      have c6b0 : ((wrap64 (1 + (Int.tmod (wrap64 (a1)) 500))) == 0) = false := beq_eq_false_iff_ne.mpr c6
      have c6b1 : ((wrap64 (1 + (Int.tmod (wrap64 (a1)) 500))) != 0) = true := bne_iff_ne.mpr c6
      have H' := Aside0.mk H
      clear H
      go_enter Try.func5, Try.ntmps5
      go_wp2_with (first | (go_at_call 15; (with_reducible refine (treelinelaw06_awake.calls  true _ A4.out).mono ?_); rintro e w' ⟨rfl, ⟨nd, rfl⟩⟩; (try first | exact ⟨rfl, _, World.drewN_drewN _ _ _⟩ | exact ⟨rfl, _, Eq.trans (World.drewN_drewN _ _ _) (congrArg (World.drewN _) (Nat.add_assoc _ _ _))⟩)))
      repeat (go_quiet (first | (go_at_call 15; (with_reducible refine (treelinelaw06_awake.calls  true _ A4.out).mono ?_); rintro e w' ⟨rfl, ⟨nd, rfl⟩⟩; (try first | exact ⟨rfl, _, World.drewN_drewN _ _ _⟩ | exact ⟨rfl, _, Eq.trans (World.drewN_drewN _ _ _) (congrArg (World.drewN _) (Nat.add_assoc _ _ _))⟩))); try go_wp2_with (first | (go_at_call 15; (with_reducible refine (treelinelaw06_awake.calls  true _ A4.out).mono ?_); rintro e w' ⟨rfl, ⟨nd, rfl⟩⟩; (try first | exact ⟨rfl, _, World.drewN_drewN _ _ _⟩ | exact ⟨rfl, _, Eq.trans (World.drewN_drewN _ _ _) (congrArg (World.drewN _) (Nat.add_assoc _ _ _))⟩))))
      go_loopg [9, 10] k (fun kq v9 v10 w' => ∃ (x9_1 : Int) (x10_1 : Int), v9 = .int .i64 x9_1 ∧ v10 = .int .i64 x10_1 ∧ Aside0 (treelinelaw06_HashNext.l0 kq a2 (wrap64 (1 + (Int.tmod (wrap64 (a1)) 500))) (Int.tmod (wrap64 (a0)) (wrap64 (1 + (Int.tmod (wrap64 (a1)) 500)))) x9_1 x10_1 = some r) ∧ Aside0 (kq ≤ k) ∧ Drawn0 w w')
      case atStart => exact ⟨(Int.tmod (wrap64 (a0)) (wrap64 (1 + (Int.tmod (wrap64 (a1)) 500)))), (0), (by first | rfl | (simp; done) | (simp [*]; done)), (by first | rfl | (simp; done) | (simp [*]; done)), H', ⟨Nat.le_refl _⟩, by repeat (first | exact Drawn0.refl _ | apply Drawn0.step)⟩
      case round =>
        clear H'
        try clear p2
        try clear c5
        try clear c6
        try clear c6b0
        try clear c6b1
        try clear p6
        obtain ⟨x9_1, x10_1, rfl, rfl, HA, HK1, ⟨m1, rfl⟩⟩ := hrel
        cases gk with
        | zero => exact absurd HA.out (by simp [treelinelaw06_HashNext.l0])
        | succ k1 =>
          have H := HA.out
          clear HA
          simp only [treelinelaw06_HashNext.l0] at H
          by_cases c7 : x10_1 < (wrap64 (a2))
          · rw [if_pos c7] at H
            have c7b0 : decide (x10_1 < (wrap64 (a2))) = true := decide_eq_true c7
            clear c7
            replace H := Option.bind_eq_some_iff.mp H
            obtain ⟨t106, A80, H⟩ := H
            replace H : (if (wrap64 (1 + (Int.tmod (wrap64 (a1)) 500))) = 0 then (none) else (if t106 = (Int.tmod x10_1 (wrap64 (1 + (Int.tmod (wrap64 (a1)) 500)))) then ((hash_Next.f x9_1 (wrap64 (1 + (Int.tmod (wrap64 (a1)) 500)))).bind fun t107 => (treelinelaw06_HashNext.l0 k1 a2 (wrap64 (1 + (Int.tmod (wrap64 (a1)) 500))) (Int.tmod (wrap64 (a0)) (wrap64 (1 + (Int.tmod (wrap64 (a1)) 500)))) t107 (wrap64 (x10_1 + 1)))) else (some false))) = some r := H
            have A8 := Aside0.mk A80
            clear A80
            by_cases c9 : (wrap64 (1 + (Int.tmod (wrap64 (a1)) 500))) = 0
            · rw [if_pos c9] at H
              exact absurd H (by simp)
            · rw [if_neg c9] at H
              have c9b0 : ((wrap64 (1 + (Int.tmod (wrap64 (a1)) 500))) == 0) = false := beq_eq_false_iff_ne.mpr c9
              have c9b1 : ((wrap64 (1 + (Int.tmod (wrap64 (a1)) 500))) != 0) = true := bne_iff_ne.mpr c9
              by_cases c10 : t106 = (Int.tmod x10_1 (wrap64 (1 + (Int.tmod (wrap64 (a1)) 500))))
              · rw [if_pos c10] at H
                have c10b0 : (t106 == (Int.tmod x10_1 (wrap64 (1 + (Int.tmod (wrap64 (a1)) 500))))) = true := beq_iff_eq.mpr c10
                have c10b1 : (t106 != (Int.tmod x10_1 (wrap64 (1 + (Int.tmod (wrap64 (a1)) 500))))) = false := bne_eq_false_iff_eq.mpr c10
                clear c10
                replace H := Option.bind_eq_some_iff.mp H
                obtain ⟨t107, A110, H⟩ := H
                replace H : (treelinelaw06_HashNext.l0 k1 a2 (wrap64 (1 + (Int.tmod (wrap64 (a1)) 500))) (Int.tmod (wrap64 (a0)) (wrap64 (1 + (Int.tmod (wrap64 (a1)) 500)))) t107 (wrap64 (x10_1 + 1))) = some r := H
                have A11 := Aside0.mk A110
                clear A110
                have H' := Aside0.mk H
                clear H
                go_wp2_with (first | (go_at_call 17; (with_reducible refine (hash_Way.calls (Int.tmod (wrap64 (a0)) (wrap64 (1 + (Int.tmod (wrap64 (a1)) 500)))) x9_1 (wrap64 (1 + (Int.tmod (wrap64 (a1)) 500))) t106 _ A8.out).mono ?_); rintro e w' ⟨rfl, ⟨nd, rfl⟩⟩; (try first | exact ⟨rfl, _, World.drewN_drewN _ _ _⟩ | exact ⟨rfl, _, Eq.trans (World.drewN_drewN _ _ _) (congrArg (World.drewN _) (Nat.add_assoc _ _ _))⟩)) | (go_at_call 18; (with_reducible refine (hash_Next.calls x9_1 (wrap64 (1 + (Int.tmod (wrap64 (a1)) 500))) t107 _ A11.out).mono ?_); rintro e w' ⟨rfl, ⟨nd, rfl⟩⟩; (try first | exact ⟨rfl, _, World.drewN_drewN _ _ _⟩ | exact ⟨rfl, _, Eq.trans (World.drewN_drewN _ _ _) (congrArg (World.drewN _) (Nat.add_assoc _ _ _))⟩)))
                repeat (go_quiet (first | (go_at_call 17; (with_reducible refine (hash_Way.calls (Int.tmod (wrap64 (a0)) (wrap64 (1 + (Int.tmod (wrap64 (a1)) 500)))) x9_1 (wrap64 (1 + (Int.tmod (wrap64 (a1)) 500))) t106 _ A8.out).mono ?_); rintro e w' ⟨rfl, ⟨nd, rfl⟩⟩; (try first | exact ⟨rfl, _, World.drewN_drewN _ _ _⟩ | exact ⟨rfl, _, Eq.trans (World.drewN_drewN _ _ _) (congrArg (World.drewN _) (Nat.add_assoc _ _ _))⟩)) | (go_at_call 18; (with_reducible refine (hash_Next.calls x9_1 (wrap64 (1 + (Int.tmod (wrap64 (a1)) 500))) t107 _ A11.out).mono ?_); rintro e w' ⟨rfl, ⟨nd, rfl⟩⟩; (try first | exact ⟨rfl, _, World.drewN_drewN _ _ _⟩ | exact ⟨rfl, _, Eq.trans (World.drewN_drewN _ _ _) (congrArg (World.drewN _) (Nat.add_assoc _ _ _))⟩))); try go_wp2_with (first | (go_at_call 17; (with_reducible refine (hash_Way.calls (Int.tmod (wrap64 (a0)) (wrap64 (1 + (Int.tmod (wrap64 (a1)) 500)))) x9_1 (wrap64 (1 + (Int.tmod (wrap64 (a1)) 500))) t106 _ A8.out).mono ?_); rintro e w' ⟨rfl, ⟨nd, rfl⟩⟩; (try first | exact ⟨rfl, _, World.drewN_drewN _ _ _⟩ | exact ⟨rfl, _, Eq.trans (World.drewN_drewN _ _ _) (congrArg (World.drewN _) (Nat.add_assoc _ _ _))⟩)) | (go_at_call 18; (with_reducible refine (hash_Next.calls x9_1 (wrap64 (1 + (Int.tmod (wrap64 (a1)) 500))) t107 _ A11.out).mono ?_); rintro e w' ⟨rfl, ⟨nd, rfl⟩⟩; (try first | exact ⟨rfl, _, World.drewN_drewN _ _ _⟩ | exact ⟨rfl, _, Eq.trans (World.drewN_drewN _ _ _) (congrArg (World.drewN _) (Nat.add_assoc _ _ _))⟩))))
                go_roundg k1
                case measure => have := HK1.out; omega
                case rel => exact ⟨(t107), (wrap64 (x10_1 + 1)), (by first | rfl | (simp; done) | (simp [*]; done)), (by first | rfl | (simp; done) | (simp [*]; done)), H', ⟨by have := HK1.out; omega⟩, by repeat (first | exact Drawn0.refl _ | apply Drawn0.step)⟩
              · rw [if_neg c10] at H
                have c10b0 : (t106 == (Int.tmod x10_1 (wrap64 (1 + (Int.tmod (wrap64 (a1)) 500))))) = false := beq_eq_false_iff_ne.mpr c10
                have c10b1 : (t106 != (Int.tmod x10_1 (wrap64 (1 + (Int.tmod (wrap64 (a1)) 500))))) = true := bne_iff_ne.mpr c10
                exact absurd ((Option.some.inj H).trans LRT.out) (by decide)
          · rw [if_neg c7] at H
            have c7b0 : decide (x10_1 < (wrap64 (a2))) = false := decide_eq_false c7
            clear c7
            replace H := Option.bind_eq_some_iff.mp H
            obtain ⟨t105, A120, H⟩ := H
            replace H : (some (t105 == 0)) = some r := H
            have A12 := Aside0.mk A120
            clear A120
            obtain rfl := Option.some.inj H
            (try exact absurd LRT.out (by decide))
            all_goals
              go_wp2_with (first | (go_at_call 17; (with_reducible refine (hash_Way.calls x9_1 x9_1 (wrap64 (1 + (Int.tmod (wrap64 (a1)) 500))) t105 _ A12.out).mono ?_); rintro e w' ⟨rfl, ⟨nd, rfl⟩⟩; (try first | exact ⟨rfl, _, World.drewN_drewN _ _ _⟩ | exact ⟨rfl, _, Eq.trans (World.drewN_drewN _ _ _) (congrArg (World.drewN _) (Nat.add_assoc _ _ _))⟩)))
              repeat (go_quiet (first | (go_at_call 17; (with_reducible refine (hash_Way.calls x9_1 x9_1 (wrap64 (1 + (Int.tmod (wrap64 (a1)) 500))) t105 _ A12.out).mono ?_); rintro e w' ⟨rfl, ⟨nd, rfl⟩⟩; (try first | exact ⟨rfl, _, World.drewN_drewN _ _ _⟩ | exact ⟨rfl, _, Eq.trans (World.drewN_drewN _ _ _) (congrArg (World.drewN _) (Nat.add_assoc _ _ _))⟩))); try go_wp2_with (first | (go_at_call 17; (with_reducible refine (hash_Way.calls x9_1 x9_1 (wrap64 (1 + (Int.tmod (wrap64 (a1)) 500))) t105 _ A12.out).mono ?_); rintro e w' ⟨rfl, ⟨nd, rfl⟩⟩; (try first | exact ⟨rfl, _, World.drewN_drewN _ _ _⟩ | exact ⟨rfl, _, Eq.trans (World.drewN_drewN _ _ _) (congrArg (World.drewN _) (Nat.add_assoc _ _ _))⟩))))
              go_ret
              exact ⟨by first | rfl | (simp; done) | (simp [*]; done), by repeat (first | exact Drawn0.refl _ | apply Drawn0.step)⟩
  · replace c5 := Bool.eq_false_iff.mpr c5
    subst c5
    have H1 : (some false) = some r := by rw [if_neg (show ¬ (false = true) by decide)] at H; exact H
    clear H
    have H := H1
    clear H1
    exact absurd ((Option.some.inj H).trans LRT.out) (by decide)
/-- THE ONE PURE STATEMENT of treelinelaw06_HashNext: yours. -/
def treelinelaw06_HashNext.Pure : Prop := ∀ (a0 : Int) (a1 : Int) (a2 : Int), (Lit.int .u16 a0).wf = true → (Lit.int .u16 a1).wf = true → (Lit.int .u8 a2).wf = true → ∃ k, treelinelaw06_HashNext.f k a0 a1 a2 = some true
theorem treelinelaw06_HashNext.walk (P : treelinelaw06_HashNext.Pure) (a0 : Int) (a1 : Int) (a2 : Int) (w : World) (w0 : (Lit.int .u16 a0).wf = true) (w1 : (Lit.int .u16 a1).wf = true) (w2 : (Lit.int .u8 a2).wf = true) :
    Calls Try.prog 5 #[.int .u16 a0, .int .u16 a1, .int .u8 a2] w fun e w' => e = .returned (.bool true) ∧ Below w.heap.size w w' := by
  obtain ⟨k, h⟩ := P a0 a1 a2 w0 w1 w2
  refine (treelinelaw06_HashNext.calls k a0 a1 a2 true w h ⟨rfl⟩).mono ?_
  rintro e w' ⟨rfl, hd⟩
  exact ⟨rfl, hd.below⟩

end Go.Proofs.Ytfdjlempllmelaa.PHashNext
