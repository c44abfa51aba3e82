/- What Go functions that the law HashWays uses come to, and why: part 1. Made out of the kit's print by a program of this session (wip/tools/mend.py), with more rows. -/
import Derived.Test.YtfdjlempllmelaaPHashWaysx0
namespace Go.Proofs.Ytfdjlempllmelaa.PHashWays
open Go.RowKit Go.Proofs.YtfdjlempllmelaaW.PrintWords Go.Proofs.YtfdjlempllmelaaW.PrintLast Go.Proofs.YtfdjlempllmelaaW.PrintMore
attribute [local go_sem] max2_int min2_int max_two min_two max_three min_three max_four min_four   -- for this text's walks alone
set_option linter.unusedVariables false
set_option linter.unusedSimpArgs false

/-! ### hash_Way: function 17 -/
def hash_Way.f (a0 : Int) (a1 : Int) (a2 : Int) : Option (Int) := if a2 < 1 then (some 0) else (if a2 = 0 then (none) else (some (Int.tmod (wrap64 ((Int.tmod (wrap64 (a1 - a0)) a2) + a2)) a2)))
set_option maxHeartbeats 8000000 in
set_option maxRecDepth 100000 in
theorem hash_Way.calls (a0 : Int) (a1 : Int) (a2 : Int) (r : Int) (w : World) (h : hash_Way.f a0 a1 a2 = some r) :
    Calls Try.prog 17 #[.int .i64 a0, .int .i64 a1, .int .i64 a2] w fun e w' => e = .returned (.int .i64 r) ∧ Drawn0 w w' := by
  have H : (if a2 < 1 then (some 0) else (if a2 = 0 then (none) else (some (Int.tmod (wrap64 ((Int.tmod (wrap64 (a1 - a0)) a2) + a2)) a2)))) = some r := h
  clear h
  by_cases c4 : a2 < 1
  · rw [if_pos c4] at H
    have c4b0 : decide (a2 < 1) = true := decide_eq_true c4
    clear c4
    obtain rfl := Option.some.inj H
    go_enter Try.func17, Try.ntmps17
    go_wp2
    go_ret
    exact ⟨by first | rfl | (simp; done) | (simp [*]; done), by repeat (first | exact Drawn0.refl _ | apply Drawn0.step)⟩
  · rw [if_neg c4] at H
    have c4b0 : decide (a2 < 1) = false := decide_eq_false c4
    clear c4
    by_cases c5 : a2 = 0
    · rw [if_pos c5] at H
      exact absurd H (by simp)
    · rw [if_neg c5] at H
      have c5b0 : (a2 == 0) = false := beq_eq_false_iff_ne.mpr c5
      have c5b1 : (a2 != 0) = true := bne_iff_ne.mpr c5
      obtain rfl := Option.some.inj H
      go_enter Try.func17, Try.ntmps17
      go_wp2
      go_ret
      exact ⟨by first | rfl | (simp; done) | (simp [*]; done), by repeat (first | exact Drawn0.refl _ | apply Drawn0.step)⟩

/-! ### hash_Next: function 18 -/
def hash_Next.f (a0 : Int) (a1 : Int) : Option (Int) := if a1 < 1 then (some 0) else (if a0 < 0 then (some 0) else (if a0 ≥ (wrap64 (a1 - 1)) then (some 0) else (some (wrap64 (a0 + 1)))))
set_option maxHeartbeats 8000000 in
set_option maxRecDepth 100000 in
theorem hash_Next.calls (a0 : Int) (a1 : Int) (r : Int) (w : World) (h : hash_Next.f a0 a1 = some r) :
    Calls Try.prog 18 #[.int .i64 a0, .int .i64 a1] w fun e w' => e = .returned (.int .i64 r) ∧ Drawn0 w w' := by
  have H : (if a1 < 1 then (some 0) else (if a0 < 0 then (some 0) else (if a0 ≥ (wrap64 (a1 - 1)) then (some 0) else (some (wrap64 (a0 + 1)))))) = some r := h
  clear h
  by_cases c3 : a1 < 1
  · rw [if_pos c3] at H
    have c3b0 : decide (a1 < 1) = true := decide_eq_true c3
    clear c3
    obtain rfl := Option.some.inj H
    go_enter Try.func18, Try.ntmps18
    go_wp2
    go_ret
    exact ⟨by first | rfl | (simp; done) | (simp [*]; done), by repeat (first | exact Drawn0.refl _ | apply Drawn0.step)⟩
  · rw [if_neg c3] at H
    have c3b0 : decide (a1 < 1) = false := decide_eq_false c3
    clear c3
    by_cases c4 : a0 < 0
    · rw [if_pos c4] at H
      have c4b0 : decide (a0 < 0) = true := decide_eq_true c4
      clear c4
      obtain rfl := Option.some.inj H
      go_enter Try.func18, Try.ntmps18
      go_wp2
      go_ret
      exact ⟨by first | rfl | (simp; done) | (simp [*]; done), by repeat (first | exact Drawn0.refl _ | apply Drawn0.step)⟩
    · rw [if_neg c4] at H
      have c4b0 : decide (a0 < 0) = false := decide_eq_false c4
      clear c4
      by_cases c5 : a0 ≥ (wrap64 (a1 - 1))
      · rw [if_pos c5] at H
        have c5b0 : decide ((wrap64 (a1 - 1)) ≤ a0) = true := decide_eq_true c5
        clear c5
        obtain rfl := Option.some.inj H
        go_enter Try.func18, Try.ntmps18
        go_wp2
        go_ret
        exact ⟨by first | rfl | (simp; done) | (simp [*]; done), by repeat (first | exact Drawn0.refl _ | apply Drawn0.step)⟩
      · rw [if_neg c5] at H
        have c5b0 : decide ((wrap64 (a1 - 1)) ≤ a0) = false := decide_eq_false c5
        clear c5
        obtain rfl := Option.some.inj H
        go_enter Try.func18, Try.ntmps18
        go_wp2
        go_ret
        exact ⟨by first | rfl | (simp; done) | (simp [*]; done), by repeat (first | exact Drawn0.refl _ | apply Drawn0.step)⟩

/-! ### treelinelaw06_awake: function 15 -/
def treelinelaw06_awake.f  : Option (Bool) := (hash_Next.f 3 4).bind fun t101 => (if t101 = 0 then ((hash_Way.f 3 1 4).bind fun t102 => (if t102 = 2 then ((hash_Next.f 1 4).bind fun t103 => (some (t103 == 2))) else (some false))) else (some false))
set_option maxHeartbeats 8000000 in
set_option maxRecDepth 100000 in
theorem treelinelaw06_awake.calls  (r : Bool) (w : World) (h : treelinelaw06_awake.f  = some r) :
    Calls Try.prog 15 #[] w fun e w' => e = .returned (.bool r) ∧ Drawn0 w w' := by
  have H : ((hash_Next.f 3 4).bind fun t101 => (if t101 = 0 then ((hash_Way.f 3 1 4).bind fun t102 => (if t102 = 2 then ((hash_Next.f 1 4).bind fun t103 => (some (t103 == 2))) else (some false))) else (some false))) = some r := h
  clear h
  replace H := Option.bind_eq_some_iff.mp H
  obtain ⟨t101, A10, H⟩ := H
  replace H : (if t101 = 0 then ((hash_Way.f 3 1 4).bind fun t102 => (if t102 = 2 then ((hash_Next.f 1 4).bind fun t103 => (some (t103 == 2))) else (some false))) else (some false)) = some r := H
  have A1 := Aside0.mk A10
  clear A10
  by_cases c2 : t101 = 0
  · rw [if_pos c2] at H
    have c2b0 : (t101 == 0) = true := beq_iff_eq.mpr c2
    have c2b1 : (t101 != 0) = false := bne_eq_false_iff_eq.mpr c2
    clear c2
    replace H := Option.bind_eq_some_iff.mp H
    obtain ⟨t102, A30, H⟩ := H
    replace H : (if t102 = 2 then ((hash_Next.f 1 4).bind fun t103 => (some (t103 == 2))) else (some false)) = some r := H
    have A3 := Aside0.mk A30
    clear A30
    by_cases c4 : t102 = 2
    · rw [if_pos c4] at H
      have c4b0 : (t102 == 2) = true := beq_iff_eq.mpr c4
      have c4b1 : (t102 != 2) = false := bne_eq_false_iff_eq.mpr c4
      clear c4
      replace H := Option.bind_eq_some_iff.mp H
      obtain ⟨t103, A50, H⟩ := H
      replace H : (some (t103 == 2)) = some r := H
      have A5 := Aside0.mk A50
      clear A50
      obtain rfl := Option.some.inj H
      go_enter Try.func15, Try.ntmps15
      go_wp2_with (first | ((with_reducible refine gate_callee (f := 18) rfl ?_); refine goesL_ (some 1) rfl rfl Try.func18 (by kernel_rfl) rfl #[.int .i64 3, .int .i64 4] rfl (by (try simp only [List.map_toArray, List.map_cons, List.map_nil]); first | done | rfl | (simp only [List.length_drop, List.length_take]; rfl)) ?_; (with_reducible refine (hash_Next.calls 3 4 t101 _ A1.out).mono ?_); rintro e w' ⟨rfl, ⟨nd, rfl⟩⟩; refine ⟨_, rfl, ?_⟩) | (go_at_call 17; (with_reducible refine (hash_Way.calls 3 1 4 t102 _ A3.out).mono ?_); rintro e w' ⟨rfl, ⟨nd, rfl⟩⟩) | (go_at_call 18; (with_reducible refine (hash_Next.calls 1 4 t103 _ A5.out).mono ?_); rintro e w' ⟨rfl, ⟨nd, rfl⟩⟩) | (go_at_call 18; (with_reducible refine (hash_Next.calls 3 4 t101 _ A1.out).mono ?_); rintro e w' ⟨rfl, ⟨nd, rfl⟩⟩))
      go_ret
      exact ⟨by first | rfl | (simp; done) | (simp [*]; done), by repeat (first | exact Drawn0.refl _ | apply Drawn0.step)⟩
    · rw [if_neg c4] at H
      have c4b0 : (t102 == 2) = false := beq_eq_false_iff_ne.mpr c4
      have c4b1 : (t102 != 2) = true := bne_iff_ne.mpr c4
      obtain rfl := Option.some.inj H
      go_enter Try.func15, Try.ntmps15
      go_wp2_with (first | ((with_reducible refine gate_callee (f := 18) rfl ?_); refine goesL_ (some 1) rfl rfl Try.func18 (by kernel_rfl) rfl #[.int .i64 3, .int .i64 4] rfl (by (try simp only [List.map_toArray, List.map_cons, List.map_nil]); first | done | rfl | (simp only [List.length_drop, List.length_take]; rfl)) ?_; (with_reducible refine (hash_Next.calls 3 4 t101 _ A1.out).mono ?_); rintro e w' ⟨rfl, ⟨nd, rfl⟩⟩; refine ⟨_, rfl, ?_⟩) | (go_at_call 17; (with_reducible refine (hash_Way.calls 3 1 4 t102 _ A3.out).mono ?_); rintro e w' ⟨rfl, ⟨nd, rfl⟩⟩) | (go_at_call 18; (with_reducible refine (hash_Next.calls 3 4 t101 _ A1.out).mono ?_); rintro e w' ⟨rfl, ⟨nd, rfl⟩⟩))
      go_ret
      exact ⟨by first | rfl | (simp; done) | (simp [*]; done), by repeat (first | exact Drawn0.refl _ | apply Drawn0.step)⟩
  · rw [if_neg c2] at H
    have c2b0 : (t101 == 0) = false := beq_eq_false_iff_ne.mpr c2
    have c2b1 : (t101 != 0) = true := bne_iff_ne.mpr c2
    obtain rfl := Option.some.inj H
    go_enter Try.func15, Try.ntmps15
    go_wp2_with (first | ((with_reducible refine gate_callee (f := 18) rfl ?_); refine goesL_ (some 1) rfl rfl Try.func18 (by kernel_rfl) rfl #[.int .i64 3, .int .i64 4] rfl (by (try simp only [List.map_toArray, List.map_cons, List.map_nil]); first | done | rfl | (simp only [List.length_drop, List.length_take]; rfl)) ?_; (with_reducible refine (hash_Next.calls 3 4 t101 _ A1.out).mono ?_); rintro e w' ⟨rfl, ⟨nd, rfl⟩⟩; refine ⟨_, rfl, ?_⟩) | (go_at_call 18; (with_reducible refine (hash_Next.calls 3 4 t101 _ A1.out).mono ?_); rintro e w' ⟨rfl, ⟨nd, rfl⟩⟩))
    go_ret
    exact ⟨by first | rfl | (simp; done) | (simp [*]; done), by repeat (first | exact Drawn0.refl _ | apply Drawn0.step)⟩

/-! ### treelineref06_Next: function 16 -/
def treelineref06_Next.f (a0 : Int) (a1 : Int) : Option (Int) := if a0 ≥ 0 then (if (wrap64 (a0 + 1)) > 0 then (if (wrap64 (a0 + 1)) < a1 then (some (wrap64 (a0 + 1))) else (some 0)) else (some 0)) else (some 0)
set_option maxHeartbeats 8000000 in
set_option maxRecDepth 100000 in
theorem treelineref06_Next.calls (a0 : Int) (a1 : Int) (r : Int) (w : World) (h : treelineref06_Next.f a0 a1 = some r) :
    Calls Try.prog 16 #[.int .i64 a0, .int .i64 a1] w fun e w' => e = .returned (.int .i64 r) ∧ Drawn0 w w' := by
  have H : (if a0 ≥ 0 then (if (wrap64 (a0 + 1)) > 0 then (if (wrap64 (a0 + 1)) < a1 then (some (wrap64 (a0 + 1))) else (some 0)) else (some 0)) else (some 0)) = some r := h
  clear h
  by_cases c3 : a0 ≥ 0
  · rw [if_pos c3] at H
    have c3b0 : decide (0 ≤ a0) = true := decide_eq_true c3
    clear c3
    by_cases c4 : (wrap64 (a0 + 1)) > 0
    · rw [if_pos c4] at H
      have c4b0 : decide (0 < (wrap64 (a0 + 1))) = true := decide_eq_true c4
      clear c4
      by_cases c5 : (wrap64 (a0 + 1)) < a1
      · rw [if_pos c5] at H
        have c5b0 : decide ((wrap64 (a0 + 1)) < a1) = true := decide_eq_true c5
        clear c5
        obtain rfl := Option.some.inj H
        go_enter Try.func16, Try.ntmps16
        go_wp2
        go_ret
        exact ⟨by first | rfl | (simp; done) | (simp [*]; done), by repeat (first | exact Drawn0.refl _ | apply Drawn0.step)⟩
      · rw [if_neg c5] at H
        have c5b0 : decide ((wrap64 (a0 + 1)) < a1) = false := decide_eq_false c5
        clear c5
        obtain rfl := Option.some.inj H
        go_enter Try.func16, Try.ntmps16
        go_wp2
        go_ret
        exact ⟨by first | rfl | (simp; done) | (simp [*]; done), by repeat (first | exact Drawn0.refl _ | apply Drawn0.step)⟩
    · rw [if_neg c4] at H
      have c4b0 : decide (0 < (wrap64 (a0 + 1))) = false := decide_eq_false c4
      clear c4
      obtain rfl := Option.some.inj H
      go_enter Try.func16, Try.ntmps16
      go_wp2
      go_ret
      exact ⟨by first | rfl | (simp; done) | (simp [*]; done), by repeat (first | exact Drawn0.refl _ | apply Drawn0.step)⟩
  · rw [if_neg c3] at H
    have c3b0 : decide (0 ≤ a0) = false := decide_eq_false c3
    clear c3
    obtain rfl := Option.some.inj H
    go_enter Try.func16, Try.ntmps16
    go_wp2
    go_ret
    exact ⟨by first | rfl | (simp; done) | (simp [*]; done), by repeat (first | exact Drawn0.refl _ | apply Drawn0.step)⟩

/-! ### treelinelaw06_HashWays: function 3 -/
mutual
def treelinelaw06_HashWays.j1 : Nat → Int → Int → Int → Int → Option (Bool)
  | 0, _, _, _, _ => none
  | k + 1, x7, x8, x9, x11 => (hash_Way.f x8 x9 x7).bind fun t106 => (if t106 = x11 then ((hash_Way.f x8 x9 0).bind fun t107 => (if t107 = 0 then ((hash_Way.f (wrap64 (x8 + x7)) x9 x7).bind fun t108 => (if t108 = x11 then ((hash_Way.f x8 (wrap64 (x9 + (wrap64 (3 * x7)))) x7).bind fun t109 => (some (t109 == x11))) else (some false))) else (some false))) else (some false))
def treelinelaw06_HashWays.l0 : Nat → Int → Int → Int → Int → Int → Option (Bool)
  | 0, _, _, _, _, _ => none
  | k + 1, x7, x8, x9, x10, x11 => if x11 < x7 then (if x10 = x9 then (treelinelaw06_HashWays.j1 k x7 x8 x9 x11) else ((treelineref06_Next.f x10 x7).bind fun t105 => (treelinelaw06_HashWays.l0 k x7 x8 x9 t105 (wrap64 (x11 + 1))))) else (treelinelaw06_HashWays.j1 k x7 x8 x9 x11)
end
def treelinelaw06_HashWays.f (k : Nat) (a0 : Int) (a1 : Int) (a2 : Int) : Option (Bool) := (treelinelaw06_awake.f).bind fun t104 => (if t104 = true then (if (wrap64 (1 + (Int.tmod (wrap64 (a2)) 500))) = 0 then (none) else (treelinelaw06_HashWays.l0 k (wrap64 (1 + (Int.tmod (wrap64 (a2)) 500))) (Int.tmod (wrap64 (a0)) (wrap64 (1 + (Int.tmod (wrap64 (a2)) 500)))) (Int.tmod (wrap64 (a1)) (wrap64 (1 + (Int.tmod (wrap64 (a2)) 500)))) (Int.tmod (wrap64 (a0)) (wrap64 (1 + (Int.tmod (wrap64 (a2)) 500)))) 0)) else (some false))
theorem treelinelaw06_HashWays.mono_l : ∀ k, (∀ y0 y1 y2 y3, LeO (treelinelaw06_HashWays.j1 k y0 y1 y2 y3) (treelinelaw06_HashWays.j1 (k + 1) y0 y1 y2 y3)) ∧ (∀ y0 y1 y2 y3 y4, LeO (treelinelaw06_HashWays.l0 k y0 y1 y2 y3 y4) (treelinelaw06_HashWays.l0 (k + 1) y0 y1 y2 y3 y4))
  | 0 => ⟨fun _ _ _ _ r h => by simp [treelinelaw06_HashWays.j1] at h, fun _ _ _ _ _ r h => by simp [treelinelaw06_HashWays.l0] at h⟩
  | k + 1 => by
    obtain ⟨ih0, ih1⟩ := treelinelaw06_HashWays.mono_l k
    refine ⟨?_, ?_⟩
    · intro y0 y1 y2 y3
      unfold treelinelaw06_HashWays.j1
      repeat' first
      | (with_reducible exact ih0 _ _ _ _)
      | (with_reducible exact ih1 _ _ _ _ _)
      | (with_reducible exact LeO.refl _)
      | (with_reducible exact LeO.none _)
      | (with_reducible refine LeO.ite ?_ ?_)
      | (with_reducible refine LeO.bind ?_ (fun _ => ?_))
      | exact ih0 _ _ _ _
      | exact ih1 _ _ _ _ _
      | exact LeO.none _
      | refine LeO.ite ?_ ?_
      | refine LeO.bind ?_ (fun _ => ?_)
    · intro y0 y1 y2 y3 y4
      unfold treelinelaw06_HashWays.l0
      repeat' first
      | (with_reducible exact ih0 _ _ _ _)
      | (with_reducible exact ih1 _ _ _ _ _)
      | (with_reducible exact LeO.refl _)
      | (with_reducible exact LeO.none _)
      | (with_reducible refine LeO.ite ?_ ?_)
      | (with_reducible refine LeO.bind ?_ (fun _ => ?_))
      | exact ih0 _ _ _ _
      | exact ih1 _ _ _ _ _
      | exact LeO.none _
      | refine LeO.ite ?_ ?_
      | refine LeO.bind ?_ (fun _ => ?_)
theorem treelinelaw06_HashWays.mono : ∀ a0 a1 a2 k, LeO (treelinelaw06_HashWays.f k a0 a1 a2) (treelinelaw06_HashWays.f (k + 1) a0 a1 a2) := by
  intro a0 a1 a2 k
  obtain ⟨ih0, ih1⟩ := treelinelaw06_HashWays.mono_l k
  unfold treelinelaw06_HashWays.f
  repeat' first
      | (with_reducible exact ih0 _ _ _ _)
      | (with_reducible exact ih1 _ _ _ _ _)
      | (with_reducible exact LeO.refl _)
      | (with_reducible exact LeO.none _)
      | (with_reducible refine LeO.ite ?_ ?_)
      | (with_reducible refine LeO.bind ?_ (fun _ => ?_))
      | exact ih0 _ _ _ _
      | exact ih1 _ _ _ _ _
      | exact LeO.none _
      | refine LeO.ite ?_ ?_
      | refine LeO.bind ?_ (fun _ => ?_)
set_option maxHeartbeats 8000000 in
set_option maxRecDepth 100000 in
theorem treelinelaw06_HashWays.calls (k : Nat) (a0 : Int) (a1 : Int) (a2 : Int) (r : Bool) (w : World) (h : treelinelaw06_HashWays.f k a0 a1 a2 = some r) (LRT : Aside0 (r = true)) :
    Calls Try.prog 3 #[.int .u16 a0, .int .u16 a1, .int .u16 a2] w fun e w' => e = .returned (.bool r) ∧ Drawn0 w w' := by
  have H : ((treelinelaw06_awake.f).bind fun t104 => (if t104 = true then (if (wrap64 (1 + (Int.tmod (wrap64 (a2)) 500))) = 0 then (none) else (treelinelaw06_HashWays.l0 k (wrap64 (1 + (Int.tmod (wrap64 (a2)) 500))) (Int.tmod (wrap64 (a0)) (wrap64 (1 + (Int.tmod (wrap64 (a2)) 500)))) (Int.tmod (wrap64 (a1)) (wrap64 (1 + (Int.tmod (wrap64 (a2)) 500)))) (Int.tmod (wrap64 (a0)) (wrap64 (1 + (Int.tmod (wrap64 (a2)) 500)))) 0)) else (some false))) = some r := h
  clear h
  replace H := Option.bind_eq_some_iff.mp H
  obtain ⟨t104, A40, H⟩ := H
  replace H : (if t104 = true then (if (wrap64 (1 + (Int.tmod (wrap64 (a2)) 500))) = 0 then (none) else (treelinelaw06_HashWays.l0 k (wrap64 (1 + (Int.tmod (wrap64 (a2)) 500))) (Int.tmod (wrap64 (a0)) (wrap64 (1 + (Int.tmod (wrap64 (a2)) 500)))) (Int.tmod (wrap64 (a1)) (wrap64 (1 + (Int.tmod (wrap64 (a2)) 500)))) (Int.tmod (wrap64 (a0)) (wrap64 (1 + (Int.tmod (wrap64 (a2)) 500)))) 0)) else (some false)) = some r := H
  have A4 := Aside0.mk A40
  clear A40
  by_cases c5 : t104 = true
  · subst c5
    have H1 : (if (wrap64 (1 + (Int.tmod (wrap64 (a2)) 500))) = 0 then (none) else (treelinelaw06_HashWays.l0 k (wrap64 (1 + (Int.tmod (wrap64 (a2)) 500))) (Int.tmod (wrap64 (a0)) (wrap64 (1 + (Int.tmod (wrap64 (a2)) 500)))) (Int.tmod (wrap64 (a1)) (wrap64 (1 + (Int.tmod (wrap64 (a2)) 500)))) (Int.tmod (wrap64 (a0)) (wrap64 (1 + (Int.tmod (wrap64 (a2)) 500)))) 0)) = some r := by rw [if_pos rfl] at H; exact H
    clear H
    have H := H1
    clear H1
    by_cases c6 : (wrap64 (1 + (Int.tmod (wrap64 (a2)) 500))) = 0
    · rw [if_pos c6] at H
      exact absurd H (by simp)
    · rw [if_neg c6] at H
      have c6b0 : ((wrap64 (1 + (Int.tmod (wrap64 (a2)) 500))) == 0) = false := beq_eq_false_iff_ne.mpr c6
      have c6b1 : ((wrap64 (1 + (Int.tmod (wrap64 (a2)) 500))) != 0) = true := bne_iff_ne.mpr c6
      have HC7 := Aside0.mk H
      clear H
      go_enter Try.func3, Try.ntmps3
      go_upto_block 0 with (first | (go_at_call 15; (with_reducible refine (treelinelaw06_awake.calls  true _ A4.out).mono ?_); rintro e w' ⟨rfl, ⟨nd, rfl⟩⟩; (try first | exact ⟨rfl, _, World.drewN_drewN _ _ _⟩ | exact ⟨rfl, _, Eq.trans (World.drewN_drewN _ _ _) (congrArg (World.drewN _) (Nat.add_assoc _ _ _))⟩)))
      repeat (go_quiet (first | (go_at_call 15; (with_reducible refine (treelinelaw06_awake.calls  true _ A4.out).mono ?_); rintro e w' ⟨rfl, ⟨nd, rfl⟩⟩; (try first | exact ⟨rfl, _, World.drewN_drewN _ _ _⟩ | exact ⟨rfl, _, Eq.trans (World.drewN_drewN _ _ _) (congrArg (World.drewN _) (Nat.add_assoc _ _ _))⟩))); go_upto_block 0 with (first | (go_at_call 15; (with_reducible refine (treelinelaw06_awake.calls  true _ A4.out).mono ?_); rintro e w' ⟨rfl, ⟨nd, rfl⟩⟩; (try first | exact ⟨rfl, _, World.drewN_drewN _ _ _⟩ | exact ⟨rfl, _, Eq.trans (World.drewN_drewN _ _ _) (congrArg (World.drewN _) (Nat.add_assoc _ _ _))⟩))))
      (try simp only [Act.put, List.setIfInBounds_toArray, List.set_cons_zero, List.set_cons_succ])
      go_cut [11] (fun v11 wc => ∃ (kq : Nat) (x11_6 : Int), v11 = .int .i64 x11_6 ∧ Aside0 (treelinelaw06_HashWays.j1 kq (wrap64 (1 + (Int.tmod (wrap64 (a2)) 500))) (Int.tmod (wrap64 (a0)) (wrap64 (1 + (Int.tmod (wrap64 (a2)) 500)))) (Int.tmod (wrap64 (a1)) (wrap64 (1 + (Int.tmod (wrap64 (a2)) 500)))) x11_6 = some r) ∧ Aside0 (kq ≤ k) ∧ Drawn0 w wc)
      case first =>
        have H := HC7.out
        clear HC7
        have H' := Aside0.mk H
        clear H
        go_wp2
        repeat (go_quiet (fail); try go_wp2)
        go_loopg [10, 11] k (fun kq v10 v11 w' => ∃ (x10_1 : Int) (x11_1 : Int), v10 = .int .i64 x10_1 ∧ v11 = .int .i64 x11_1 ∧ Aside0 (treelinelaw06_HashWays.l0 kq (wrap64 (1 + (Int.tmod (wrap64 (a2)) 500))) (Int.tmod (wrap64 (a0)) (wrap64 (1 + (Int.tmod (wrap64 (a2)) 500)))) (Int.tmod (wrap64 (a1)) (wrap64 (1 + (Int.tmod (wrap64 (a2)) 500)))) x10_1 x11_1 = some r) ∧ Aside0 (kq ≤ k) ∧ Drawn0 w w')
        case atStart => exact ⟨(Int.tmod (wrap64 (a0)) (wrap64 (1 + (Int.tmod (wrap64 (a2)) 500)))), (0), (by first | rfl | (simp; done) | (simp [*]; done)), (by first | rfl | (simp; done) | (simp [*]; done)), H', ⟨Nat.le_refl _⟩, by repeat (first | exact Drawn0.refl _ | apply Drawn0.step)⟩
        case round =>
          clear H'
          try clear p2
          try clear c3
          try clear c5
          try clear c6
          try clear c6b0
          try clear c6b1
          try clear p6
          obtain ⟨x10_1, x11_1, rfl, rfl, HA, HK1, ⟨m1, rfl⟩⟩ := hrel
          cases gk with
          | zero => exact absurd HA.out (by simp [treelinelaw06_HashWays.l0])
          | succ k1 =>
            have H := HA.out
            clear HA
            simp only [treelinelaw06_HashWays.l0] at H
            by_cases c8 : x11_1 < (wrap64 (1 + (Int.tmod (wrap64 (a2)) 500)))
            · rw [if_pos c8] at H
              have c8b0 : decide (x11_1 < (wrap64 (1 + (Int.tmod (wrap64 (a2)) 500)))) = true := decide_eq_true c8
              clear c8
              (first | rw [c8b0] | (simp only [i64_w, i32_w]; rw [c8b0]) | skip)
              by_cases c9 : x10_1 = (Int.tmod (wrap64 (a1)) (wrap64 (1 + (Int.tmod (wrap64 (a2)) 500))))
              · rw [if_pos c9] at H
                have c9b0 : (x10_1 == (Int.tmod (wrap64 (a1)) (wrap64 (1 + (Int.tmod (wrap64 (a2)) 500))))) = true := beq_iff_eq.mpr c9
                have c9b1 : (x10_1 != (Int.tmod (wrap64 (a1)) (wrap64 (1 + (Int.tmod (wrap64 (a2)) 500))))) = false := bne_eq_false_iff_eq.mpr c9
                clear c9
                have H' := Aside0.mk H
                clear H
                go_wp2
                repeat (go_quiet (fail); try go_wp2)
                go_meet
                case rel => exact ⟨_, (x11_1), (by first | rfl | (simp; done) | (simp [*]; done)), H', ⟨by have := HK1.out; first | omega | exact Nat.le_refl _⟩, by repeat (first | exact Drawn0.refl _ | apply Drawn0.step)⟩
              · rw [if_neg c9] at H
                have c9b0 : (x10_1 == (Int.tmod (wrap64 (a1)) (wrap64 (1 + (Int.tmod (wrap64 (a2)) 500))))) = false := beq_eq_false_iff_ne.mpr c9
                have c9b1 : (x10_1 != (Int.tmod (wrap64 (a1)) (wrap64 (1 + (Int.tmod (wrap64 (a2)) 500))))) = true := bne_iff_ne.mpr c9
                replace H := Option.bind_eq_some_iff.mp H
                obtain ⟨t105, A100, H⟩ := H
                replace H : (treelinelaw06_HashWays.l0 k1 (wrap64 (1 + (Int.tmod (wrap64 (a2)) 500))) (Int.tmod (wrap64 (a0)) (wrap64 (1 + (Int.tmod (wrap64 (a2)) 500)))) (Int.tmod (wrap64 (a1)) (wrap64 (1 + (Int.tmod (wrap64 (a2)) 500)))) t105 (wrap64 (x11_1 + 1))) = some r := H
                have A10 := Aside0.mk A100
                clear A100
                have H' := Aside0.mk H
                clear H
                go_wp2_with (first | (go_at_call 16; (with_reducible refine (treelineref06_Next.calls x10_1 (wrap64 (1 + (Int.tmod (wrap64 (a2)) 500))) t105 _ A10.out).mono ?_); rintro e w' ⟨rfl, ⟨nd, rfl⟩⟩; (try first | exact ⟨rfl, _, World.drewN_drewN _ _ _⟩ | exact ⟨rfl, _, Eq.trans (World.drewN_drewN _ _ _) (congrArg (World.drewN _) (Nat.add_assoc _ _ _))⟩)))
                repeat (go_quiet (first | (go_at_call 16; (with_reducible refine (treelineref06_Next.calls x10_1 (wrap64 (1 + (Int.tmod (wrap64 (a2)) 500))) t105 _ A10.out).mono ?_); rintro e w' ⟨rfl, ⟨nd, rfl⟩⟩; (try first | exact ⟨rfl, _, World.drewN_drewN _ _ _⟩ | exact ⟨rfl, _, Eq.trans (World.drewN_drewN _ _ _) (congrArg (World.drewN _) (Nat.add_assoc _ _ _))⟩))); try go_wp2_with (first | (go_at_call 16; (with_reducible refine (treelineref06_Next.calls x10_1 (wrap64 (1 + (Int.tmod (wrap64 (a2)) 500))) t105 _ A10.out).mono ?_); rintro e w' ⟨rfl, ⟨nd, rfl⟩⟩; (try first | exact ⟨rfl, _, World.drewN_drewN _ _ _⟩ | exact ⟨rfl, _, Eq.trans (World.drewN_drewN _ _ _) (congrArg (World.drewN _) (Nat.add_assoc _ _ _))⟩))))
                go_roundg k1
                case measure => have := HK1.out; omega
                case rel => exact ⟨(t105), (wrap64 (x11_1 + 1)), (by first | rfl | (simp; done) | (simp [*]; done)), (by first | rfl | (simp; done) | (simp [*]; done)), H', ⟨by have := HK1.out; omega⟩, by repeat (first | exact Drawn0.refl _ | apply Drawn0.step)⟩
            · rw [if_neg c8] at H
              have c8b0 : decide (x11_1 < (wrap64 (1 + (Int.tmod (wrap64 (a2)) 500)))) = false := decide_eq_false c8
              clear c8
              (first | rw [c8b0] | (simp only [i64_w, i32_w]; rw [c8b0]) | skip)
              have H' := Aside0.mk H
              clear H
              go_wp2
              repeat (go_quiet (fail); try go_wp2)
              go_meet
              case rel => exact ⟨_, (x11_1), (by first | rfl | (simp; done) | (simp [*]; done)), H', ⟨by have := HK1.out; first | omega | exact Nat.le_refl _⟩, by repeat (first | exact Drawn0.refl _ | apply Drawn0.step)⟩
      case rest =>
        clear HC7
        try clear p2
        try clear c3
        try clear c5
        try clear c6
        try clear c6b0
        try clear c6b1
        try clear p6
        try clear c8
        try clear c8b0
        try clear c9
        try clear c9b0
        try clear c9b1
        try clear p2
        try clear p6
        obtain ⟨kq, x11_6, rfl, HA, HJ6, ⟨mc6, rfl⟩⟩ := hcut
        cases kq with
        | zero => exact absurd HA.out (by simp [treelinelaw06_HashWays.j1])
        | succ kj6 =>
          have H := HA.out
          clear HA
          simp only [treelinelaw06_HashWays.j1] at H
          replace H := Option.bind_eq_some_iff.mp H
          obtain ⟨t106, A110, H⟩ := H
          replace H : (if t106 = x11_6 then ((hash_Way.f (Int.tmod (wrap64 (a0)) (wrap64 (1 + (Int.tmod (wrap64 (a2)) 500)))) (Int.tmod (wrap64 (a1)) (wrap64 (1 + (Int.tmod (wrap64 (a2)) 500)))) 0).bind fun t107 => (if t107 = 0 then ((hash_Way.f (wrap64 ((Int.tmod (wrap64 (a0)) (wrap64 (1 + (Int.tmod (wrap64 (a2)) 500)))) + (wrap64 (1 + (Int.tmod (wrap64 (a2)) 500))))) (Int.tmod (wrap64 (a1)) (wrap64 (1 + (Int.tmod (wrap64 (a2)) 500)))) (wrap64 (1 + (Int.tmod (wrap64 (a2)) 500)))).bind fun t108 => (if t108 = x11_6 then ((hash_Way.f (Int.tmod (wrap64 (a0)) (wrap64 (1 + (Int.tmod (wrap64 (a2)) 500)))) (wrap64 ((Int.tmod (wrap64 (a1)) (wrap64 (1 + (Int.tmod (wrap64 (a2)) 500)))) + (wrap64 (3 * (wrap64 (1 + (Int.tmod (wrap64 (a2)) 500))))))) (wrap64 (1 + (Int.tmod (wrap64 (a2)) 500)))).bind fun t109 => (some (t109 == x11_6))) else (some false))) else (some false))) else (some false)) = some r := H
          have A11 := Aside0.mk A110
          clear A110
          by_cases c12 : t106 = x11_6
          · rw [if_pos c12] at H
            have c12b0 : (t106 == x11_6) = true := beq_iff_eq.mpr c12
            have c12b1 : (t106 != x11_6) = false := bne_eq_false_iff_eq.mpr c12
            clear c12
            replace H := Option.bind_eq_some_iff.mp H
            obtain ⟨t107, A130, H⟩ := H
            replace H : (if t107 = 0 then ((hash_Way.f (wrap64 ((Int.tmod (wrap64 (a0)) (wrap64 (1 + (Int.tmod (wrap64 (a2)) 500)))) + (wrap64 (1 + (Int.tmod (wrap64 (a2)) 500))))) (Int.tmod (wrap64 (a1)) (wrap64 (1 + (Int.tmod (wrap64 (a2)) 500)))) (wrap64 (1 + (Int.tmod (wrap64 (a2)) 500)))).bind fun t108 => (if t108 = x11_6 then ((hash_Way.f (Int.tmod (wrap64 (a0)) (wrap64 (1 + (Int.tmod (wrap64 (a2)) 500)))) (wrap64 ((Int.tmod (wrap64 (a1)) (wrap64 (1 + (Int.tmod (wrap64 (a2)) 500)))) + (wrap64 (3 * (wrap64 (1 + (Int.tmod (wrap64 (a2)) 500))))))) (wrap64 (1 + (Int.tmod (wrap64 (a2)) 500)))).bind fun t109 => (some (t109 == x11_6))) else (some false))) else (some false)) = some r := H
            have A13 := Aside0.mk A130
            clear A130
            by_cases c14 : t107 = 0
            · rw [if_pos c14] at H
              have c14b0 : (t107 == 0) = true := beq_iff_eq.mpr c14
              have c14b1 : (t107 != 0) = false := bne_eq_false_iff_eq.mpr c14
              clear c14
              replace H := Option.bind_eq_some_iff.mp H
              obtain ⟨t108, A150, H⟩ := H
              replace H : (if t108 = x11_6 then ((hash_Way.f (Int.tmod (wrap64 (a0)) (wrap64 (1 + (Int.tmod (wrap64 (a2)) 500)))) (wrap64 ((Int.tmod (wrap64 (a1)) (wrap64 (1 + (Int.tmod (wrap64 (a2)) 500)))) + (wrap64 (3 * (wrap64 (1 + (Int.tmod (wrap64 (a2)) 500))))))) (wrap64 (1 + (Int.tmod (wrap64 (a2)) 500)))).bind fun t109 => (some (t109 == x11_6))) else (some false)) = some r := H
              have A15 := Aside0.mk A150
              clear A150
              by_cases c16 : t108 = x11_6
              · rw [if_pos c16] at H
                have c16b0 : (t108 == x11_6) = true := beq_iff_eq.mpr c16
                have c16b1 : (t108 != x11_6) = false := bne_eq_false_iff_eq.mpr c16
                clear c16
                replace H := Option.bind_eq_some_iff.mp H
                obtain ⟨t109, A170, H⟩ := H
                replace H : (some (t109 == x11_6)) = some r := H
                have A17 := Aside0.mk A170
                clear A170
                obtain rfl := Option.some.inj H
                (try exact absurd LRT.out (by decide))
                all_goals
                  go_wp2_with (first | (go_at_call 17; (with_reducible refine (hash_Way.calls (Int.tmod (wrap64 (a0)) (wrap64 (1 + (Int.tmod (wrap64 (a2)) 500)))) (Int.tmod (wrap64 (a1)) (wrap64 (1 + (Int.tmod (wrap64 (a2)) 500)))) (wrap64 (1 + (Int.tmod (wrap64 (a2)) 500))) t106 _ A11.out).mono ?_); rintro e w' ⟨rfl, ⟨nd, rfl⟩⟩; (try first | exact ⟨rfl, _, World.drewN_drewN _ _ _⟩ | exact ⟨rfl, _, Eq.trans (World.drewN_drewN _ _ _) (congrArg (World.drewN _) (Nat.add_assoc _ _ _))⟩)) | (go_at_call 17; (with_reducible refine (hash_Way.calls (Int.tmod (wrap64 (a0)) (wrap64 (1 + (Int.tmod (wrap64 (a2)) 500)))) (Int.tmod (wrap64 (a1)) (wrap64 (1 + (Int.tmod (wrap64 (a2)) 500)))) 0 t107 _ A13.out).mono ?_); rintro e w' ⟨rfl, ⟨nd, rfl⟩⟩; (try first | exact ⟨rfl, _, World.drewN_drewN _ _ _⟩ | exact ⟨rfl, _, Eq.trans (World.drewN_drewN _ _ _) (congrArg (World.drewN _) (Nat.add_assoc _ _ _))⟩)) | (go_at_call 17; (with_reducible refine (hash_Way.calls (wrap64 ((Int.tmod (wrap64 (a0)) (wrap64 (1 + (Int.tmod (wrap64 (a2)) 500)))) + (wrap64 (1 + (Int.tmod (wrap64 (a2)) 500))))) (Int.tmod (wrap64 (a1)) (wrap64 (1 + (Int.tmod (wrap64 (a2)) 500)))) (wrap64 (1 + (Int.tmod (wrap64 (a2)) 500))) t108 _ A15.out).mono ?_); rintro e w' ⟨rfl, ⟨nd, rfl⟩⟩; (try first | exact ⟨rfl, _, World.drewN_drewN _ _ _⟩ | exact ⟨rfl, _, Eq.trans (World.drewN_drewN _ _ _) (congrArg (World.drewN _) (Nat.add_assoc _ _ _))⟩)) | (go_at_call 17; (with_reducible refine (hash_Way.calls (Int.tmod (wrap64 (a0)) (wrap64 (1 + (Int.tmod (wrap64 (a2)) 500)))) (wrap64 ((Int.tmod (wrap64 (a1)) (wrap64 (1 + (Int.tmod (wrap64 (a2)) 500)))) + (wrap64 (3 * (wrap64 (1 + (Int.tmod (wrap64 (a2)) 500))))))) (wrap64 (1 + (Int.tmod (wrap64 (a2)) 500))) t109 _ A17.out).mono ?_); rintro e w' ⟨rfl, ⟨nd, rfl⟩⟩; (try first | exact ⟨rfl, _, World.drewN_drewN _ _ _⟩ | exact ⟨rfl, _, Eq.trans (World.drewN_drewN _ _ _) (congrArg (World.drewN _) (Nat.add_assoc _ _ _))⟩)))
                  repeat (go_quiet (first | (go_at_call 17; (with_reducible refine (hash_Way.calls (Int.tmod (wrap64 (a0)) (wrap64 (1 + (Int.tmod (wrap64 (a2)) 500)))) (Int.tmod (wrap64 (a1)) (wrap64 (1 + (Int.tmod (wrap64 (a2)) 500)))) (wrap64 (1 + (Int.tmod (wrap64 (a2)) 500))) t106 _ A11.out).mono ?_); rintro e w' ⟨rfl, ⟨nd, rfl⟩⟩; (try first | exact ⟨rfl, _, World.drewN_drewN _ _ _⟩ | exact ⟨rfl, _, Eq.trans (World.drewN_drewN _ _ _) (congrArg (World.drewN _) (Nat.add_assoc _ _ _))⟩)) | (go_at_call 17; (with_reducible refine (hash_Way.calls (Int.tmod (wrap64 (a0)) (wrap64 (1 + (Int.tmod (wrap64 (a2)) 500)))) (Int.tmod (wrap64 (a1)) (wrap64 (1 + (Int.tmod (wrap64 (a2)) 500)))) 0 t107 _ A13.out).mono ?_); rintro e w' ⟨rfl, ⟨nd, rfl⟩⟩; (try first | exact ⟨rfl, _, World.drewN_drewN _ _ _⟩ | exact ⟨rfl, _, Eq.trans (World.drewN_drewN _ _ _) (congrArg (World.drewN _) (Nat.add_assoc _ _ _))⟩)) | (go_at_call 17; (with_reducible refine (hash_Way.calls (wrap64 ((Int.tmod (wrap64 (a0)) (wrap64 (1 + (Int.tmod (wrap64 (a2)) 500)))) + (wrap64 (1 + (Int.tmod (wrap64 (a2)) 500))))) (Int.tmod (wrap64 (a1)) (wrap64 (1 + (Int.tmod (wrap64 (a2)) 500)))) (wrap64 (1 + (Int.tmod (wrap64 (a2)) 500))) t108 _ A15.out).mono ?_); rintro e w' ⟨rfl, ⟨nd, rfl⟩⟩; (try first | exact ⟨rfl, _, World.drewN_drewN _ _ _⟩ | exact ⟨rfl, _, Eq.trans (World.drewN_drewN _ _ _) (congrArg (World.drewN _) (Nat.add_assoc _ _ _))⟩)) | (go_at_call 17; (with_reducible refine (hash_Way.calls (Int.tmod (wrap64 (a0)) (wrap64 (1 + (Int.tmod (wrap64 (a2)) 500)))) (wrap64 ((Int.tmod (wrap64 (a1)) (wrap64 (1 + (Int.tmod (wrap64 (a2)) 500)))) + (wrap64 (3 * (wrap64 (1 + (Int.tmod (wrap64 (a2)) 500))))))) (wrap64 (1 + (Int.tmod (wrap64 (a2)) 500))) t109 _ A17.out).mono ?_); rintro e w' ⟨rfl, ⟨nd, rfl⟩⟩; (try first | exact ⟨rfl, _, World.drewN_drewN _ _ _⟩ | exact ⟨rfl, _, Eq.trans (World.drewN_drewN _ _ _) (congrArg (World.drewN _) (Nat.add_assoc _ _ _))⟩))); try go_wp2_with (first | (go_at_call 17; (with_reducible refine (hash_Way.calls (Int.tmod (wrap64 (a0)) (wrap64 (1 + (Int.tmod (wrap64 (a2)) 500)))) (Int.tmod (wrap64 (a1)) (wrap64 (1 + (Int.tmod (wrap64 (a2)) 500)))) (wrap64 (1 + (Int.tmod (wrap64 (a2)) 500))) t106 _ A11.out).mono ?_); rintro e w' ⟨rfl, ⟨nd, rfl⟩⟩; (try first | exact ⟨rfl, _, World.drewN_drewN _ _ _⟩ | exact ⟨rfl, _, Eq.trans (World.drewN_drewN _ _ _) (congrArg (World.drewN _) (Nat.add_assoc _ _ _))⟩)) | (go_at_call 17; (with_reducible refine (hash_Way.calls (Int.tmod (wrap64 (a0)) (wrap64 (1 + (Int.tmod (wrap64 (a2)) 500)))) (Int.tmod (wrap64 (a1)) (wrap64 (1 + (Int.tmod (wrap64 (a2)) 500)))) 0 t107 _ A13.out).mono ?_); rintro e w' ⟨rfl, ⟨nd, rfl⟩⟩; (try first | exact ⟨rfl, _, World.drewN_drewN _ _ _⟩ | exact ⟨rfl, _, Eq.trans (World.drewN_drewN _ _ _) (congrArg (World.drewN _) (Nat.add_assoc _ _ _))⟩)) | (go_at_call 17; (with_reducible refine (hash_Way.calls (wrap64 ((Int.tmod (wrap64 (a0)) (wrap64 (1 + (Int.tmod (wrap64 (a2)) 500)))) + (wrap64 (1 + (Int.tmod (wrap64 (a2)) 500))))) (Int.tmod (wrap64 (a1)) (wrap64 (1 + (Int.tmod (wrap64 (a2)) 500)))) (wrap64 (1 + (Int.tmod (wrap64 (a2)) 500))) t108 _ A15.out).mono ?_); rintro e w' ⟨rfl, ⟨nd, rfl⟩⟩; (try first | exact ⟨rfl, _, World.drewN_drewN _ _ _⟩ | exact ⟨rfl, _, Eq.trans (World.drewN_drewN _ _ _) (congrArg (World.drewN _) (Nat.add_assoc _ _ _))⟩)) | (go_at_call 17; (with_reducible refine (hash_Way.calls (Int.tmod (wrap64 (a0)) (wrap64 (1 + (Int.tmod (wrap64 (a2)) 500)))) (wrap64 ((Int.tmod (wrap64 (a1)) (wrap64 (1 + (Int.tmod (wrap64 (a2)) 500)))) + (wrap64 (3 * (wrap64 (1 + (Int.tmod (wrap64 (a2)) 500))))))) (wrap64 (1 + (Int.tmod (wrap64 (a2)) 500))) t109 _ A17.out).mono ?_); rintro e w' ⟨rfl, ⟨nd, rfl⟩⟩; (try first | exact ⟨rfl, _, World.drewN_drewN _ _ _⟩ | exact ⟨rfl, _, Eq.trans (World.drewN_drewN _ _ _) (congrArg (World.drewN _) (Nat.add_assoc _ _ _))⟩))))
                  go_ret
                  exact ⟨by first | rfl | (simp; done) | (simp [*]; done), by repeat (first | exact Drawn0.refl _ | apply Drawn0.step)⟩
              · rw [if_neg c16] at H
                have c16b0 : (t108 == x11_6) = false := beq_eq_false_iff_ne.mpr c16
                have c16b1 : (t108 != x11_6) = true := bne_iff_ne.mpr c16
                exact absurd ((Option.some.inj H).trans LRT.out) (by decide)
            · rw [if_neg c14] at H
              have c14b0 : (t107 == 0) = false := beq_eq_false_iff_ne.mpr c14
              have c14b1 : (t107 != 0) = true := bne_iff_ne.mpr c14
              exact absurd ((Option.some.inj H).trans LRT.out) (by decide)
          · rw [if_neg c12] at H
            have c12b0 : (t106 == x11_6) = false := beq_eq_false_iff_ne.mpr c12
            have c12b1 : (t106 != x11_6) = true := bne_iff_ne.mpr c12
            exact absurd ((Option.some.inj H).trans LRT.out) (by decide)
  · replace c5 := Bool.eq_false_iff.mpr c5
    subst c5
    have H1 : (some false) = some r := by rw [if_neg (show ¬ (false = true) by decide)] at H; exact H
    clear H
    have H := H1
    clear H1
    exact absurd ((Option.some.inj H).trans LRT.out) (by decide)
/-- THE ONE PURE STATEMENT of treelinelaw06_HashWays: yours. -/
def treelinelaw06_HashWays.Pure : Prop := ∀ (a0 : Int) (a1 : Int) (a2 : Int), (Lit.int .u16 a0).wf = true → (Lit.int .u16 a1).wf = true → (Lit.int .u16 a2).wf = true → ∃ k, treelinelaw06_HashWays.f k a0 a1 a2 = some true
theorem treelinelaw06_HashWays.walk (P : treelinelaw06_HashWays.Pure) (a0 : Int) (a1 : Int) (a2 : Int) (w : World) (w0 : (Lit.int .u16 a0).wf = true) (w1 : (Lit.int .u16 a1).wf = true) (w2 : (Lit.int .u16 a2).wf = true) :
    Calls Try.prog 3 #[.int .u16 a0, .int .u16 a1, .int .u16 a2] w fun e w' => e = .returned (.bool true) ∧ Below w.heap.size w w' := by
  obtain ⟨k, h⟩ := P a0 a1 a2 w0 w1 w2
  refine (treelinelaw06_HashWays.calls k a0 a1 a2 true w h ⟨rfl⟩).mono ?_
  rintro e w' ⟨rfl, hd⟩
  exact ⟨rfl, hd.below⟩

end Go.Proofs.Ytfdjlempllmelaa.PHashWays
