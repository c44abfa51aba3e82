-- PRINTED BY print.sh 35421559b90ae4d0a3588c463048766b98c2df88dd9212a6774a882060cdf62d: not written by this session
import Derived.Test.YtfdjlempllmelaaPHashRoundx0
namespace Go.Proofs.Ytfdjlempllmelaa.PHashRound
open Go.RowKit Go.Proofs.YtfdjlempllmelaaW.PrintWords Go.Proofs.YtfdjlempllmelaaW.PrintLast Go.Proofs.YtfdjlempllmelaaW.PrintMore
attribute [local go_sem] max2_int min2_int max_two min_two max_three min_three max_four min_four   -- for this text's walks alone
set_option linter.unusedVariables false
set_option linter.unusedSimpArgs false

/-! ### hash_Way: function 17 -/
def hash_Way.f (a0 : Int) (a1 : Int) (a2 : Int) : Option (Int) := if a2 < 1 then (some 0) else (if a2 = 0 then (none) else (some (Int.tmod (wrap64 ((Int.tmod (wrap64 (a1 - a0)) a2) + a2)) a2)))
set_option maxHeartbeats 8000000 in
set_option maxRecDepth 100000 in
theorem hash_Way.calls (a0 : Int) (a1 : Int) (a2 : Int) (r : Int) (w : World) (h : hash_Way.f a0 a1 a2 = some r) :
    Calls Try.prog 17 #[.int .i64 a0, .int .i64 a1, .int .i64 a2] w fun e w' => e = .returned (.int .i64 r) ∧ Drawn0 w w' := by
  have H : (if a2 < 1 then (some 0) else (if a2 = 0 then (none) else (some (Int.tmod (wrap64 ((Int.tmod (wrap64 (a1 - a0)) a2) + a2)) a2)))) = some r := h
  clear h
  by_cases c4 : a2 < 1
  · rw [if_pos c4] at H
    have c4b0 : decide (a2 < 1) = true := decide_eq_true c4
    clear c4
    obtain rfl := Option.some.inj H
    go_enter Try.func17, Try.ntmps17
    go_wp2
    go_ret
    exact ⟨by first | rfl | (simp; done) | (simp [*]; done), by repeat (first | exact Drawn0.refl _ | apply Drawn0.step)⟩
  · rw [if_neg c4] at H
    have c4b0 : decide (a2 < 1) = false := decide_eq_false c4
    clear c4
    by_cases c5 : a2 = 0
    · rw [if_pos c5] at H
      exact absurd H (by simp)
    · rw [if_neg c5] at H
      have c5b0 : (a2 == 0) = false := beq_eq_false_iff_ne.mpr c5
      have c5b1 : (a2 != 0) = true := bne_iff_ne.mpr c5
      obtain rfl := Option.some.inj H
      go_enter Try.func17, Try.ntmps17
      go_wp2
      go_ret
      exact ⟨by first | rfl | (simp; done) | (simp [*]; done), by repeat (first | exact Drawn0.refl _ | apply Drawn0.step)⟩

/-! ### hash_Next: function 18 -/
def hash_Next.f (a0 : Int) (a1 : Int) : Option (Int) := if a1 < 1 then (some 0) else (if a0 < 0 then (some 0) else (if a0 ≥ (wrap64 (a1 - 1)) then (some 0) else (some (wrap64 (a0 + 1)))))
set_option maxHeartbeats 8000000 in
set_option maxRecDepth 100000 in
theorem hash_Next.calls (a0 : Int) (a1 : Int) (r : Int) (w : World) (h : hash_Next.f a0 a1 = some r) :
    Calls Try.prog 18 #[.int .i64 a0, .int .i64 a1] w fun e w' => e = .returned (.int .i64 r) ∧ Drawn0 w w' := by
  have H : (if a1 < 1 then (some 0) else (if a0 < 0 then (some 0) else (if a0 ≥ (wrap64 (a1 - 1)) then (some 0) else (some (wrap64 (a0 + 1)))))) = some r := h
  clear h
  by_cases c3 : a1 < 1
  · rw [if_pos c3] at H
    have c3b0 : decide (a1 < 1) = true := decide_eq_true c3
    clear c3
    obtain rfl := Option.some.inj H
    go_enter Try.func18, Try.ntmps18
    go_wp2
    go_ret
    exact ⟨by first | rfl | (simp; done) | (simp [*]; done), by repeat (first | exact Drawn0.refl _ | apply Drawn0.step)⟩
  · rw [if_neg c3] at H
    have c3b0 : decide (a1 < 1) = false := decide_eq_false c3
    clear c3
    by_cases c4 : a0 < 0
    · rw [if_pos c4] at H
      have c4b0 : decide (a0 < 0) = true := decide_eq_true c4
      clear c4
      obtain rfl := Option.some.inj H
      go_enter Try.func18, Try.ntmps18
      go_wp2
      go_ret
      exact ⟨by first | rfl | (simp; done) | (simp [*]; done), by repeat (first | exact Drawn0.refl _ | apply Drawn0.step)⟩
    · rw [if_neg c4] at H
      have c4b0 : decide (a0 < 0) = false := decide_eq_false c4
      clear c4
      by_cases c5 : a0 ≥ (wrap64 (a1 - 1))
      · rw [if_pos c5] at H
        have c5b0 : decide ((wrap64 (a1 - 1)) ≤ a0) = true := decide_eq_true c5
        clear c5
        obtain rfl := Option.some.inj H
        go_enter Try.func18, Try.ntmps18
        go_wp2
        go_ret
        exact ⟨by first | rfl | (simp; done) | (simp [*]; done), by repeat (first | exact Drawn0.refl _ | apply Drawn0.step)⟩
      · rw [if_neg c5] at H
        have c5b0 : decide ((wrap64 (a1 - 1)) ≤ a0) = false := decide_eq_false c5
        clear c5
        obtain rfl := Option.some.inj H
        go_enter Try.func18, Try.ntmps18
        go_wp2
        go_ret
        exact ⟨by first | rfl | (simp; done) | (simp [*]; done), by repeat (first | exact Drawn0.refl _ | apply Drawn0.step)⟩

/-! ### treelinelaw06_awake: function 15 -/
def treelinelaw06_awake.f  : Option (Bool) := (hash_Next.f 3 4).bind fun t101 => (if t101 = 0 then ((hash_Way.f 3 1 4).bind fun t102 => (if t102 = 2 then ((hash_Next.f 1 4).bind fun t103 => (some (t103 == 2))) else (some false))) else (some false))
set_option maxHeartbeats 8000000 in
set_option maxRecDepth 100000 in
theorem treelinelaw06_awake.calls  (r : Bool) (w : World) (h : treelinelaw06_awake.f  = some r) :
    Calls Try.prog 15 #[] w fun e w' => e = .returned (.bool r) ∧ Drawn0 w w' := by
  have H : ((hash_Next.f 3 4).bind fun t101 => (if t101 = 0 then ((hash_Way.f 3 1 4).bind fun t102 => (if t102 = 2 then ((hash_Next.f 1 4).bind fun t103 => (some (t103 == 2))) else (some false))) else (some false))) = some r := h
  clear h
  replace H := Option.bind_eq_some_iff.mp H
  obtain ⟨t101, A10, H⟩ := H
  replace H : (if t101 = 0 then ((hash_Way.f 3 1 4).bind fun t102 => (if t102 = 2 then ((hash_Next.f 1 4).bind fun t103 => (some (t103 == 2))) else (some false))) else (some false)) = some r := H
  have A1 := Aside0.mk A10
  clear A10
  by_cases c2 : t101 = 0
  · rw [if_pos c2] at H
    have c2b0 : (t101 == 0) = true := beq_iff_eq.mpr c2
    have c2b1 : (t101 != 0) = false := bne_eq_false_iff_eq.mpr c2
    clear c2
    replace H := Option.bind_eq_some_iff.mp H
    obtain ⟨t102, A30, H⟩ := H
    replace H : (if t102 = 2 then ((hash_Next.f 1 4).bind fun t103 => (some (t103 == 2))) else (some false)) = some r := H
    have A3 := Aside0.mk A30
    clear A30
    by_cases c4 : t102 = 2
    · rw [if_pos c4] at H
      have c4b0 : (t102 == 2) = true := beq_iff_eq.mpr c4
      have c4b1 : (t102 != 2) = false := bne_eq_false_iff_eq.mpr c4
      clear c4
      replace H := Option.bind_eq_some_iff.mp H
      obtain ⟨t103, A50, H⟩ := H
      replace H : (some (t103 == 2)) = some r := H
      have A5 := Aside0.mk A50
      clear A50
      obtain rfl := Option.some.inj H
      go_enter Try.func15, Try.ntmps15
      go_wp2_with (first | ((with_reducible refine gate_callee (f := 18) rfl ?_); refine goesL_ (some 1) rfl rfl Try.func18 (by kernel_rfl) rfl #[.int .i64 3, .int .i64 4] rfl (by (try simp only [List.map_toArray, List.map_cons, List.map_nil]); first | done | rfl | (simp only [List.length_drop, List.length_take]; rfl)) ?_; (with_reducible refine (hash_Next.calls 3 4 t101 _ A1.out).mono ?_); rintro e w' ⟨rfl, ⟨nd, rfl⟩⟩; refine ⟨_, rfl, ?_⟩) | (go_at_call 17; (with_reducible refine (hash_Way.calls 3 1 4 t102 _ A3.out).mono ?_); rintro e w' ⟨rfl, ⟨nd, rfl⟩⟩) | (go_at_call 18; (with_reducible refine (hash_Next.calls 1 4 t103 _ A5.out).mono ?_); rintro e w' ⟨rfl, ⟨nd, rfl⟩⟩))
      go_ret
      exact ⟨by first | rfl | (simp; done) | (simp [*]; done), by repeat (first | exact Drawn0.refl _ | apply Drawn0.step)⟩
    · rw [if_neg c4] at H
      have c4b0 : (t102 == 2) = false := beq_eq_false_iff_ne.mpr c4
      have c4b1 : (t102 != 2) = true := bne_iff_ne.mpr c4
      obtain rfl := Option.some.inj H
      go_enter Try.func15, Try.ntmps15
      go_wp2_with (first | ((with_reducible refine gate_callee (f := 18) rfl ?_); refine goesL_ (some 1) rfl rfl Try.func18 (by kernel_rfl) rfl #[.int .i64 3, .int .i64 4] rfl (by (try simp only [List.map_toArray, List.map_cons, List.map_nil]); first | done | rfl | (simp only [List.length_drop, List.length_take]; rfl)) ?_; (with_reducible refine (hash_Next.calls 3 4 t101 _ A1.out).mono ?_); rintro e w' ⟨rfl, ⟨nd, rfl⟩⟩; refine ⟨_, rfl, ?_⟩) | (go_at_call 17; (with_reducible refine (hash_Way.calls 3 1 4 t102 _ A3.out).mono ?_); rintro e w' ⟨rfl, ⟨nd, rfl⟩⟩))
      go_ret
      exact ⟨by first | rfl | (simp; done) | (simp [*]; done), by repeat (first | exact Drawn0.refl _ | apply Drawn0.step)⟩
  · rw [if_neg c2] at H
    have c2b0 : (t101 == 0) = false := beq_eq_false_iff_ne.mpr c2
    have c2b1 : (t101 != 0) = true := bne_iff_ne.mpr c2
    obtain rfl := Option.some.inj H
    go_enter Try.func15, Try.ntmps15
    go_wp2_with (first | ((with_reducible refine gate_callee (f := 18) rfl ?_); refine goesL_ (some 1) rfl rfl Try.func18 (by kernel_rfl) rfl #[.int .i64 3, .int .i64 4] rfl (by (try simp only [List.map_toArray, List.map_cons, List.map_nil]); first | done | rfl | (simp only [List.length_drop, List.length_take]; rfl)) ?_; (with_reducible refine (hash_Next.calls 3 4 t101 _ A1.out).mono ?_); rintro e w' ⟨rfl, ⟨nd, rfl⟩⟩; refine ⟨_, rfl, ?_⟩))
    go_ret
    exact ⟨by first | rfl | (simp; done) | (simp [*]; done), by repeat (first | exact Drawn0.refl _ | apply Drawn0.step)⟩

-- NOT PRINTED: function 4 (treelinelaw06_HashRound)

end Go.Proofs.Ytfdjlempllmelaa.PHashRound
