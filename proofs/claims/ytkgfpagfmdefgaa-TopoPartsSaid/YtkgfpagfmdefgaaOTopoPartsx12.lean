/- What Go functions that the law TopoParts uses come to, and why: part 12. Made out of the kit's print by a program of this session (wip/tools/stub.py, splice.py), functions that it does not take told by hand. -/
import Derived.Test.YtkgfpagfmdefgaaOTopoPartsx11
namespace Go.Proofs.Ytkgfpagfmdefgaa.OTopoParts
open Go.RowKit Go.Proofs.YtkgfpagfmdefgaaW.PrintWords Go.Proofs.YtkgfpagfmdefgaaW.PrintLast Go.Proofs.YtkgfpagfmdefgaaW.PrintMore
attribute [local go_sem] max2_int min2_int max_two min_two max_three min_three max_four min_four   -- for this text's walks alone
set_option linter.unusedVariables false
set_option linter.unusedSimpArgs false

/-! ### treelineref20_On: function 14 -/
def treelineref20_On.f (l0 : List (List Bool)) (a1 : Int) (a2 : Int) : Option (Bool) := if a1 < (l0.length : Int) then (if 0 ≤ a1 then (if a2 < ((rd_L11 l0 a1).length : Int) then (if 0 ≤ a2 then (some (rdOf false (rd_L11 l0 a1) a2)) else (none)) else (some false)) else (none)) else (some false)
set_option maxHeartbeats 8000000 in
set_option maxRecDepth 100000 in
theorem treelineref20_On.calls (A0 : Option Addr) (c0 : Nat) (l0 : List (List Bool)) (a1 : Int) (a2 : Int) (r : Bool) (w : World) (hr0 : Kd.C (Kd.slice 4 Kd.bool) w A0 l0.length l0) (hc0 : l0.length ≤ c0) (h : treelineref20_On.f l0 a1 a2 = some r) :
  Calls Try.prog 14 #[.slice A0 l0.length c0, .int .i64 a1, .int .i64 a2] w fun e w' => e = .returned (.bool r) ∧ Drawn0 w w' := by
 have HR0 := Aside0.mk hr0
 have HC0 := Aside0.mk hc0
 clear hr0 hc0
 have H : (if a1 < (l0.length : Int) then (if 0 ≤ a1 then (if a2 < ((rd_L11 l0 a1).length : Int) then (if 0 ≤ a2 then (some (rdOf false (rd_L11 l0 a1) a2)) else (none)) else (some false)) else (none)) else (some false)) = some r := h
 clear h
 by_cases c4 : a1 < (l0.length : Int)
 rotate_left
 ·rw [if_neg c4] at H
  have c4b0 : decide (a1 < (l0.length : Int)) = false := decide_eq_false c4
  clear c4
  obtain rfl := Option.some.inj H
  go_enter Try.func14, Try.ntmps14
  go_wp2
  go_ret
  exact ⟨by first | rfl | (simp; done) | (simp [*]; done), by repeat (first | exact Drawn0.refl _ | apply Drawn0.step)⟩
 rw [if_pos c4] at H
 have c4b0 : decide (a1 < (l0.length : Int)) = true := decide_eq_true c4
 clear c4
 by_cases c5 : 0 ≤ a1
 rotate_left
 ·rw [if_neg c5] at H
  exact absurd H (by simp)
 rw [if_pos c5] at H
 have c5b0 : decide (0 ≤ a1) = true := decide_eq_true c5
 clear c5
 by_cases c6 : a2 < ((rd_L11 l0 a1).length : Int)
 rotate_left
 ·rw [if_neg c6] at H
  have c6b0 : decide (a2 < ((rd_L11 l0 a1).length : Int)) = false := decide_eq_false c6
  clear c6
  obtain rfl := Option.some.inj H
  have p202 : 0 ≤ (a1 : Int) := of_decide_eq_true (by first | (with_reducible assumption) | assumption)
  have q202 : a1 < (l0.length : Int) := of_decide_eq_true (by first | (with_reducible assumption) | assumption)
  obtain ⟨ad202, A202_0, c202_0, e202, hx202_0, hl202_0, hi202_0⟩ := at_L11 HR0.out a1 p202 q202
  cases e202
  have HR202_0 := Aside0.mk hi202_0
  have HC202_0 := Aside0.mk hl202_0
  clear hi202_0 hl202_0
  replace p202 := eq_true p202
  replace q202 := eq_true q202
  go_enter Try.func14, Try.ntmps14
  go_wp2
  go_ret
  exact ⟨by first | rfl | (simp; done) | (simp [*]; done), by repeat (first | exact Drawn0.refl _ | apply Drawn0.step)⟩
 rw [if_pos c6] at H
 have c6b0 : decide (a2 < ((rd_L11 l0 a1).length : Int)) = true := decide_eq_true c6
 clear c6
 by_cases c7 : 0 ≤ a2
 rotate_left
 ·rw [if_neg c7] at H
  exact absurd H (by simp)
 rw [if_pos c7] at H
 have c7b0 : decide (0 ≤ a2) = true := decide_eq_true c7
 clear c7
 obtain rfl := Option.some.inj H
 have p202 : 0 ≤ (a1 : Int) := of_decide_eq_true (by first | (with_reducible assumption) | assumption)
 have q202 : a1 < (l0.length : Int) := of_decide_eq_true (by first | (with_reducible assumption) | assumption)
 obtain ⟨ad202, A202_0, c202_0, e202, hx202_0, hl202_0, hi202_0⟩ := at_L11 HR0.out a1 p202 q202
 cases e202
 have HR202_0 := Aside0.mk hi202_0
 have HC202_0 := Aside0.mk hl202_0
 clear hi202_0 hl202_0
 replace p202 := eq_true p202
 replace q202 := eq_true q202
 have p203 : 0 ≤ (a1 : Int) := of_decide_eq_true (by first | (with_reducible assumption) | assumption)
 have q203 : a1 < (l0.length : Int) := of_decide_eq_true (by first | (with_reducible assumption) | assumption)
 obtain ⟨ad203, A203_0, c203_0, e203, hx203_0, hl203_0, hi203_0⟩ := at_L11 HR0.out a1 p203 q203
 obtain rfl : ad202 = ad203 := (by injection e203)
 have HR203_0 := Aside0.mk hi203_0
 have HC203_0 := Aside0.mk hl203_0
 clear hi203_0 hl203_0
 replace p203 := eq_true p203
 replace q203 := eq_true q203
 have ea_ := Option.some.inj (hx202_0.symm.trans hx203_0)
 injection ea_ with ea_ en_ ec_
 subst ea_
 subst ec_
 clear en_
 have p204 : 0 ≤ (a2 : Int) := of_decide_eq_true (by first | (with_reducible assumption) | assumption)
 have q204 : a2 < ((rd_L11 l0 a1).length : Int) := of_decide_eq_true (by first | (with_reducible assumption) | assumption)
 obtain ⟨ad204, e204, hx204_0⟩ := Kd.at_bool HR203_0.out a2 p204 q204
 cases e204
 replace p204 := eq_true p204
 replace q204 := eq_true q204
 go_enter Try.func14, Try.ntmps14
 go_wp2
 go_ret
 exact ⟨by first | rfl | (simp; done) | (simp [*]; done), by repeat (first | exact Drawn0.refl _ | apply Drawn0.step)⟩
end Go.Proofs.Ytkgfpagfmdefgaa.OTopoParts
