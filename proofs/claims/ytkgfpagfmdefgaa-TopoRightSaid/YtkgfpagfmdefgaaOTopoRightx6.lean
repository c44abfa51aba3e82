/- What Go functions that the law TopoRight uses come to, and why: part 6. Made out of the kit's print by a program of this session (wip/tools/stub.py, splice.py), functions that it does not take told by hand. -/
import Derived.Test.YtkgfpagfmdefgaaOTopoRightx5
namespace Go.Proofs.Ytkgfpagfmdefgaa.OTopoRight
open Go.RowKit Go.Proofs.YtkgfpagfmdefgaaW.PrintWords Go.Proofs.YtkgfpagfmdefgaaW.PrintLast Go.Proofs.YtkgfpagfmdefgaaW.PrintMore
attribute [local go_sem] max2_int min2_int max_two min_two max_three min_three max_four min_four   -- for this text's walks alone
set_option linter.unusedVariables false
set_option linter.unusedSimpArgs false

/-! ### topo_is: function 24 -/
def topo_is.f (l0 : List (List Bool)) (a1 : Int) (a2 : Int) : Option (Bool) := if a1 < (l0.length : Int) then (if 0 ≤ a1 then (if a2 < ((rd_L11 l0 a1).length : Int) then (if 0 ≤ a2 then (some (rdOf false (rd_L11 l0 a1) a2)) else (none)) else (some false)) else (none)) else (some false)
set_option maxHeartbeats 8000000 in
set_option maxRecDepth 100000 in
theorem topo_is.calls (A0 : Option Addr) (c0 : Nat) (l0 : List (List Bool)) (a1 : Int) (a2 : Int) (r : Bool) (w : World) (hr0 : Kd.C (Kd.slice 4 Kd.bool) w A0 l0.length l0) (hc0 : l0.length ≤ c0) (h : topo_is.f l0 a1 a2 = some r) :
  Calls Try.prog 24 #[.slice A0 l0.length c0, .int .i64 a1, .int .i64 a2] w fun e w' => e = .returned (.bool r) ∧ Drawn0 w w' := by
 have HR0 := Aside0.mk hr0
 have HC0 := Aside0.mk hc0
 clear hr0 hc0
 have H : (if a1 < (l0.length : Int) then (if 0 ≤ a1 then (if a2 < ((rd_L11 l0 a1).length : Int) then (if 0 ≤ a2 then (some (rdOf false (rd_L11 l0 a1) a2)) else (none)) else (some false)) else (none)) else (some false)) = some r := h
 clear h
 by_cases c4 : a1 < (l0.length : Int)
 rotate_left
 ·rw [if_neg c4] at H
  have c4b0 : decide (a1 < (l0.length : Int)) = false := decide_eq_false c4
  clear c4
  obtain rfl := Option.some.inj H
  go_enter Try.func24, Try.ntmps24
  go_wp2
  go_ret
  exact ⟨by first | rfl | (simp; done) | (simp [*]; done), by repeat (first | exact Drawn0.refl _ | apply Drawn0.step)⟩
 rw [if_pos c4] at H
 have c4b0 : decide (a1 < (l0.length : Int)) = true := decide_eq_true c4
 clear c4
 by_cases c5 : 0 ≤ a1
 rotate_left
 ·rw [if_neg c5] at H
  exact absurd H (by simp)
 rw [if_pos c5] at H
 have c5b0 : decide (0 ≤ a1) = true := decide_eq_true c5
 clear c5
 by_cases c6 : a2 < ((rd_L11 l0 a1).length : Int)
 rotate_left
 ·rw [if_neg c6] at H
  have c6b0 : decide (a2 < ((rd_L11 l0 a1).length : Int)) = false := decide_eq_false c6
  clear c6
  obtain rfl := Option.some.inj H
  have p134 : 0 ≤ (a1 : Int) := of_decide_eq_true (by first | (with_reducible assumption) | assumption)
  have q134 : a1 < (l0.length : Int) := of_decide_eq_true (by first | (with_reducible assumption) | assumption)
  obtain ⟨ad134, A134_0, c134_0, e134, hx134_0, hl134_0, hi134_0⟩ := at_L11 HR0.out a1 p134 q134
  cases e134
  have HR134_0 := Aside0.mk hi134_0
  have HC134_0 := Aside0.mk hl134_0
  clear hi134_0 hl134_0
  replace p134 := eq_true p134
  replace q134 := eq_true q134
  go_enter Try.func24, Try.ntmps24
  go_wp2
  go_ret
  exact ⟨by first | rfl | (simp; done) | (simp [*]; done), by repeat (first | exact Drawn0.refl _ | apply Drawn0.step)⟩
 rw [if_pos c6] at H
 have c6b0 : decide (a2 < ((rd_L11 l0 a1).length : Int)) = true := decide_eq_true c6
 clear c6
 by_cases c7 : 0 ≤ a2
 rotate_left
 ·rw [if_neg c7] at H
  exact absurd H (by simp)
 rw [if_pos c7] at H
 have c7b0 : decide (0 ≤ a2) = true := decide_eq_true c7
 clear c7
 obtain rfl := Option.some.inj H
 have p134 : 0 ≤ (a1 : Int) := of_decide_eq_true (by first | (with_reducible assumption) | assumption)
 have q134 : a1 < (l0.length : Int) := of_decide_eq_true (by first | (with_reducible assumption) | assumption)
 obtain ⟨ad134, A134_0, c134_0, e134, hx134_0, hl134_0, hi134_0⟩ := at_L11 HR0.out a1 p134 q134
 cases e134
 have HR134_0 := Aside0.mk hi134_0
 have HC134_0 := Aside0.mk hl134_0
 clear hi134_0 hl134_0
 replace p134 := eq_true p134
 replace q134 := eq_true q134
 have p135 : 0 ≤ (a1 : Int) := of_decide_eq_true (by first | (with_reducible assumption) | assumption)
 have q135 : a1 < (l0.length : Int) := of_decide_eq_true (by first | (with_reducible assumption) | assumption)
 obtain ⟨ad135, A135_0, c135_0, e135, hx135_0, hl135_0, hi135_0⟩ := at_L11 HR0.out a1 p135 q135
 obtain rfl : ad134 = ad135 := (by injection e135)
 have HR135_0 := Aside0.mk hi135_0
 have HC135_0 := Aside0.mk hl135_0
 clear hi135_0 hl135_0
 replace p135 := eq_true p135
 replace q135 := eq_true q135
 have ea_ := Option.some.inj (hx134_0.symm.trans hx135_0)
 injection ea_ with ea_ en_ ec_
 subst ea_
 subst ec_
 clear en_
 have p136 : 0 ≤ (a2 : Int) := of_decide_eq_true (by first | (with_reducible assumption) | assumption)
 have q136 : a2 < ((rd_L11 l0 a1).length : Int) := of_decide_eq_true (by first | (with_reducible assumption) | assumption)
 obtain ⟨ad136, e136, hx136_0⟩ := Kd.at_bool HR135_0.out a2 p136 q136
 cases e136
 replace p136 := eq_true p136
 replace q136 := eq_true q136
 go_enter Try.func24, Try.ntmps24
 go_wp2
 go_ret
 exact ⟨by first | rfl | (simp; done) | (simp [*]; done), by repeat (first | exact Drawn0.refl _ | apply Drawn0.step)⟩
end Go.Proofs.Ytkgfpagfmdefgaa.OTopoRight
