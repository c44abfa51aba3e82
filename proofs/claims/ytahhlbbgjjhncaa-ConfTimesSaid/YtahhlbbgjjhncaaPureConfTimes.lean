/- For every configuration the law ConfTimes answers true: of times that may be a port that begins to listen forwards no sooner than what it could have heard is too old. -/
import Derived.Test.YtahhlbbgjjhncaaOConfTimesx1
import Derived.Test.YtahhlbbgjjhncaaAr
import Derived.Test.YtahhlbbgjjhncaaWalkConfTimes
import Derived.Test.YtahhlbbgjjhncaaShapeConfTimes
namespace Go.Proofs.Ytahhlbbgjjhncaa.Pure
open Go.RowKit Go.Proofs.Ytahhlbbgjjhncaa.PConfTimes Go.Proofs.YtahhlbbgjjhncaaW.PrintWords Go.Proofs.YtahhlbbgjjhncaaW.PrintLast Go.Proofs.YtahhlbbgjjhncaaW.PrintMore Go.Proofs.Ytahhlbbgjjhncaa.Ar
set_option linter.unusedVariables false
set_option linter.unusedSimpArgs false
def goodTimes (m h d : Int) : Bool := decide (6 ≤ m ∧ m ≤ 40 ∧ 1 ≤ h ∧ h ≤ 10 ∧ 4 ≤ d ∧ d ≤ 30 ∧ m ≤ 2 * (d - 1) ∧ 2 * (h + 1) ≤ m)
theorem within_eq (n lo hi : Int) : conf_within.f n lo hi = some (decide (lo ≤ n ∧ n ≤ hi)) := by
  unfold conf_within.f
  by_cases c : n ≥ lo
  · rw [if_pos c]; congr 1; rw [decide_eq_decide]; omega
  · rw [if_neg c, decide_eq_false (by omega)]
theorem times_eq (a0 a1 m h d a5 a6 : Int) (l : List S40) : conf_Times.f a0 a1 m h d a5 a6 l = some (goodTimes m h d) := by
  unfold conf_Times.f goodTimes
  simp only [within_eq, Option.bind_some, decide_eq_true_eq]
  by_cases c1 : 6 ≤ m ∧ m ≤ 40
  · rw [if_pos c1]
    by_cases c2 : 1 ≤ h ∧ h ≤ 10
    · rw [if_pos c2]
      by_cases c3 : 4 ≤ d ∧ d ≤ 30
      · rw [if_pos c3, w64 (x := d - 1) (by omega) (by omega), w64 (x := 2 * (d - 1)) (by omega) (by omega), w64 (x := h + 1) (by omega) (by omega), w64 (x := 2 * (h + 1)) (by omega) (by omega)]
        by_cases c4 : 2 * (d - 1) ≥ m
        · rw [if_pos c4]; congr 1; rw [decide_eq_decide]; omega
        · rw [if_neg c4, decide_eq_false (by omega)]
      · rw [if_neg c3, decide_eq_false (by omega)]
    · rw [if_neg c2, decide_eq_false (by omega)]
  · rw [if_neg c1, decide_eq_false (by omega)]
theorem awake_eq : treelinelaw11_awake.f = some true := by
  unfold treelinelaw11_awake.f
  simp only [times_eq, Option.bind_some]
  rfl
theorem ConfTimes (w : World) (a : Int × Int × Int × Int × Int × Int × Int × List S40) (wa : confTimes.wf27 a) {A : Option Addr} {c : Nat} (hr : Kd.C k40 w A a.2.2.2.2.2.2.2.length a.2.2.2.2.2.2.2) (hc : a.2.2.2.2.2.2.2.length ≤ c) :
    Calls Try.prog 3 #[.agg #[.int .u64 a.1, .int .u16 a.2.1, .int .i64 a.2.2.1, .int .i64 a.2.2.2.1, .int .i64 a.2.2.2.2.1, .int .i64 a.2.2.2.2.2.1, .int .i64 a.2.2.2.2.2.2.1, .slice A a.2.2.2.2.2.2.2.length c]] w
      fun e w' => e = .returned (.bool true) ∧ Below w.heap.size w w' := by
  obtain ⟨a0, a1, m, h, d, a5, a6, l⟩ := a
  by_cases g : goodTimes m h d = true
  · have g' := g
    unfold goodTimes at g'
    rw [decide_eq_true_eq] at g'
    refine confTimes_yes a0 a1 m h d a5 a6 A c l w (goodTimes m h (d + 1)) hr hc awake_eq (by rw [times_eq, g]) (times_eq _ _ _ _ _ _ _ _) (decide_eq_true (by omega)) (decide_eq_true (by omega)) ?_ (by omega) (by omega) (by omega)
    intro e
    unfold goodTimes at e
    rw [decide_eq_false_iff_not] at e
    omega
  · exact confTimes_no a0 a1 m h d a5 a6 A c l w hr hc awake_eq (by rw [times_eq, Bool.eq_false_iff.2 g])
end Go.Proofs.Ytahhlbbgjjhncaa.Pure
