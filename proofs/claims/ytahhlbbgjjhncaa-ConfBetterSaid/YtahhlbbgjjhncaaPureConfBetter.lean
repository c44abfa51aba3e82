/- For all two configurations the law ConfBetter answers true: of two bridges that with the lesser priority has the lesser number, whatever their addresses; of one priority that with the lesser address. -/
import Derived.Test.YtahhlbbgjjhncaaOConfBetterx1
import Derived.Test.YtahhlbbgjjhncaaAr
import Derived.Test.YtahhlbbgjjhncaaWalkConfBetter
import Derived.Test.YtahhlbbgjjhncaaShapeConfBetter
namespace Go.Proofs.Ytahhlbbgjjhncaa.Pure
open Go.RowKit Go.Proofs.Ytahhlbbgjjhncaa.PConfBetter Go.Proofs.YtahhlbbgjjhncaaW.PrintWords Go.Proofs.YtahhlbbgjjhncaaW.PrintLast Go.Proofs.YtahhlbbgjjhncaaW.PrintMore Go.Proofs.Ytahhlbbgjjhncaa.Ar
set_option linter.unusedVariables false
set_option linter.unusedSimpArgs false
def goodTimes (m h d : Int) : Bool := decide (6 ≤ m ∧ m ≤ 40 ∧ 1 ≤ h ∧ h ≤ 10 ∧ 4 ≤ d ∧ d ≤ 30 ∧ m ≤ 2 * (d - 1) ∧ 2 * (h + 1) ≤ m)
theorem within_eq (n lo hi : Int) : conf_within.f n lo hi = some (decide (lo ≤ n ∧ n ≤ hi)) := by
  unfold conf_within.f
  by_cases c : n ≥ lo
  · rw [if_pos c]; congr 1; rw [decide_eq_decide]; omega
  · rw [if_neg c, decide_eq_false (by omega)]
theorem times_eq (a0 a1 m h d a5 a6 : Int) (l : List S40) : conf_Times.f a0 a1 m h d a5 a6 l = some (goodTimes m h d) := by
  unfold conf_Times.f goodTimes
  simp only [within_eq, Option.bind_some, decide_eq_true_eq]
  by_cases c1 : 6 ≤ m ∧ m ≤ 40
  · rw [if_pos c1]
    by_cases c2 : 1 ≤ h ∧ h ≤ 10
    · rw [if_pos c2]
      by_cases c3 : 4 ≤ d ∧ d ≤ 30
      · rw [if_pos c3, w64 (x := d - 1) (by omega) (by omega), w64 (x := 2 * (d - 1)) (by omega) (by omega), w64 (x := h + 1) (by omega) (by omega), w64 (x := 2 * (h + 1)) (by omega) (by omega)]
        by_cases c4 : 2 * (d - 1) ≥ m
        · rw [if_pos c4]; congr 1; rw [decide_eq_decide]; omega
        · rw [if_neg c4, decide_eq_false (by omega)]
      · rw [if_neg c3, decide_eq_false (by omega)]
    · rw [if_neg c2, decide_eq_false (by omega)]
  · rw [if_neg c1, decide_eq_false (by omega)]
theorem awake_eq : treelinelaw11_awake.f = some true := by
  unfold treelinelaw11_awake.f
  simp only [times_eq, Option.bind_some]
  rfl
theorem bridge_eq {p a : Int} (hp : 0 ≤ p ∧ p < 65536) (ha : 0 ≤ a ∧ a < 18446744073709551616) : ids_Bridge.f p a = some (p * 281474976710656 + a % 281474976710656) := by
  unfold ids_Bridge.f
  rw [mask_u64 48 (by decide) ha.1 ha.2 (m := 281474976710655) (r := 281474976710656) (by decide) (by decide), wu64 hp.1 (by omega), wu64 (by omega) (by omega),
    join_u64 48 (r := 281474976710656) (by decide) (by omega) (by omega) (by omega) (by omega) (by omega) (by omega)]
theorem id_of {a0 a1 a2 a3 a4 a5 a6 : Int} {l : List S40} (h0 : 0 ≤ a0 ∧ a0 < 18446744073709551616) (h1 : 0 ≤ a1 ∧ a1 < 65536) : conf_Id.f (a0 % 281474976710656) a1 a2 a3 a4 a5 a6 l = some (a1 * 281474976710656 + a0 % 281474976710656) := by
  unfold conf_Id.f
  rw [bridge_eq h1 (by omega)]
  simp only [Option.bind_some]
  congr 1; omega
theorem ConfBetter (w : World) (a b : Int × Int × Int × Int × Int × Int × Int × List S40) (wa : confBetter.wf27 a) (wb : confBetter.wf27 b) {A B : Option Addr} {c d : Nat}
    (hr : Kd.C k40 w A a.2.2.2.2.2.2.2.length a.2.2.2.2.2.2.2) (hc : a.2.2.2.2.2.2.2.length ≤ c) (hr' : Kd.C k40 w B b.2.2.2.2.2.2.2.length b.2.2.2.2.2.2.2) (hc' : b.2.2.2.2.2.2.2.length ≤ d) :
    Calls Try.prog 4 #[.agg #[.int .u64 a.1, .int .u16 a.2.1, .int .i64 a.2.2.1, .int .i64 a.2.2.2.1, .int .i64 a.2.2.2.2.1, .int .i64 a.2.2.2.2.2.1, .int .i64 a.2.2.2.2.2.2.1, .slice A a.2.2.2.2.2.2.2.length c],
      .agg #[.int .u64 b.1, .int .u16 b.2.1, .int .i64 b.2.2.1, .int .i64 b.2.2.2.1, .int .i64 b.2.2.2.2.1, .int .i64 b.2.2.2.2.2.1, .int .i64 b.2.2.2.2.2.2.1, .slice B b.2.2.2.2.2.2.2.length d]] w
      fun e w' => e = .returned (.bool true) ∧ Below w.heap.size w w' := by
  obtain ⟨a0, a1, a2, a3, a4, a5, a6, l⟩ := a
  obtain ⟨b0, b1, b2, b3, b4, b5, b6, k⟩ := b
  obtain ⟨p0, p1, -⟩ := wa
  obtain ⟨q0, q1, -⟩ := wb
  replace p0 := wf_u64 p0
  replace p1 := wf_u16 p1
  replace q0 := wf_u64 q0
  replace q1 := wf_u16 q1
  by_cases e : a1 = b1
  · refine better_eq a0 a1 a2 a3 a4 a5 a6 b0 b1 b2 b3 b4 b5 b6 A B c d l k w _ _ hr hc hr' hc' awake_eq (id_of p0 p1) (id_of q0 q1) (bne_eq_false_iff_eq.2 e) ?_ p0.1 q0.1
    rw [beq_iff_eq, decide_eq_decide]; omega
  · refine better_ne a0 a1 a2 a3 a4 a5 a6 b0 b1 b2 b3 b4 b5 b6 A B c d l k w _ _ hr hc hr' hc' awake_eq (id_of p0 p1) (id_of q0 q1) (bne_iff_ne.2 e) ?_ p0.1 q0.1
    rw [beq_iff_eq, decide_eq_decide]; omega
end Go.Proofs.Ytahhlbbgjjhncaa.Pure
