/- What calls of the law ConfTimes, and of functions that the print does not take, come to: walked by hand. -/
import Derived.Test.YtahhlbbgjjhncaaOConfTimesx1
import Derived.Lib.Hide
namespace Go.Proofs.Ytahhlbbgjjhncaa.PConfTimes
open Go.RowKit Go.Proofs.YtahhlbbgjjhncaaW.PrintWords Go.Proofs.YtahhlbbgjjhncaaW.PrintLast Go.Proofs.YtahhlbbgjjhncaaW.PrintMore
attribute [local go_sem] max2_int min2_int max_two min_two max_three min_three max_four min_four
set_option linter.unusedVariables false
set_option linter.unusedSimpArgs false
theorem bcell {W w1 : World} (hb : Below W.heap.size W w1) : (∀ b o, b < W.heap.size → w1.cell? ⟨b, o, none⟩ = W.cell? ⟨b, o, none⟩) ∧ (∀ b o, b < W.heap.size → w1.frozen? ⟨b, o, none⟩ = W.frozen? ⟨b, o, none⟩) :=
  ⟨fun b o h => hb.cell (p := ⟨b, o, none⟩) h, fun b o h => hb.frozen (p := ⟨b, o, none⟩) h⟩
section
variable (a0 a1 m h d a5 a6 : Int) (A : Option Addr) (c : Nat) (l : List S40) (w : World)
set_option maxHeartbeats 1000000 in
set_option maxRecDepth 100000 in
theorem confTimes_no (hr : Kd.C k40 w A l.length l) (hc : l.length ≤ c) (ha : treelinelaw11_awake.f = some true)
    (hg : conf_Times.f a0 a1 m h d a5 a6 l = some false) :
    Calls Try.prog 3 #[.agg #[.int .u64 a0, .int .u16 a1, .int .i64 m, .int .i64 h, .int .i64 d, .int .i64 a5, .int .i64 a6, .slice A l.length c]] w fun e w' => e = .returned (.bool true) ∧ Below w.heap.size w w' := by
  have HR := Lib.hid hr
  have HG := Lib.hid hg
  clear hr hg
  go_enter Try.func3, Try.ntmps3
  go_wp2_with fail
  refine (treelinelaw11_awake.calls true _ ha).mono ?_
  rintro e w1 ⟨rfl, hb1⟩
  obtain ⟨hc1, hf1⟩ := bcell hb1
  have B1 := Lib.hid (below_step (below_alloc (Below.refl w.heap.size w) _) hb1)
  go_wp2_with fail
  refine (conf_Times.calls a0 a1 m h d a5 a6 A c l false _ (Kd.C_below HR.out B1.out) hc HG.out).mono ?_
  rintro e w2 ⟨rfl, hb2⟩
  go_wp2_with fail
  go_ret
  exact ⟨rfl, below_step B1.out hb2⟩
set_option maxHeartbeats 1000000 in
set_option maxRecDepth 100000 in
theorem confTimes_yes (x : Bool) (hr : Kd.C k40 w A l.length l) (hc : l.length ≤ c) (ha : treelinelaw11_awake.f = some true)
    (hg : conf_Times.f a0 a1 m h d a5 a6 l = some true) (hx : conf_Times.f a0 a1 m h (d + 1) a5 a6 l = some x) (h1 : decide (m < 2 * d) = true) (h2 : decide (2 * h < m) = true) (h3 : x = false → 30 < d + 1)
    (hm : 0 ≤ m ∧ m ≤ 100) (hh : 0 ≤ h ∧ h ≤ 100) (hd : 0 ≤ d ∧ d ≤ 100) :
    Calls Try.prog 3 #[.agg #[.int .u64 a0, .int .u16 a1, .int .i64 m, .int .i64 h, .int .i64 d, .int .i64 a5, .int .i64 a6, .slice A l.length c]] w fun e w' => e = .returned (.bool true) ∧ Below w.heap.size w w' := by
  have HR := Lib.hid hr
  have HG := Lib.hid hg
  have HX := Lib.hid hx
  obtain ⟨hm0, hm1⟩ := hm
  obtain ⟨hh0, hh1⟩ := hh
  obtain ⟨hd0, hd1⟩ := hd
  clear hr hg hx
  go_enter Try.func3, Try.ntmps3
  go_wp2_with fail
  refine (treelinelaw11_awake.calls true _ ha).mono ?_
  rintro e w1 ⟨rfl, hb1⟩
  obtain ⟨hc1, hf1⟩ := bcell hb1
  have B1 := Lib.hid (below_step (below_alloc (Below.refl w.heap.size w) _) hb1)
  have hs1 : w.heap.size < w1.heap.size := by have := hb1.size; simp at this; omega
  go_wp2_with fail
  refine (conf_Times.calls a0 a1 m h d a5 a6 A c l true _ (Kd.C_below HR.out B1.out) hc HG.out).mono ?_
  rintro e w2 ⟨rfl, hb2⟩
  obtain ⟨hc2, hf2⟩ := bcell hb2
  have B2 := Lib.hid (below_step B1.out hb2)
  have hs2 : w.heap.size < w2.heap.size := by have := hb2.size; omega
  go_wp2_with fail
  refine (conf_Times.calls a0 a1 m h (d + 1) a5 a6 A c l x _ (Kd.C_below HR.out (below_alloc B2.out _)) hc HX.out).mono ?_
  rintro e w3 ⟨rfl, hb3⟩
  obtain ⟨hc3, hf3⟩ := bcell hb3
  have B3 := Lib.hid (below_step (below_alloc B2.out _) hb3)
  cases x with
  | true =>
    go_wp2_with fail
    go_ret
    exact ⟨rfl, B3.out⟩
  | false =>
    have h4 : decide (30 < d + 1) = true := decide_eq_true (h3 rfl)
    go_wp2_with fail
    go_ret
    exact ⟨by simp [h4], B3.out⟩
end
end Go.Proofs.Ytahhlbbgjjhncaa.PConfTimes
