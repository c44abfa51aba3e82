/- For all arguments the law TimerRests answers true: one that rests never fires, and stays at rest. -/
import Derived.Test.YtfdjlempllmelaaOTimerRestsx3
import Derived.Test.YtfdjlempllmelaaAr
namespace Go.Proofs.Ytfdjlempllmelaa.Pure
open Go.RowKit Go.Proofs.Ytfdjlempllmelaa.PTimerRests Go.Proofs.YtfdjlempllmelaaW.PrintWords Go.Proofs.YtfdjlempllmelaaW.PrintLast Go.Proofs.YtfdjlempllmelaaW.PrintMore Go.Proofs.Ytfdjlempllmelaa.Ar
set_option linter.unusedVariables false
set_option linter.unusedSimpArgs false
theorem mn_mx (a : Int) : mn (mx a 0) 1073741824 = if a < 0 then 0 else if a > 1073741824 then 1073741824 else a := by
  unfold mn mx
  by_cases h : a < 0
  · rw [if_pos h, if_pos h]; rfl
  · rw [if_neg h, if_neg h]
theorem tick_off (v : Int) : timer_Tick.f false v = some (false, v) := rfl
theorem tick_on {v : Int} (h : 0 ≤ v ∧ v ≤ 1073741824) : timer_Tick.f true v = some (true, if v + 256 > 1073741824 then 1073741824 else v + 256) := by
  unfold timer_Tick.f
  rw [if_pos rfl, w64 (by omega) (by omega)]
  rfl
theorem fire_off (v limit : Int) : timer_Fire.f false v limit = some (false, v, false) := rfl
theorem fire_on {v : Int} (h : 0 ≤ v ∧ v ≤ 1073741824) (limit : Int) : timer_Fire.f true v limit =
    some (if (if v + 256 > 1073741824 then 1073741824 else v + 256) ≥ limit then (false, 0, true) else (true, (if v + 256 > 1073741824 then 1073741824 else v + 256), false)) := by
  unfold timer_Fire.f
  rw [tick_on h]
  simp only [Option.bind_some, timer_Over.f, timer_Stop.f, if_true]
  by_cases c : (if v + 256 > 1073741824 then 1073741824 else v + 256) ≥ limit
  · rw [if_pos c, decide_eq_true c]; rfl
  · rw [if_neg c, decide_eq_false c]; rfl
theorem awake_eq : treelinelaw09_awake.f = some true := by decide +kernel
theorem rests (x0 x1 : Int) (h1 : 0 ≤ x1 ∧ x1 < 256) (d : Nat) : ∀ (k : Nat) (i : Int), 0 ≤ i → i + d = x1 → d < k → treelinelaw09_TimerRests.l0 k x0 x1 i false 0 = some true := by
  induction d with
  | zero =>
    intro k i h0 hd hk
    obtain ⟨k, rfl⟩ : ∃ m, k = m + 1 := ⟨k - 1, by omega⟩
    simp only [treelinelaw09_TimerRests.l0]
    rw [w64 (by omega) (by omega), if_neg (by omega)]
    rfl
  | succ d ih =>
    intro k i h0 hd hk
    obtain ⟨k, rfl⟩ : ∃ m, k = m + 1 := ⟨k - 1, by omega⟩
    simp only [treelinelaw09_TimerRests.l0, fire_off, tick_off, timer_Over.f, Option.bind_some]
    rw [w64 (by omega) (by omega), if_pos (by omega), w64 (by omega) (by omega)]
    simp only [Bool.false_eq_true, if_false, Option.bind_some, beq_self_eq_true, Bool.not_true, Bool.or_self]
    exact ih k (i + 1) (by omega) (by omega) (by omega)
theorem TimerRests : treelinelaw09_TimerRests.Pure := by
  intro a0 a1 _ h1
  replace h1 := wf_u8 h1
  refine ⟨a1.toNat + 2, ?_⟩
  unfold treelinelaw09_TimerRests.f
  rw [awake_eq]
  simp only [Option.bind_some, if_true, timer_Stop.f]
  exact rests a0 a1 h1 a1.toNat _ 0 (by omega) (by omega) (by omega)
end Go.Proofs.Ytfdjlempllmelaa.Pure
