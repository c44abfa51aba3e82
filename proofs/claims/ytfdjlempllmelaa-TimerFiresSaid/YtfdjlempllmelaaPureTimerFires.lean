/- For every limit the law TimerFires answers true: one that was started anew fires behind as many ticks as its limit has begun seconds, one at least. -/
import Derived.Test.YtfdjlempllmelaaOTimerFiresx3
import Derived.Test.YtfdjlempllmelaaAr
namespace Go.Proofs.Ytfdjlempllmelaa.Pure
open Go.RowKit Go.Proofs.Ytfdjlempllmelaa.PTimerFires Go.Proofs.YtfdjlempllmelaaW.PrintWords Go.Proofs.YtfdjlempllmelaaW.PrintLast Go.Proofs.YtfdjlempllmelaaW.PrintMore Go.Proofs.Ytfdjlempllmelaa.Ar
set_option linter.unusedVariables false
set_option linter.unusedSimpArgs false
theorem mn_mx (a : Int) : mn (mx a 0) 1073741824 = if a < 0 then 0 else if a > 1073741824 then 1073741824 else a := by
  unfold mn mx
  by_cases h : a < 0
  · rw [if_pos h, if_pos h]; rfl
  · rw [if_neg h, if_neg h]
theorem tick_off (v : Int) : timer_Tick.f false v = some (false, v) := rfl
theorem tick_on {v : Int} (h : 0 ≤ v ∧ v ≤ 1073741824) : timer_Tick.f true v = some (true, if v + 256 > 1073741824 then 1073741824 else v + 256) := by
  unfold timer_Tick.f
  rw [if_pos rfl, w64 (by omega) (by omega)]
  rfl
theorem fire_off (v limit : Int) : timer_Fire.f false v limit = some (false, v, false) := rfl
theorem fire_on {v : Int} (h : 0 ≤ v ∧ v ≤ 1073741824) (limit : Int) : timer_Fire.f true v limit =
    some (if (if v + 256 > 1073741824 then 1073741824 else v + 256) ≥ limit then (false, 0, true) else (true, (if v + 256 > 1073741824 then 1073741824 else v + 256), false)) := by
  unfold timer_Fire.f
  rw [tick_on h]
  simp only [Option.bind_some, timer_Over.f, timer_Stop.f, if_true]
  by_cases c : (if v + 256 > 1073741824 then 1073741824 else v + 256) ≥ limit
  · rw [if_pos c, decide_eq_true c]; rfl
  · rw [if_neg c, decide_eq_false c]; rfl
theorem awake_eq : treelinelaw09_awake.f = some true := by decide +kernel
theorem fires (limit : Int) (hl : 0 ≤ limit ∧ limit < 65536) (N : Int) (hN : N = mx ((limit + 255) / 256) 1) (d : Nat) : ∀ (k : Nat) (j : Int), 0 ≤ j → j + 1 + d = N → d + 3 < k →
    treelinelaw09_TimerFires.l0 k limit j false true (256 * j) = some true := by
  have hN' : N = (if (limit + 255) / 256 < 1 then 1 else (limit + 255) / 256) := hN
  have hw : wrap64 limit = limit := w64 (by omega) (by omega)
  have hm : mx (wrap64 (Int.tdiv (wrap64 (limit + 255)) 256)) 1 = N := by rw [w64 (x := limit + 255) (by omega) (by omega), tdiv_nn (by omega), w64 (by omega) (by omega), hN]
  have hN2 : 1 ≤ N ∧ N ≤ 256 := by rw [hN']; split <;> omega
  induction d with
  | zero =>
    intro k j h0 hd hk
    obtain ⟨k, rfl⟩ : ∃ m, k = m + 2 := ⟨k - 2, by omega⟩
    simp only [treelinelaw09_TimerFires.l0]
    rw [if_pos (by omega), if_neg (by decide), hw, fire_on (by omega), hm]
    have g : 256 * j + 256 ≥ limit := by
      rw [hN'] at hd
      split at hd <;> omega
    simp only [Option.bind_some]
    rw [if_neg (c := 256 * j + 256 > 1073741824) (by omega), if_pos g, w64 (by omega) (by omega)]
    simp only [fire_off, Option.bind_some, if_true]
    rw [if_pos (by omega), if_pos (by omega)]
    rfl
  | succ d ih =>
    intro k j h0 hd hk
    obtain ⟨k, rfl⟩ : ∃ m, k = m + 1 := ⟨k - 1, by omega⟩
    simp only [treelinelaw09_TimerFires.l0]
    rw [if_pos (by omega), if_neg (by decide), hw, fire_on (by omega)]
    have g : ¬ 256 * j + 256 ≥ limit := by
      rw [hN'] at hd
      split at hd <;> omega
    simp only [Option.bind_some]
    rw [if_neg (c := 256 * j + 256 > 1073741824) (by omega), if_neg g, w64 (by omega) (by omega)]
    rw [show 256 * j + 256 = 256 * (j + 1) from by omega]
    exact ih k (j + 1) (by omega) (by omega) (by omega)
theorem TimerFires : treelinelaw09_TimerFires.Pure := by
  intro limit hl
  replace hl := wf_u16 hl
  refine ⟨300, ?_⟩
  unfold treelinelaw09_TimerFires.f
  rw [awake_eq]
  simp only [Option.bind_some, if_true, timer_Start.f]
  obtain ⟨N, hN⟩ : ∃ N, N = mx ((limit + 255) / 256) 1 := ⟨_, rfl⟩
  have hN' : N = (if (limit + 255) / 256 < 1 then 1 else (limit + 255) / 256) := hN
  have hN2 : 1 ≤ N ∧ N ≤ 256 := by rw [hN']; split <;> omega
  exact fires limit hl N hN (N - 1).toNat 300 0 (by omega) (by omega) (by omega)
end Go.Proofs.Ytfdjlempllmelaa.Pure
