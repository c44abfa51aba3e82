/- For all arguments the law TimerLater answers true: the longer one has run the sooner it fires; the longer its limit the later. -/
import Derived.Test.YtfdjlempllmelaaOTimerLaterx1
import Derived.Test.YtfdjlempllmelaaAr
namespace Go.Proofs.Ytfdjlempllmelaa.Pure
open Go.RowKit Go.Proofs.Ytfdjlempllmelaa.PTimerLater Go.Proofs.YtfdjlempllmelaaW.PrintWords Go.Proofs.YtfdjlempllmelaaW.PrintLast Go.Proofs.YtfdjlempllmelaaW.PrintMore Go.Proofs.Ytfdjlempllmelaa.Ar
set_option linter.unusedVariables false
set_option linter.unusedSimpArgs false
theorem mn_mx (a : Int) : mn (mx a 0) 1073741824 = if a < 0 then 0 else if a > 1073741824 then 1073741824 else a := by
  unfold mn mx
  by_cases h : a < 0
  · rw [if_pos h, if_pos h]; rfl
  · rw [if_neg h, if_neg h]
theorem tick_off (v : Int) : timer_Tick.f false v = some (false, v) := rfl
theorem tick_on {v : Int} (h : 0 ≤ v ∧ v ≤ 1073741824) : timer_Tick.f true v = some (true, if v + 256 > 1073741824 then 1073741824 else v + 256) := by
  unfold timer_Tick.f
  rw [if_pos rfl, w64 (by omega) (by omega)]
  rfl
theorem fire_off (v limit : Int) : timer_Fire.f false v limit = some (false, v, false) := rfl
theorem fire_on {v : Int} (h : 0 ≤ v ∧ v ≤ 1073741824) (limit : Int) : timer_Fire.f true v limit =
    some (if (if v + 256 > 1073741824 then 1073741824 else v + 256) ≥ limit then (false, 0, true) else (true, (if v + 256 > 1073741824 then 1073741824 else v + 256), false)) := by
  unfold timer_Fire.f
  rw [tick_on h]
  simp only [Option.bind_some, timer_Over.f, timer_Stop.f, if_true]
  by_cases c : (if v + 256 > 1073741824 then 1073741824 else v + 256) ≥ limit
  · rw [if_pos c, decide_eq_true c]; rfl
  · rw [if_neg c, decide_eq_false c]; rfl
theorem awake_eq : treelinelaw09_awake.f = some true := by decide +kernel
theorem TimerLater : treelinelaw09_TimerLater.Pure := by
  intro a b limit more ha hb hl hm
  replace ha := wf_u16 ha
  replace hb := wf_u16 hb
  replace hl := wf_u16 hl
  replace hm := wf_u16 hm
  unfold treelinelaw09_TimerLater.f
  have e1 : mn a b = if b < a then b else a := rfl
  have e2 : mx a b = if a < b then b else a := rfl
  have r1 : 0 ≤ mn a b ∧ mn a b < 65536 := by rw [e1]; split <;> omega
  have r2 : 0 ≤ mx a b ∧ mx a b < 65536 := by rw [e2]; split <;> omega
  have le : mn a b ≤ mx a b := by rw [e1, e2]; split <;> split <;> omega
  clear e1 e2
  generalize mn a b = x at *
  generalize mx a b = y at *
  rw [awake_eq, w64 (x := x) (by omega) (by omega), w64 (x := y) (by omega) (by omega), w64 (x := limit) (by omega) (by omega), w64 (x := more) (by omega) (by omega), w64 (x := limit + more) (by omega) (by omega)]
  simp only [Option.bind_some, if_true, timer_Start.f, mn_mx]
  rw [if_neg (by omega), if_neg (by omega), if_neg (by omega), if_neg (by omega), fire_on (by omega), fire_on (by omega), fire_on (by omega)]
  simp only [Option.bind_some]
  rw [if_neg (c := x + 256 > 1073741824) (by omega), if_neg (c := y + 256 > 1073741824) (by omega)]
  by_cases c1 : x + 256 ≥ limit
  · rw [if_pos c1, if_pos (c := y + 256 ≥ limit) (by omega)]
    by_cases c2 : x + 256 ≥ limit + more
    · rw [if_pos c2]; rfl
    · rw [if_neg c2]; rfl
  · rw [if_neg c1, if_neg (c := x + 256 ≥ limit + more) (by omega)]; rfl
end Go.Proofs.Ytfdjlempllmelaa.Pure
