/- For all arguments the law TimerPlays answers true: whatever befalls a timer, all that it tells is the document's. -/
import Derived.Test.YtfdjlempllmelaaOTimerPlaysx2
import Derived.Test.YtfdjlempllmelaaAr
namespace Go.Proofs.Ytfdjlempllmelaa.Pure
open Go.RowKit Go.Proofs.Ytfdjlempllmelaa.PTimerPlays Go.Proofs.YtfdjlempllmelaaW.PrintWords Go.Proofs.YtfdjlempllmelaaW.PrintLast Go.Proofs.YtfdjlempllmelaaW.PrintMore Go.Proofs.Ytfdjlempllmelaa.Ar
set_option linter.unusedVariables false
set_option linter.unusedSimpArgs false
theorem mn_mx (a : Int) : mn (mx a 0) 1073741824 = if a < 0 then 0 else if a > 1073741824 then 1073741824 else a := by
  unfold mn mx
  by_cases h : a < 0
  · rw [if_pos h, if_pos h]; rfl
  · rw [if_neg h, if_neg h]
theorem tick_off (v : Int) : timer_Tick.f false v = some (false, v) := rfl
theorem tick_on {v : Int} (h : 0 ≤ v ∧ v ≤ 1073741824) : timer_Tick.f true v = some (true, if v + 256 > 1073741824 then 1073741824 else v + 256) := by
  unfold timer_Tick.f
  rw [if_pos rfl, w64 (by omega) (by omega)]
  rfl
theorem fire_off (v limit : Int) : timer_Fire.f false v limit = some (false, v, false) := rfl
theorem fire_on {v : Int} (h : 0 ≤ v ∧ v ≤ 1073741824) (limit : Int) : timer_Fire.f true v limit =
    some (if (if v + 256 > 1073741824 then 1073741824 else v + 256) ≥ limit then (false, 0, true) else (true, (if v + 256 > 1073741824 then 1073741824 else v + 256), false)) := by
  unfold timer_Fire.f
  rw [tick_on h]
  simp only [Option.bind_some, timer_Over.f, timer_Stop.f, if_true]
  by_cases c : (if v + 256 > 1073741824 then 1073741824 else v + 256) ≥ limit
  · rw [if_pos c, decide_eq_true c]; rfl
  · rw [if_neg c, decide_eq_false c]; rfl
theorem awake_eq : treelinelaw09_awake.f = some true := by decide +kernel
/-- A timer, and what a number tells. -/
def like (on : Bool) (v n : Int) : Prop := (on = false ∧ v = 0 ∧ n = -1) ∨ (on = true ∧ v = n ∧ 0 ≤ n ∧ n ≤ 1073741824)
theorem is_like {on : Bool} {v n : Int} (h : like on v n) : treelinelaw09_is.f on v n = some true := by
  unfold treelinelaw09_is.f
  rcases h with ⟨rfl, rfl, rfl⟩ | ⟨rfl, rfl, h0, _⟩
  · rfl
  · rw [if_neg (by omega), if_pos rfl]; simp
theorem start_like (a : Int) : ∃ n, timer_Start.f a = some (true, n) ∧ treelineref09_Start.f a = some n ∧ like true n n := by
  refine ⟨_, by unfold timer_Start.f; rw [mn_mx], ?_, .inr ⟨rfl, rfl, ?_⟩⟩
  · unfold treelineref09_Start.f
    by_cases h : a < 0
    · rw [if_pos h, if_pos h]
    · rw [if_neg h, if_neg h]
      by_cases g : a > 1073741824
      · rw [if_pos g, if_pos g]
      · rw [if_neg g, if_neg g]
  · split
    · omega
    · split <;> omega
theorem tick_like {on : Bool} {v n : Int} (h : like on v n) : ∃ v' n', timer_Tick.f on v = some (on, v') ∧ treelineref09_Tick.f n = some n' ∧ like on v' n' := by
  rcases h with ⟨rfl, rfl, rfl⟩ | ⟨rfl, rfl, h0, h1⟩
  · exact ⟨0, -1, rfl, rfl, .inl ⟨rfl, rfl, rfl⟩⟩
  · refine ⟨_, _, tick_on ⟨h0, h1⟩, ?_, .inr ⟨rfl, rfl, ?_⟩⟩
    · unfold treelineref09_Tick.f treelineref09_Start.f
      rw [if_neg (by omega), w64 (by omega) (by omega), if_neg (by omega)]
      by_cases g : v + 256 > 1073741824
      · rw [if_pos g, if_pos g]; rfl
      · rw [if_neg g, if_neg g]; rfl
    · split <;> omega
theorem fire_like {on : Bool} {v n : Int} (h : like on v n) (limit : Int) : ∃ on' v' f n' g, timer_Fire.f on v limit = some (on', v', f) ∧ treelineref09_Fire.f n limit = some (n', g) ∧ like on' v' n' ∧ f = (g == 1) := by
  obtain ⟨v', n', e1, e2, hl⟩ := tick_like h
  unfold timer_Fire.f treelineref09_Fire.f
  rw [e1, e2]
  simp only [Option.bind_some]
  rcases hl with ⟨rfl, rfl, rfl⟩ | ⟨rfl, rfl, h0, h1⟩
  · exact ⟨false, 0, false, -1, 0, rfl, rfl, .inl ⟨rfl, rfl, rfl⟩, rfl⟩
  · simp only [timer_Over.f, timer_Stop.f, if_true, Option.bind_some]
    rw [if_pos h0]
    by_cases c : v' ≥ limit
    · rw [decide_eq_true c, if_pos c]
      exact ⟨false, 0, true, -1, 1, rfl, rfl, .inl ⟨rfl, rfl, rfl⟩, rfl⟩
    · rw [decide_eq_false c, if_neg c]
      exact ⟨true, v', false, v', 0, rfl, rfl, .inr ⟨rfl, rfl, h0, h1⟩, rfl⟩
theorem over_like {on : Bool} {v n limit : Int} (h : like on v n) : timer_Over.f on v limit = some (decide (n ≥ 0) && decide (n ≥ limit)) := by
  unfold timer_Over.f
  rcases h with ⟨rfl, rfl, rfl⟩ | ⟨rfl, rfl, h0, _⟩
  · rfl
  · rw [if_pos rfl, decide_eq_true (p := v ≥ 0) h0, Bool.true_and]
theorem plays (l : List Int) (hs : l.length ≤ 2000) (hw : ∀ x ∈ l, -9223372036854775808 ≤ x ∧ x < 9223372036854775808) (d : Nat) : ∀ (k : Nat) (i n : Int) (on : Bool) (v : Int), 0 ≤ i → i + d = l.length → 2 * d < k → like on v n →
    treelinelaw09_TimerPlays.l0 k l n i on v = some true := by
  induction d with
  | zero =>
    intro k i n on v h0 hd hk _
    obtain ⟨k, rfl⟩ : ∃ m, k = m + 1 := ⟨k - 1, by omega⟩
    simp only [treelinelaw09_TimerPlays.l0]
    rw [if_neg (by omega)]
  | succ d ih =>
    intro k i n on v h0 hd hk hl
    obtain ⟨k, rfl⟩ : ∃ m, k = m + 2 := ⟨k - 2, by omega⟩
    have hi : i < (l.length : Int) := by omega
    have hr : rd l i ∈ l := by
      have h : i.toNat < l.length := by omega
      unfold rd
      rw [List.getD_eq_getElem?_getD, List.getElem?_eq_getElem h]
      exact List.getElem_mem h
    have hb := hw _ hr
    generalize hx : rd l i = x at *
    have wi : wrap64 (i + 1) = i + 1 := w64 (by omega) (by omega)
    simp only [treelinelaw09_TimerPlays.l0, hx, wi]
    rw [if_pos hi, if_pos h0]
    by_cases c : x < 0
    · rw [if_pos c]
      by_cases g : x < -2000000000
      · rw [if_pos g]
      · rw [if_neg g, w64 (by omega) (by omega)]
        obtain ⟨m, e1, e2, hm⟩ := start_like (-x)
        rw [e1, e2]
        simp only [Option.bind_some, is_like hm, if_true]
        exact ih (k + 1) (i + 1) m true m (by omega) (by omega) (by omega) hm
    · rw [if_neg c]
      have j3 : treelinelaw09_TimerPlays.j3 (k + 1) l n i false on v = some true := by
        simp only [treelinelaw09_TimerPlays.j3, Bool.false_eq_true, if_false, hx, wi]
        rw [if_pos h0, if_pos hi]
        obtain ⟨on', v', f, n', g, e1, e2, hl', hf⟩ := fire_like hl x
        rw [e1, e2]
        simp only [Option.bind_some]
        rw [hf, bne_self_eq_false, if_neg (by decide), is_like hl']
        simp only [Option.bind_some, if_true]
        exact ih k (i + 1) n' on' v' (by omega) (by omega) (by omega) hl'
      obtain ⟨v', n', e1, e2, hl'⟩ := tick_like hl
      rw [over_like hl, e1, e2]
      simp only [Option.bind_some, is_like hl', Bool.not_true]
      by_cases g : n ≥ 0
      · rw [if_pos g, decide_eq_true (p := n ≥ 0) g, Bool.true_and, bne_self_eq_false, if_neg (by decide)]
        exact j3
      · rw [if_neg g, decide_eq_false (p := n ≥ 0) g, Bool.false_and, bne_self_eq_false, if_neg (by decide)]
        exact j3
theorem TimerPlays : treelinelaw09_TimerPlays.Pure := by
  intro a0 l h0 _ _ hw
  refine ⟨2 * l.length + 10, ?_⟩
  unfold treelinelaw09_TimerPlays.f
  rw [awake_eq]
  simp only [Option.bind_some, if_true]
  by_cases c : (l.length : Int) > 2000
  · rw [decide_eq_true c]
    simp only [treelinelaw09_TimerPlays.j0, if_true, awake_eq, Option.bind_some]
  · rw [decide_eq_false c]
    simp only [treelinelaw09_TimerPlays.j0, Bool.false_eq_true, if_false, timer_Stop.f, Option.bind_some, treelinelaw09_TimerPlays.j1]
    by_cases g : a0 ≥ -1000000
    · rw [if_pos g]
      obtain ⟨m, e1, e2, hm⟩ := start_like a0
      rw [e1, e2]
      simp only [Option.bind_some]
      exact plays l (by omega) (fun x hx => wf_i64 (hw x hx)) l.length _ 0 m true m (by omega) (by omega) (by omega) hm
    · rw [if_neg g]
      exact plays l (by omega) (fun x hx => wf_i64 (hw x hx)) l.length _ 0 (-1) false 0 (by omega) (by omega) (by omega) (.inl ⟨rfl, rfl, rfl⟩)
end Go.Proofs.Ytfdjlempllmelaa.Pure
