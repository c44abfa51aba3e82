/- For all arguments the law RankOrder answers true: the better one is an order; who is farther is never better. -/
import Derived.Test.YtnoejdogickplaaORankOrderx3
import Derived.Test.YtnoejdogickplaaAr
import Derived.Test.YtnoejdogickplaaShapeRankOrder
namespace Go.Proofs.Ytnoejdogickplaa.Pure
open Go.RowKit Go.Proofs.Ytnoejdogickplaa.PRankOrder Go.Proofs.YtnoejdogickplaaW.PrintWords Go.Proofs.YtnoejdogickplaaW.PrintLast Go.Proofs.YtnoejdogickplaaW.PrintMore Go.Proofs.Ytnoejdogickplaa.Ar
set_option linter.unusedVariables false
set_option linter.unusedSimpArgs false
def cmp3 (a b : Int) : Int := if a < b then -1 else if a > b then 1 else 0
theorem cmp64_eq (a b : Int) : api_BridgeId_34.f a b = some (cmp3 a b) := by
  unfold api_BridgeId_34.f api_BridgeId_37.f cmp3
  simp only [bne_self_eq_false, Option.bind_some, Bool.false_eq_true, if_false]
  split
  · rfl
  · split <;> rfl
theorem cmp32_eq (a b : Int) : cmp_Compare_uint32.f a b = some (cmp3 a b) := by
  unfold cmp_Compare_uint32.f cmp_isNaN_uint32.f cmp3
  simp only [bne_self_eq_false, Option.bind_some, Bool.false_eq_true, if_false]
  split
  · rfl
  · split <;> rfl
theorem cmp16_eq (a b : Int) : api_PortId_36.f a b = some (cmp3 a b) := by
  unfold api_PortId_36.f api_PortId_39.f cmp3
  simp only [bne_self_eq_false, Option.bind_some, Bool.false_eq_true, if_false]
  split
  · rfl
  · split <;> rfl
theorem or_step (k : Nat) (l : List Int) (i y : Int) (hy : i + 1 = y) (h0 : 0 ≤ i) (h1 : i < l.length) (hs : l.length ≤ 1000) : cmp_Or_int.l0 (k + 1) 0 l l.length i = if rd l i = 0 then cmp_Or_int.l0 k 0 l l.length y else some (rd l i) := by
  subst hy
  simp only [cmp_Or_int.l0]
  rw [if_pos h1, if_pos h0, if_pos h1, w64 (by omega) (by omega)]
theorem or4_eq (k : Nat) (c0 c1 c2 c3 : Int) : cmp_Or_int.f (k + 5) [c0, c1, c2, c3] = some (if c0 = 0 then if c1 = 0 then if c2 = 0 then c3 else c2 else c1 else c0) := by
  unfold cmp_Or_int.f
  rw [or_step (k + 4) [c0, c1, c2, c3] 0 1 (by decide) (by decide) (by simp) (by simp), or_step (k + 3) [c0, c1, c2, c3] 1 2 (by decide) (by decide) (by simp) (by simp),
    or_step (k + 2) [c0, c1, c2, c3] 2 3 (by decide) (by decide) (by simp) (by simp), or_step (k + 1) [c0, c1, c2, c3] 3 4 (by decide) (by decide) (by simp) (by simp)]
  show (if c0 = 0 then if c1 = 0 then if c2 = 0 then if c3 = 0 then cmp_Or_int.l0 (k + 1) 0 [c0, c1, c2, c3] 4 4 else some c3 else some c2 else some c1 else some c0) = _
  have e : cmp_Or_int.l0 (k + 1) 0 [c0, c1, c2, c3] 4 4 = some 0 := by simp [cmp_Or_int.l0]
  rw [e]
  split
  · split
    · split
      · split
        · rename_i h; rw [h]
        · rfl
      · rfl
    · rfl
  · rfl
theorem or3_eq (k : Nat) (c0 c1 c2 : Int) : cmp_Or_int.f (k + 4) [c0, c1, c2] = some (if c0 = 0 then if c1 = 0 then c2 else c1 else c0) := by
  unfold cmp_Or_int.f
  rw [or_step (k + 3) [c0, c1, c2] 0 1 (by decide) (by decide) (by simp) (by simp), or_step (k + 2) [c0, c1, c2] 1 2 (by decide) (by decide) (by simp) (by simp),
    or_step (k + 1) [c0, c1, c2] 2 3 (by decide) (by decide) (by simp) (by simp)]
  show (if c0 = 0 then if c1 = 0 then if c2 = 0 then cmp_Or_int.l0 (k + 1) 0 [c0, c1, c2] 3 3 else some c2 else some c1 else some c0) = _
  have e : cmp_Or_int.l0 (k + 1) 0 [c0, c1, c2] 3 3 = some 0 := by simp [cmp_Or_int.l0]
  rw [e]
  split
  · split
    · split
      · rename_i h; rw [h]
      · rfl
    · rfl
  · rfl
def cmpV (a0 a1 a2 a3 b0 b1 b2 b3 : Int) : Int := if cmp3 a0 b0 = 0 then if cmp3 a1 b1 = 0 then if cmp3 a2 b2 = 0 then cmp3 a3 b3 else cmp3 a2 b2 else cmp3 a1 b1 else cmp3 a0 b0
theorem compare_eq (k : Nat) (a0 a1 a2 a3 b0 b1 b2 b3 : Int) : rank_Compare.f (k + 5) a0 a1 a2 a3 b0 b1 b2 b3 = some (cmpV a0 a1 a2 a3 b0 b1 b2 b3) := by
  unfold rank_Compare.f cmpV
  simp only [cmp64_eq, cmp32_eq, cmp16_eq, Option.bind_some]
  rw [or4_eq]; rfl
/-- a is the better one. -/
def lexlt (a0 a1 a2 a3 b0 b1 b2 b3 : Int) : Prop := a0 < b0 ∨ a0 = b0 ∧ (a1 < b1 ∨ a1 = b1 ∧ (a2 < b2 ∨ a2 = b2 ∧ a3 < b3))
theorem cmp3_cases (a b : Int) : (cmp3 a b = -1 ∧ a < b) ∨ (cmp3 a b = 0 ∧ a = b) ∨ (cmp3 a b = 1 ∧ b < a) := by
  unfold cmp3
  split
  · left; exact ⟨rfl, by omega⟩
  · split
    · right; right; exact ⟨rfl, by omega⟩
    · right; left; exact ⟨rfl, by omega⟩
theorem cmpV_cases (a0 a1 a2 a3 b0 b1 b2 b3 : Int) : (cmpV a0 a1 a2 a3 b0 b1 b2 b3 = -1 ∧ lexlt a0 a1 a2 a3 b0 b1 b2 b3) ∨ (cmpV a0 a1 a2 a3 b0 b1 b2 b3 = 0 ∧ a0 = b0 ∧ a1 = b1 ∧ a2 = b2 ∧ a3 = b3) ∨
    (cmpV a0 a1 a2 a3 b0 b1 b2 b3 = 1 ∧ lexlt b0 b1 b2 b3 a0 a1 a2 a3) := by
  unfold cmpV lexlt
  rcases cmp3_cases a0 b0 with ⟨e0, h0⟩ | ⟨e0, h0⟩ | ⟨e0, h0⟩
  · left; exact ⟨by simp [e0], .inl h0⟩
  · rw [e0]
    rcases cmp3_cases a1 b1 with ⟨e1, h1⟩ | ⟨e1, h1⟩ | ⟨e1, h1⟩
    · left; exact ⟨by simp [e1], .inr ⟨h0, .inl h1⟩⟩
    · rw [e1]
      rcases cmp3_cases a2 b2 with ⟨e2, h2⟩ | ⟨e2, h2⟩ | ⟨e2, h2⟩
      · left; exact ⟨by simp [e2], .inr ⟨h0, .inr ⟨h1, .inl h2⟩⟩⟩
      · rw [e2]
        rcases cmp3_cases a3 b3 with ⟨e3, h3⟩ | ⟨e3, h3⟩ | ⟨e3, h3⟩
        · left; exact ⟨by simp [e3], .inr ⟨h0, .inr ⟨h1, .inr ⟨h2, h3⟩⟩⟩⟩
        · right; left; exact ⟨by simp [e3], h0, h1, h2, h3⟩
        · right; right; exact ⟨by simp [e3], .inr ⟨h0.symm, .inr ⟨h1.symm, .inr ⟨h2.symm, h3⟩⟩⟩⟩
      · right; right; exact ⟨by simp [e2], .inr ⟨h0.symm, .inr ⟨h1.symm, .inl h2⟩⟩⟩
    · right; right; exact ⟨by simp [e1], .inr ⟨h0.symm, .inl h1⟩⟩
  · right; right; exact ⟨by simp [e0], .inl h0⟩
def farV (a b : Int) : Int := if a + b > 4294967295 then 4294967295 else a + b
theorem far_eq {a b : Int} (ha : 0 ≤ a ∧ a < 4294967296) (hb : 0 ≤ b ∧ b < 4294967296) : rank_Far.f a b = some (farV a b) := by
  unfold rank_Far.f farV
  by_cases c : a + b > 4294967295
  · rw [if_pos (by omega), if_pos c]
  · rw [if_neg (by omega), if_neg c]; congr 1; omega
theorem far_range {a b : Int} (ha : 0 ≤ a ∧ a < 4294967296) (hb : 0 ≤ b ∧ b < 4294967296) : 0 ≤ farV a b ∧ farV a b < 4294967296 ∧ a ≤ farV a b := by unfold farV; split <;> omega
theorem awake_eq (k : Nat) : treelinelaw10_awake.f (k + 5) = some true := by
  unfold treelinelaw10_awake.f
  rw [far_eq (by decide) (by decide), compare_eq]
  rfl
theorem lex_irrefl {a0 a1 a2 a3 : Int} (h : lexlt a0 a1 a2 a3 a0 a1 a2 a3) : False := by unfold lexlt at h; omega
theorem lex_asymm {a0 a1 a2 a3 b0 b1 b2 b3 : Int} (h : lexlt a0 a1 a2 a3 b0 b1 b2 b3) (g : lexlt b0 b1 b2 b3 a0 a1 a2 a3) : False := by unfold lexlt at h g; omega
theorem lex_trans {a0 a1 a2 a3 b0 b1 b2 b3 c0 c1 c2 c3 : Int} (h : lexlt a0 a1 a2 a3 b0 b1 b2 b3) (g : lexlt b0 b1 b2 b3 c0 c1 c2 c3) : lexlt a0 a1 a2 a3 c0 c1 c2 c3 := by
  unfold lexlt at h g ⊢
  rcases h with h | ⟨h0, h | ⟨h1, h | ⟨h2, h⟩⟩⟩ <;> rcases g with g | ⟨g0, g | ⟨g1, g | ⟨g2, g⟩⟩⟩ <;> omega
theorem order_end (k : Nat) (c a0 a1 a2 a3 : Int) (w1 : 0 ≤ a1 ∧ a1 < 4294967296) (wc : 0 ≤ c ∧ c < 4294967296) : treelinelaw10_RankOrder.j1 (k + 6) c false a0 a1 a2 a3 = some true := by
  have f1 := far_range w1 wc
  simp only [treelinelaw10_RankOrder.j1, Bool.false_eq_true, if_false, rank_Via.f, far_eq w1 wc, Option.bind_some, compare_eq, rank_Keeps.f]
  have p : cmpV a0 (farV a1 c) a2 a3 a0 a1 a2 a3 ≥ 0 := by
    rcases cmpV_cases a0 (farV a1 c) a2 a3 a0 a1 a2 a3 with ⟨_, h⟩ | ⟨e, _⟩ | ⟨e, _⟩
    · unfold lexlt at h; omega
    · omega
    · omega
  have q : cmpV a0 a1 a2 a3 a0 (farV a1 c) a2 a3 ≤ 0 := by
    rcases cmpV_cases a0 a1 a2 a3 a0 (farV a1 c) a2 a3 with ⟨e, _⟩ | ⟨e, _⟩ | ⟨_, h⟩
    · omega
    · omega
    · unfold lexlt at h; omega
  rw [if_pos p, decide_eq_true q]
theorem RankOrder (a b c : Int × Int × Int × Int) (cost : Int) (wa : rankOrder.wf31 a) (wb : rankOrder.wf31 b) (wc : rankOrder.wf31 c) (wk : (Lit.int .u32 cost).wf = true) :
    ∃ k, treelinelaw10_RankOrder.f k a.1 a.2.1 a.2.2.1 a.2.2.2 b.1 b.2.1 b.2.2.1 b.2.2.2 c.1 c.2.1 c.2.2.1 c.2.2.2 cost = some true := by
  obtain ⟨a0, a1, a2, a3⟩ := a
  obtain ⟨b0, b1, b2, b3⟩ := b
  obtain ⟨c0, c1, c2, c3⟩ := c
  obtain ⟨-, w1, -, -⟩ := wa
  replace w1 := wf_u32 w1
  replace wk := wf_u32 wk
  refine ⟨5 + 3, ?_⟩
  unfold treelinelaw10_RankOrder.f
  rw [show 5 + 3 = 3 + 5 from rfl, awake_eq, compare_eq, compare_eq]
  simp only [Option.bind_some, if_true]
  have neg : cmpV a0 a1 a2 a3 b0 b1 b2 b3 = wrap64 (-cmpV b0 b1 b2 b3 a0 a1 a2 a3) := by
    rcases cmpV_cases a0 a1 a2 a3 b0 b1 b2 b3 with ⟨e, h⟩ | ⟨e, h0, h1, h2, h3⟩ | ⟨e, h⟩ <;> rcases cmpV_cases b0 b1 b2 b3 a0 a1 a2 a3 with ⟨e', g⟩ | ⟨e', g0, g1, g2, g3⟩ | ⟨e', g⟩ <;> rw [e, e'] <;>
      first | (unfold wrap64; omega) | exact (lex_asymm h g).elim | (unfold lexlt at h; omega) | (unfold lexlt at g; omega)
  have same : ((cmpV a0 a1 a2 a3 b0 b1 b2 b3 == 0) != (a0 == b0 && (a1 == b1 && (a2 == b2 && (a3 == b3))))) = false := by
    rw [bne_eq_false_iff_eq, Bool.eq_iff_iff]
    simp only [beq_iff_eq, Bool.and_eq_true]
    rcases cmpV_cases a0 a1 a2 a3 b0 b1 b2 b3 with ⟨e, h⟩ | ⟨e, h0, h1, h2, h3⟩ | ⟨e, h⟩
    · unfold lexlt at h; constructor <;> intro g <;> omega
    · exact ⟨fun _ => ⟨h0, h1, h2, h3⟩, fun _ => e⟩
    · unfold lexlt at h; constructor <;> intro g <;> omega
  rw [if_pos neg, same]
  simp only [treelinelaw10_RankOrder.j0, Bool.false_eq_true, if_false]
  rw [compare_eq 2, compare_eq 2, compare_eq 2]
  simp only [Option.bind_some]
  by_cases g1 : cmpV a0 a1 a2 a3 b0 b1 b2 b3 ≤ 0
  · rw [if_pos g1]
    by_cases g2 : cmpV b0 b1 b2 b3 c0 c1 c2 c3 ≤ 0
    · rw [if_pos g2]
      have g3 : ¬ cmpV a0 a1 a2 a3 c0 c1 c2 c3 > 0 := by
        intro g3
        rcases cmpV_cases a0 a1 a2 a3 c0 c1 c2 c3 with ⟨e, _⟩ | ⟨e, _⟩ | ⟨_, g⟩
        · omega
        · omega
        · rcases cmpV_cases a0 a1 a2 a3 b0 b1 b2 b3 with ⟨_, h⟩ | ⟨_, h0, h1, h2, h3⟩ | ⟨e, _⟩
          · rcases cmpV_cases b0 b1 b2 b3 c0 c1 c2 c3 with ⟨_, i⟩ | ⟨_, i0, i1, i2, i3⟩ | ⟨e, _⟩
            · exact lex_asymm (lex_trans h i) g
            · subst i0 i1 i2 i3; exact lex_asymm h g
            · omega
          · subst h0 h1 h2 h3
            rcases cmpV_cases a0 a1 a2 a3 c0 c1 c2 c3 with ⟨_, i⟩ | ⟨_, i0, i1, i2, i3⟩ | ⟨e, _⟩
            · exact lex_asymm i g
            · subst i0 i1 i2 i3; exact lex_irrefl g
            · omega
          · omega
      rw [decide_eq_false g3]
      exact order_end 1 cost a0 a1 a2 a3 w1 wk
    · rw [if_neg g2]
      exact order_end 1 cost a0 a1 a2 a3 w1 wk
  · rw [if_neg g1]
    exact order_end 1 cost a0 a1 a2 a3 w1 wk
end Go.Proofs.Ytnoejdogickplaa.Pure
