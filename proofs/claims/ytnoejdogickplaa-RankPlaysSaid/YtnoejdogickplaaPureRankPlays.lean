/- For all arguments the law RankPlays answers true: which one is the better one, costs, and what takes the place of what, are the document's. -/
import Derived.Test.YtnoejdogickplaaORankPlaysx5
import Derived.Test.YtnoejdogickplaaAr
import Derived.Test.YtnoejdogickplaaShapeRankPlays
namespace Go.Proofs.Ytnoejdogickplaa.Pure
open Go.RowKit Go.Proofs.Ytnoejdogickplaa.PRankPlays Go.Proofs.YtnoejdogickplaaW.PrintWords Go.Proofs.YtnoejdogickplaaW.PrintLast Go.Proofs.YtnoejdogickplaaW.PrintMore Go.Proofs.Ytnoejdogickplaa.Ar
set_option linter.unusedVariables false
set_option linter.unusedSimpArgs false
def cmp3 (a b : Int) : Int := if a < b then -1 else if a > b then 1 else 0
theorem cmp64_eq (a b : Int) : api_BridgeId_34.f a b = some (cmp3 a b) := by
  unfold api_BridgeId_34.f api_BridgeId_37.f cmp3
  simp only [bne_self_eq_false, Option.bind_some, Bool.false_eq_true, if_false]
  split
  · rfl
  · split <;> rfl
theorem cmp32_eq (a b : Int) : cmp_Compare_uint32.f a b = some (cmp3 a b) := by
  unfold cmp_Compare_uint32.f cmp_isNaN_uint32.f cmp3
  simp only [bne_self_eq_false, Option.bind_some, Bool.false_eq_true, if_false]
  split
  · rfl
  · split <;> rfl
theorem cmp16_eq (a b : Int) : api_PortId_36.f a b = some (cmp3 a b) := by
  unfold api_PortId_36.f api_PortId_39.f cmp3
  simp only [bne_self_eq_false, Option.bind_some, Bool.false_eq_true, if_false]
  split
  · rfl
  · split <;> rfl
theorem or_step (k : Nat) (l : List Int) (i y : Int) (hy : i + 1 = y) (h0 : 0 ≤ i) (h1 : i < l.length) (hs : l.length ≤ 1000) : cmp_Or_int.l0 (k + 1) 0 l l.length i = if rd l i = 0 then cmp_Or_int.l0 k 0 l l.length y else some (rd l i) := by
  subst hy
  simp only [cmp_Or_int.l0]
  rw [if_pos h1, if_pos h0, if_pos h1, w64 (by omega) (by omega)]
theorem or4_eq (k : Nat) (c0 c1 c2 c3 : Int) : cmp_Or_int.f (k + 5) [c0, c1, c2, c3] = some (if c0 = 0 then if c1 = 0 then if c2 = 0 then c3 else c2 else c1 else c0) := by
  unfold cmp_Or_int.f
  rw [or_step (k + 4) [c0, c1, c2, c3] 0 1 (by decide) (by decide) (by simp) (by simp), or_step (k + 3) [c0, c1, c2, c3] 1 2 (by decide) (by decide) (by simp) (by simp),
    or_step (k + 2) [c0, c1, c2, c3] 2 3 (by decide) (by decide) (by simp) (by simp), or_step (k + 1) [c0, c1, c2, c3] 3 4 (by decide) (by decide) (by simp) (by simp)]
  show (if c0 = 0 then if c1 = 0 then if c2 = 0 then if c3 = 0 then cmp_Or_int.l0 (k + 1) 0 [c0, c1, c2, c3] 4 4 else some c3 else some c2 else some c1 else some c0) = _
  have e : cmp_Or_int.l0 (k + 1) 0 [c0, c1, c2, c3] 4 4 = some 0 := by simp [cmp_Or_int.l0]
  rw [e]
  split
  · split
    · split
      · split
        · rename_i h; rw [h]
        · rfl
      · rfl
    · rfl
  · rfl
theorem or3_eq (k : Nat) (c0 c1 c2 : Int) : cmp_Or_int.f (k + 4) [c0, c1, c2] = some (if c0 = 0 then if c1 = 0 then c2 else c1 else c0) := by
  unfold cmp_Or_int.f
  rw [or_step (k + 3) [c0, c1, c2] 0 1 (by decide) (by decide) (by simp) (by simp), or_step (k + 2) [c0, c1, c2] 1 2 (by decide) (by decide) (by simp) (by simp),
    or_step (k + 1) [c0, c1, c2] 2 3 (by decide) (by decide) (by simp) (by simp)]
  show (if c0 = 0 then if c1 = 0 then if c2 = 0 then cmp_Or_int.l0 (k + 1) 0 [c0, c1, c2] 3 3 else some c2 else some c1 else some c0) = _
  have e : cmp_Or_int.l0 (k + 1) 0 [c0, c1, c2] 3 3 = some 0 := by simp [cmp_Or_int.l0]
  rw [e]
  split
  · split
    · split
      · rename_i h; rw [h]
      · rfl
    · rfl
  · rfl
def cmpV (a0 a1 a2 a3 b0 b1 b2 b3 : Int) : Int := if cmp3 a0 b0 = 0 then if cmp3 a1 b1 = 0 then if cmp3 a2 b2 = 0 then cmp3 a3 b3 else cmp3 a2 b2 else cmp3 a1 b1 else cmp3 a0 b0
theorem compare_eq (k : Nat) (a0 a1 a2 a3 b0 b1 b2 b3 : Int) : rank_Compare.f (k + 5) a0 a1 a2 a3 b0 b1 b2 b3 = some (cmpV a0 a1 a2 a3 b0 b1 b2 b3) := by
  unfold rank_Compare.f cmpV
  simp only [cmp64_eq, cmp32_eq, cmp16_eq, Option.bind_some]
  rw [or4_eq]; rfl
/-- a is the better one. -/
def lexlt (a0 a1 a2 a3 b0 b1 b2 b3 : Int) : Prop := a0 < b0 ∨ a0 = b0 ∧ (a1 < b1 ∨ a1 = b1 ∧ (a2 < b2 ∨ a2 = b2 ∧ a3 < b3))
theorem cmp3_cases (a b : Int) : (cmp3 a b = -1 ∧ a < b) ∨ (cmp3 a b = 0 ∧ a = b) ∨ (cmp3 a b = 1 ∧ b < a) := by
  unfold cmp3
  split
  · left; exact ⟨rfl, by omega⟩
  · split
    · right; right; exact ⟨rfl, by omega⟩
    · right; left; exact ⟨rfl, by omega⟩
theorem cmpV_cases (a0 a1 a2 a3 b0 b1 b2 b3 : Int) : (cmpV a0 a1 a2 a3 b0 b1 b2 b3 = -1 ∧ lexlt a0 a1 a2 a3 b0 b1 b2 b3) ∨ (cmpV a0 a1 a2 a3 b0 b1 b2 b3 = 0 ∧ a0 = b0 ∧ a1 = b1 ∧ a2 = b2 ∧ a3 = b3) ∨
    (cmpV a0 a1 a2 a3 b0 b1 b2 b3 = 1 ∧ lexlt b0 b1 b2 b3 a0 a1 a2 a3) := by
  unfold cmpV lexlt
  rcases cmp3_cases a0 b0 with ⟨e0, h0⟩ | ⟨e0, h0⟩ | ⟨e0, h0⟩
  · left; exact ⟨by simp [e0], .inl h0⟩
  · rw [e0]
    rcases cmp3_cases a1 b1 with ⟨e1, h1⟩ | ⟨e1, h1⟩ | ⟨e1, h1⟩
    · left; exact ⟨by simp [e1], .inr ⟨h0, .inl h1⟩⟩
    · rw [e1]
      rcases cmp3_cases a2 b2 with ⟨e2, h2⟩ | ⟨e2, h2⟩ | ⟨e2, h2⟩
      · left; exact ⟨by simp [e2], .inr ⟨h0, .inr ⟨h1, .inl h2⟩⟩⟩
      · rw [e2]
        rcases cmp3_cases a3 b3 with ⟨e3, h3⟩ | ⟨e3, h3⟩ | ⟨e3, h3⟩
        · left; exact ⟨by simp [e3], .inr ⟨h0, .inr ⟨h1, .inr ⟨h2, h3⟩⟩⟩⟩
        · right; left; exact ⟨by simp [e3], h0, h1, h2, h3⟩
        · right; right; exact ⟨by simp [e3], .inr ⟨h0.symm, .inr ⟨h1.symm, .inr ⟨h2.symm, h3⟩⟩⟩⟩
      · right; right; exact ⟨by simp [e2], .inr ⟨h0.symm, .inr ⟨h1.symm, .inl h2⟩⟩⟩
    · right; right; exact ⟨by simp [e1], .inr ⟨h0.symm, .inl h1⟩⟩
  · right; right; exact ⟨by simp [e0], .inl h0⟩
def farV (a b : Int) : Int := if a + b > 4294967295 then 4294967295 else a + b
theorem far_eq {a b : Int} (ha : 0 ≤ a ∧ a < 4294967296) (hb : 0 ≤ b ∧ b < 4294967296) : rank_Far.f a b = some (farV a b) := by
  unfold rank_Far.f farV
  by_cases c : a + b > 4294967295
  · rw [if_pos (by omega), if_pos c]
  · rw [if_neg (by omega), if_neg c]; congr 1; omega
theorem far_range {a b : Int} (ha : 0 ≤ a ∧ a < 4294967296) (hb : 0 ≤ b ∧ b < 4294967296) : 0 ≤ farV a b ∧ farV a b < 4294967296 ∧ a ≤ farV a b := by unfold farV; split <;> omega
theorem awake_eq (k : Nat) : treelinelaw10_awake.f (k + 5) = some true := by
  unfold treelinelaw10_awake.f
  rw [far_eq (by decide) (by decide), compare_eq]
  rfl
def supA (own : Int) (x0 x1 x2 x3 h0 h1 h2 h3 : Int) : Bool :=
  decide (x0 < h0 ∨ x0 = h0 ∧ (x1 < h1 ∨ x1 = h1 ∧ (x2 < h2 ∨ x2 = h2 ∧ (x2 ≠ own ∨ x3 ≤ h3))))
theorem sup_eq (k : Nat) (x0 x1 x2 x3 h0 h1 h2 h3 own : Int) : rank_Supersedes.f (k + 4) x0 x1 x2 x3 h0 h1 h2 h3 own = some (supA own x0 x1 x2 x3 h0 h1 h2 h3) := by
  unfold rank_Supersedes.f supA
  simp only [cmp64_eq, cmp32_eq, Option.bind_some]
  rw [or3_eq]
  simp only [Option.bind_some]
  rcases cmp3_cases x0 h0 with ⟨e0, g0⟩ | ⟨e0, g0⟩ | ⟨e0, g0⟩
  · simp [e0, g0]
  · rw [e0]
    rcases cmp3_cases x1 h1 with ⟨e1, g1⟩ | ⟨e1, g1⟩ | ⟨e1, g1⟩
    · simp [e1, g1, g0]
    · rw [e1]
      rcases cmp3_cases x2 h2 with ⟨e2, g2⟩ | ⟨e2, g2⟩ | ⟨e2, g2⟩
      · simp [e2, g2, g1, g0]
      · rw [e2]
        by_cases c : x2 = own
        · simp [c, g0, g1, ← g2]
        · have c' : ¬ h2 = own := by omega
          simp [c, g0, g1, g2, c']
      · have : ¬ x2 < h2 := by omega
        have : ¬ x2 = h2 := by omega
        simp [e2, g0, g1, *]
    · have : ¬ x1 < h1 := by omega
      have : ¬ x1 = h1 := by omega
      simp [e1, g0, *]
  · have : ¬ x0 < h0 := by omega
    have : ¬ x0 = h0 := by omega
    simp [e0, *]
theorem less_eq (a0 a1 a2 a3 b0 b1 b2 b3 : Int) : treelineref10_Less.f a0 a1 a2 a3 b0 b1 b2 b3 = some (decide (cmpV a0 a1 a2 a3 b0 b1 b2 b3 = -1)) := by
  unfold treelineref10_Less.f
  have key : ∀ p : Prop, [Decidable p] → (p ↔ lexlt a0 a1 a2 a3 b0 b1 b2 b3) → some (decide p) = some (decide (cmpV a0 a1 a2 a3 b0 b1 b2 b3 = -1)) := by
    intro p _ hp
    congr 1
    rw [decide_eq_decide, hp]
    rcases cmpV_cases a0 a1 a2 a3 b0 b1 b2 b3 with ⟨e, g⟩ | ⟨e, g0, g1, g2, g3⟩ | ⟨e, g⟩
    · exact ⟨fun _ => e, fun _ => g⟩
    · rw [e]; unfold lexlt; constructor <;> intro <;> omega
    · rw [e]; unfold lexlt at g ⊢; constructor <;> intro <;> omega
  by_cases c0 : a0 = b0
  · rw [if_pos c0]
    by_cases c1 : a1 = b1
    · rw [if_pos c1]
      by_cases c2 : a2 = b2
      · rw [if_pos c2]; exact key _ (by unfold lexlt; omega)
      · rw [if_neg c2]; exact key _ (by unfold lexlt; omega)
    · rw [if_neg c1]; exact key _ (by unfold lexlt; omega)
  · rw [if_neg c0]; exact key _ (by unfold lexlt; omega)
theorem reffar_eq {a b : Int} (ha : 0 ≤ a ∧ a < 4294967296) (hb : 0 ≤ b ∧ b < 4294967296) : treelineref10_Far.f a b = some (farV a b) := by
  unfold treelineref10_Far.f farV
  rw [wu64 (x := a) (by omega) (by omega), wu64 (x := b) (by omega) (by omega), wu64 (by omega) (by omega)]
  by_cases c : a + b > 4294967295
  · rw [if_pos c, if_pos c]
  · rw [if_neg c, if_neg c]; congr 1; omega
theorem refsup_eq (k : Nat) (x0 x1 x2 x3 h0 h1 h2 h3 own : Int) : treelineref10_Supersedes.f (k + 1) x0 x1 x2 x3 h0 h1 h2 h3 own = some (supA own x0 x1 x2 x3 h0 h1 h2 h3) := by
  unfold treelineref10_Supersedes.f supA
  simp only [treelineref10_Supersedes.j0, if_true]
  by_cases c0 : x0 < h0
  · rw [if_pos c0, decide_eq_true (by omega)]
  · rw [if_neg c0]
    by_cases e0 : x0 = h0
    · rw [if_pos e0]
      by_cases c1 : x1 < h1
      · rw [if_pos c1, decide_eq_true (by omega)]
      · rw [if_neg c1]
        by_cases e1 : x1 = h1
        · rw [if_pos e1]
          by_cases c2 : x2 < h2
          · rw [if_pos (decide_eq_true c2), decide_eq_true (by omega)]
          · rw [if_neg (by simpa using c2)]
            by_cases e2 : x2 = h2
            · rw [if_pos e0, if_pos e1, if_pos e2]
              by_cases o : x2 = own
              · rw [if_pos o]; congr 1; rw [decide_eq_decide]; omega
              · rw [if_neg o, decide_eq_true (by omega)]
            · rw [if_pos e0, if_pos e1, if_neg e2, decide_eq_false (by omega)]
        · rw [if_neg e1, if_neg (by decide), if_pos e0, if_neg e1, decide_eq_false (by omega)]
    · rw [if_neg e0, if_neg (by decide), if_neg e0, decide_eq_false (by omega)]
theorem RankPlays (a b : Int × Int × Int × Int) (own cost : Int) (wa : rankPlays.wf31 a) (wb : rankPlays.wf31 b) (wo : (Lit.int .u64 own).wf = true) (wc : (Lit.int .u32 cost).wf = true) :
    ∃ k, treelinelaw10_RankPlays.f k a.1 a.2.1 a.2.2.1 a.2.2.2 b.1 b.2.1 b.2.2.1 b.2.2.2 own cost = some true := by
  obtain ⟨a0, a1, a2, a3⟩ := a
  obtain ⟨b0, b1, b2, b3⟩ := b
  obtain ⟨-, w1, -, -⟩ := wa
  obtain ⟨-, u1, -, -⟩ := wb
  replace w1 : 0 ≤ a1 ∧ a1 < 4294967296 := wf_u32 w1
  replace u1 : 0 ≤ b1 ∧ b1 < 4294967296 := wf_u32 u1
  replace wc := wf_u32 wc
  have j1 : ∀ k, treelinelaw10_RankPlays.j1 (k + 6) own cost (cmpV a0 a1 a2 a3 b0 b1 b2 b3) (cmpV a0 a1 a2 a3 b0 b1 b2 b3) a0 a1 a2 a3 b0 b1 b2 b3 a0 a1 a2 a3 b0 b1 b2 b3 = some true := by
    intro k
    simp only [treelinelaw10_RankPlays.j1, rank_Via.f, rank_Keeps.f, far_eq w1 wc, far_eq w1 u1, reffar_eq w1 wc, reffar_eq w1 u1, compare_eq, Option.bind_some, if_true, beq_self_eq_true, Bool.and_self]
    rw [sup_eq (k + 1), refsup_eq (k + 4)]
    simp
  have j0 : ∀ want, (want = if cmpV a0 a1 a2 a3 b0 b1 b2 b3 = -1 then -1 else 0) → treelinelaw10_RankPlays.j0 8 own cost (cmpV a0 a1 a2 a3 b0 b1 b2 b3) want a0 a1 a2 a3 b0 b1 b2 b3 a0 a1 a2 a3 b0 b1 b2 b3 = some true := by
    intro want hw
    simp only [treelinelaw10_RankPlays.j0]
    rw [less_eq]
    simp only [Option.bind_some, decide_eq_true_eq]
    have j := j1 1
    rcases cmpV_cases a0 a1 a2 a3 b0 b1 b2 b3 with ⟨e, g⟩ | ⟨e, g0, g1, g2, g3⟩ | ⟨e, g⟩
    · rw [e, if_pos rfl] at hw
      have n : ¬ cmpV b0 b1 b2 b3 a0 a1 a2 a3 = -1 := by
        intro n
        rcases cmpV_cases b0 b1 b2 b3 a0 a1 a2 a3 with ⟨_, i⟩ | ⟨i, _⟩ | ⟨i, _⟩
        · unfold lexlt at g i; omega
        · omega
        · omega
      rw [if_neg n, hw, ← e]
      exact j
    · rw [e, if_neg (by decide)] at hw
      have n : ¬ cmpV b0 b1 b2 b3 a0 a1 a2 a3 = -1 := by
        intro n
        rcases cmpV_cases b0 b1 b2 b3 a0 a1 a2 a3 with ⟨_, i⟩ | ⟨i, _⟩ | ⟨i, _⟩
        · unfold lexlt at i; omega
        · omega
        · omega
      rw [if_neg n, hw, ← e]
      exact j
    · have n : cmpV b0 b1 b2 b3 a0 a1 a2 a3 = -1 := by
        rcases cmpV_cases b0 b1 b2 b3 a0 a1 a2 a3 with ⟨i, _⟩ | ⟨_, i⟩ | ⟨_, i⟩
        · exact i
        · unfold lexlt at g; omega
        · unfold lexlt at g i; omega
      rw [if_pos n]
      rw [e] at j ⊢
      exact j
  refine ⟨3 + 5, ?_⟩
  unfold treelinelaw10_RankPlays.f
  rw [awake_eq, compare_eq]
  simp only [Option.bind_some, if_true, treelinelaw10_Plain.f, less_eq, decide_eq_true_eq]
  by_cases c : cmpV a0 a1 a2 a3 b0 b1 b2 b3 = -1
  · rw [if_pos c]; exact j0 (-1) (by rw [if_pos c])
  · rw [if_neg c]; exact j0 0 (by rw [if_neg c])
end Go.Proofs.Ytnoejdogickplaa.Pure
