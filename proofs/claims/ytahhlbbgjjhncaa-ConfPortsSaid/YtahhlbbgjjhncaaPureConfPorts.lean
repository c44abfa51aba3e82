/- For every configuration the law ConfPorts answers true: ports of one bridge have unlike numbers, none of which is 0. -/
import Derived.Test.YtahhlbbgjjhncaaOConfPortsx2
import Derived.Test.YtahhlbbgjjhncaaAr
import Derived.Test.YtahhlbbgjjhncaaShapeConfPorts
namespace Go.Proofs.Ytahhlbbgjjhncaa.Pure
open Go.RowKit Go.Proofs.Ytahhlbbgjjhncaa.PConfPorts Go.Proofs.YtahhlbbgjjhncaaW.PrintWords Go.Proofs.YtahhlbbgjjhncaaW.PrintLast Go.Proofs.YtahhlbbgjjhncaaW.PrintMore Go.Proofs.Ytahhlbbgjjhncaa.Ar
set_option linter.unusedVariables false
set_option linter.unusedSimpArgs false
def goodTimes (m h d : Int) : Bool := decide (6 ≤ m ∧ m ≤ 40 ∧ 1 ≤ h ∧ h ≤ 10 ∧ 4 ≤ d ∧ d ≤ 30 ∧ m ≤ 2 * (d - 1) ∧ 2 * (h + 1) ≤ m)
theorem within_eq (n lo hi : Int) : conf_within.f n lo hi = some (decide (lo ≤ n ∧ n ≤ hi)) := by
  unfold conf_within.f
  by_cases c : n ≥ lo
  · rw [if_pos c]; congr 1; rw [decide_eq_decide]; omega
  · rw [if_neg c, decide_eq_false (by omega)]
theorem times_eq (a0 a1 m h d a5 a6 : Int) (l : List S40) : conf_Times.f a0 a1 m h d a5 a6 l = some (goodTimes m h d) := by
  unfold conf_Times.f goodTimes
  simp only [within_eq, Option.bind_some, decide_eq_true_eq]
  by_cases c1 : 6 ≤ m ∧ m ≤ 40
  · rw [if_pos c1]
    by_cases c2 : 1 ≤ h ∧ h ≤ 10
    · rw [if_pos c2]
      by_cases c3 : 4 ≤ d ∧ d ≤ 30
      · rw [if_pos c3, w64 (x := d - 1) (by omega) (by omega), w64 (x := 2 * (d - 1)) (by omega) (by omega), w64 (x := h + 1) (by omega) (by omega), w64 (x := 2 * (h + 1)) (by omega) (by omega)]
        by_cases c4 : 2 * (d - 1) ≥ m
        · rw [if_pos c4]; congr 1; rw [decide_eq_decide]; omega
        · rw [if_neg c4, decide_eq_false (by omega)]
      · rw [if_neg c3, decide_eq_false (by omega)]
    · rw [if_neg c2, decide_eq_false (by omega)]
  · rw [if_neg c1, decide_eq_false (by omega)]
theorem awake_eq : treelinelaw11_awake.f = some true := by
  unfold treelinelaw11_awake.f
  simp only [times_eq, Option.bind_some]
  rfl
theorem rd40_mem {l : List S40} {i : Int} (h0 : 0 ≤ i) (h1 : i < l.length) : rd_T40 l i ∈ l := by
  have h : i.toNat < l.length := by omega
  unfold rd_T40
  rw [List.getD_eq_getElem?_getD, List.getElem?_eq_getElem h]
  exact List.getElem_mem h
theorem port_eq {p i : Int} (hp : 0 ≤ p ∧ p < 256) (hi : 0 ≤ i ∧ i < 255) : ids_Port.f p i = some (p * 256 + (i + 1)) := by
  unfold ids_Port.f
  rw [w64 (by omega) (by omega), wu16 hp.1 (by omega), wu16 (by omega) (by omega),
    join_u16 8 (r := 256) (by decide) (by omega) (by omega) (by omega) (by omega) (by omega) (by omega)]
  congr 1; omega
section
variable (a0 a1 a2 a3 a4 a5 a6 : Int) (l : List S40) (hl : l.length ≤ 200) (hw : ∀ y ∈ l, 0 ≤ y.f0 ∧ y.f0 < 256)
include hl hw
theorem id_eq {i : Int} (h0 : 0 ≤ i) (h1 : i < l.length) : conf_PortId.f a0 a1 a2 a3 a4 a5 a6 l i = some ((rd_T40 l i).f0 * 256 + (i + 1)) := by
  unfold conf_PortId.f
  rw [if_neg (by omega), if_neg (by omega), if_pos h0, if_pos h1, port_eq (hw _ (rd40_mem h0 h1)) (by omega)]
  rfl
omit hl hw in
theorem id_out {i : Int} (h : i < 0 ∨ l.length ≤ i) : conf_PortId.f a0 a1 a2 a3 a4 a5 a6 l i = some 0 := by
  unfold conf_PortId.f
  rcases h with h | h
  · rw [if_pos h]
  · by_cases c : i < 0
    · rw [if_pos c]
    · rw [if_neg c, if_pos h]
theorem inner (i : Int) (h0 : 0 ≤ i) (h1 : i < l.length) (R : Option Bool) (d : Nat) : ∀ (k : Nat) (x4 : Int), 0 ≤ x4 → x4 + d = i → d < k → (∀ k', k ≤ k' + d + 1 → treelinelaw11_ConfPorts.l0 k' (i + 1) a0 a1 a2 a3 a4 a5 a6 l = R) →
    treelinelaw11_ConfPorts.l1 k i x4 a0 a1 a2 a3 a4 a5 a6 l = R := by
  induction d with
  | zero =>
    intro k x4 g0 g1 hk hR
    obtain ⟨k, rfl⟩ : ∃ m, k = m + 1 := ⟨k - 1, by omega⟩
    simp only [treelinelaw11_ConfPorts.l1]
    rw [if_neg (by omega), w64 (by omega) (by omega)]
    exact hR k (by omega)
  | succ d ih =>
    intro k x4 g0 g1 hk hR
    obtain ⟨k, rfl⟩ : ∃ m, k = m + 1 := ⟨k - 1, by omega⟩
    simp only [treelinelaw11_ConfPorts.l1]
    have b1 := hw _ (rd40_mem h0 h1)
    have b2 := hw _ (rd40_mem (l := l) (i := x4) (by omega) (by omega))
    rw [if_pos (by omega), id_eq a0 a1 a2 a3 a4 a5 a6 l hl hw h0 h1, id_eq a0 a1 a2 a3 a4 a5 a6 l hl hw (i := x4) (by omega) (by omega)]
    simp only [Option.bind_some]
    rw [if_neg (by omega), w64 (by omega) (by omega)]
    exact ih k (x4 + 1) (by omega) (by omega) (by omega) (fun k' hk' => hR k' (by omega))
theorem outer (d : Nat) : ∀ (k : Nat) (i : Int), 0 ≤ i → i + d = l.length → 300 * d + 300 < k → treelinelaw11_ConfPorts.l0 k i a0 a1 a2 a3 a4 a5 a6 l = some true := by
  induction d with
  | zero =>
    intro k i h0 h1 hk
    obtain ⟨k, rfl⟩ : ∃ m, k = m + 1 := ⟨k - 1, by omega⟩
    simp only [treelinelaw11_ConfPorts.l0]
    rw [if_neg (by omega), id_out a0 a1 a2 a3 a4 a5 a6 l (i := -1) (by omega), id_out a0 a1 a2 a3 a4 a5 a6 l (i := l.length) (by omega)]
    rfl
  | succ d ih =>
    intro k i h0 h1 hk
    obtain ⟨k, rfl⟩ : ∃ m, k = m + 1 := ⟨k - 1, by omega⟩
    have b1 := hw _ (rd40_mem (l := l) (i := i) (by omega) (by omega))
    simp only [treelinelaw11_ConfPorts.l0]
    rw [if_pos (by omega), id_eq a0 a1 a2 a3 a4 a5 a6 l hl hw (i := i) (by omega) (by omega)]
    simp only [Option.bind_some]
    rw [if_neg (by omega)]
    have hi : i.toNat ≤ 200 := by omega
    refine inner a0 a1 a2 a3 a4 a5 a6 l hl hw i h0 (by omega) _ i.toNat k 0 (by omega) (by omega) (by omega) ?_
    intro k' hk'
    refine ih k' (i + 1) (by omega) (by omega) ?_
    omega
end
theorem ConfPorts (a : Int × Int × Int × Int × Int × Int × Int × List S40) (w : confPorts.wf27 a) :
    ∃ k, treelinelaw11_ConfPorts.f k a.1 a.2.1 a.2.2.1 a.2.2.2.1 a.2.2.2.2.1 a.2.2.2.2.2.1 a.2.2.2.2.2.2.1 a.2.2.2.2.2.2.2 = some true := by
  obtain ⟨a0, a1, m, h, d, a5, a6, l⟩ := a
  obtain ⟨-, -, -, -, -, -, -, hw⟩ := w
  refine ⟨300 * l.length + 302, ?_⟩
  unfold treelinelaw11_ConfPorts.f treelineref11_Few.f
  simp only [awake_eq, Option.bind_some, if_true]
  by_cases c : (l.length : Int) ≤ 200
  · rw [decide_eq_true c]
    simp only [treelinelaw11_ConfPorts.j0, Bool.not_true, Bool.false_eq_true, if_false]
    exact outer _ _ _ _ _ _ _ l (by omega) (fun y hy => wf_u8 (hw y hy).1) l.length _ 0 (by omega) (by omega) (by omega)
  · rw [decide_eq_false c]
    simp only [treelinelaw11_ConfPorts.j0, Bool.not_false, if_true, awake_eq, Option.bind_some]
end Go.Proofs.Ytahhlbbgjjhncaa.Pure
