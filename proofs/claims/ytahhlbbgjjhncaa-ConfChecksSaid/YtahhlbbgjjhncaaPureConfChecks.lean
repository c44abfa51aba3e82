/- For every configuration, port's configuration and place the law ConfChecks answers true: what is wrong with any configuration first is the document's; so are the numbers of bridges and ports. -/
import Derived.Test.YtahhlbbgjjhncaaOConfChecksx5
import Derived.Test.YtahhlbbgjjhncaaAr
import Derived.Test.YtahhlbbgjjhncaaShapeConfChecks
namespace Go.Proofs.Ytahhlbbgjjhncaa.Pure
open Go.RowKit Go.Proofs.Ytahhlbbgjjhncaa.PConfChecks Go.Proofs.YtahhlbbgjjhncaaW.PrintWords Go.Proofs.YtahhlbbgjjhncaaW.PrintLast Go.Proofs.YtahhlbbgjjhncaaW.PrintMore Go.Proofs.Ytahhlbbgjjhncaa.Ar
set_option linter.unusedVariables false
set_option linter.unusedSimpArgs false
def goodTimes (m h d : Int) : Bool := decide (6 ≤ m ∧ m ≤ 40 ∧ 1 ≤ h ∧ h ≤ 10 ∧ 4 ≤ d ∧ d ≤ 30 ∧ m ≤ 2 * (d - 1) ∧ 2 * (h + 1) ≤ m)
theorem within_eq (n lo hi : Int) : conf_within.f n lo hi = some (decide (lo ≤ n ∧ n ≤ hi)) := by
  unfold conf_within.f
  by_cases c : n ≥ lo
  · rw [if_pos c]; congr 1; rw [decide_eq_decide]; omega
  · rw [if_neg c, decide_eq_false (by omega)]
theorem times_eq (a0 a1 m h d a5 a6 : Int) (l : List S40) : conf_Times.f a0 a1 m h d a5 a6 l = some (goodTimes m h d) := by
  unfold conf_Times.f goodTimes
  simp only [within_eq, Option.bind_some, decide_eq_true_eq]
  by_cases c1 : 6 ≤ m ∧ m ≤ 40
  · rw [if_pos c1]
    by_cases c2 : 1 ≤ h ∧ h ≤ 10
    · rw [if_pos c2]
      by_cases c3 : 4 ≤ d ∧ d ≤ 30
      · rw [if_pos c3, w64 (x := d - 1) (by omega) (by omega), w64 (x := 2 * (d - 1)) (by omega) (by omega), w64 (x := h + 1) (by omega) (by omega), w64 (x := 2 * (h + 1)) (by omega) (by omega)]
        by_cases c4 : 2 * (d - 1) ≥ m
        · rw [if_pos c4]; congr 1; rw [decide_eq_decide]; omega
        · rw [if_neg c4, decide_eq_false (by omega)]
      · rw [if_neg c3, decide_eq_false (by omega)]
    · rw [if_neg c2, decide_eq_false (by omega)]
  · rw [if_neg c1, decide_eq_false (by omega)]
theorem awake_eq : treelinelaw11_awake.f = some true := by
  unfold treelinelaw11_awake.f
  simp only [times_eq, Option.bind_some]
  rfl
theorem rd40_mem {l : List S40} {i : Int} (h0 : 0 ≤ i) (h1 : i < l.length) : rd_T40 l i ∈ l := by
  have h : i.toNat < l.length := by omega
  unfold rd_T40
  rw [List.getD_eq_getElem?_getD, List.getElem?_eq_getElem h]
  exact List.getElem_mem h
theorem port_eq {p i : Int} (hp : 0 ≤ p ∧ p < 256) (hi : 0 ≤ i ∧ i < 255) : ids_Port.f p i = some (p * 256 + (i + 1)) := by
  unfold ids_Port.f
  rw [w64 (by omega) (by omega), wu16 hp.1 (by omega), wu16 (by omega) (by omega),
    join_u16 8 (r := 256) (by decide) (by omega) (by omega) (by omega) (by omega) (by omega) (by omega)]
  congr 1; omega
theorem group_eq {a : Int} (ha : 0 ≤ a ∧ a < 18446744073709551616) : ids_Group.f a = some (a / 1099511627776 % 2 == 1) := by
  unfold ids_Group.f
  rw [mask_u64 1 (by decide) (by omega) (by omega) (m := 1) (r := 2) (by decide) (by decide)]
def rightA (a : Int) : Bool := decide (0 < a ∧ a < 281474976710656 ∧ a / 1099511627776 % 2 = 0)
theorem right_eq {a : Int} (ha : 0 ≤ a ∧ a < 18446744073709551616) : ids_Right.f a = some (rightA a) := by
  unfold ids_Right.f rightA
  rw [group_eq ha]
  simp only [Option.bind_some]
  by_cases h : a > 0
  · rw [if_pos h]
    by_cases h1 : a < 281474976710656
    · rw [if_pos (by omega)]
      have : a / 1099511627776 % 2 = 0 ∨ a / 1099511627776 % 2 = 1 := by omega
      rcases this with e | e
      · rw [decide_eq_true ⟨by omega, h1, e⟩, e]; rfl
      · rw [decide_eq_false (by omega), e]; rfl
    · rw [if_neg (by omega), decide_eq_false (by omega)]
  · rw [if_neg h, decide_eq_false (by omega)]
theorem bridge_eq {p a : Int} (hp : 0 ≤ p ∧ p < 65536) (ha : 0 ≤ a ∧ a < 18446744073709551616) : ids_Bridge.f p a = some (p * 281474976710656 + a % 281474976710656) := by
  unfold ids_Bridge.f
  rw [mask_u64 48 (by decide) ha.1 ha.2 (m := 281474976710655) (r := 281474976710656) (by decide) (by decide), wu64 hp.1 (by omega), wu64 (by omega) (by omega),
    join_u64 48 (r := 281474976710656) (by decide) (by omega) (by omega) (by omega) (by omega) (by omega) (by omega)]
/-- What is wrong with a configuration first. -/
def checkA (a m h d g t : Int) (l : List S40) : Int :=
  if rightA a = false then 1 else if (goodTimes m h d && decide (10 ≤ g ∧ g ≤ 1000000) && decide (0 ≤ t ∧ t ≤ 64)) = false then 3 else if l.length = 0 then 8 else if l.length > 4 then 4 else
    if l.all (fun p => decide (1 ≤ p.f1 ∧ p.f1 ≤ 65535)) then 0 else 3
theorem drop_cons40 {l : List S40} {i : Int} (h0 : 0 ≤ i) (h1 : i < l.length) : l.drop i.toNat = rd_T40 l i :: l.drop (i + 1).toNat := by
  have h : i.toNat < l.length := by omega
  rw [List.drop_eq_getElem_cons h, show (i + 1).toNat = i.toNat + 1 from by omega]
  congr 1
  unfold rd_T40
  rw [List.getD_eq_getElem?_getD, List.getElem?_eq_getElem h]; rfl
theorem check_l0 (l : List S40) (hs : l.length ≤ 4) (d : Nat) : ∀ (k : Nat) (i : Int), 0 ≤ i → i + d = l.length → d < k →
    conf_Check.l0 k l l.length i = some (if (l.drop i.toNat).all (fun p => decide (1 ≤ p.f1 ∧ p.f1 ≤ 65535)) then 0 else 3) := by
  induction d with
  | zero =>
    intro k i h0 h1 hk
    obtain ⟨k, rfl⟩ : ∃ m, k = m + 1 := ⟨k - 1, by omega⟩
    simp only [conf_Check.l0]
    rw [if_neg (by omega), List.drop_of_length_le (by omega)]; rfl
  | succ d ih =>
    intro k i h0 h1 hk
    obtain ⟨k, rfl⟩ : ∃ m, k = m + 1 := ⟨k - 1, by omega⟩
    simp only [conf_Check.l0]
    rw [if_pos (by omega), if_pos h0, if_pos (by omega), drop_cons40 h0 (by omega), List.all_cons]
    unfold conf_Port.f
    by_cases c : (rd_T40 l i).f1 ≥ 1
    · rw [if_pos c]
      simp only [Option.bind_some]
      by_cases e : (rd_T40 l i).f1 ≤ 65535
      · rw [decide_eq_true e, if_pos rfl, decide_eq_true ⟨c, e⟩, Bool.true_and, w64 (by omega) (by omega)]
        exact ih k (i + 1) (by omega) (by omega) (by omega)
      · rw [decide_eq_false e, if_neg (by decide), decide_eq_false (by omega)]; rfl
    · rw [if_neg c, decide_eq_false (by omega)]; rfl
theorem check_eq (k : Nat) (a p m h d g t : Int) (l : List S40) (ha : 0 ≤ a ∧ a < 18446744073709551616) : conf_Check.f (k + 7) a p m h d g t l = some (checkA a m h d g t l) := by
  have j : ∀ b : Bool, conf_Check.j0 (k + 7) b a p m h d g t l = some (if b = true then 3 else if l.length = 0 then 8 else if l.length > 4 then 4 else if l.all (fun p => decide (1 ≤ p.f1 ∧ p.f1 ≤ 65535)) then 0 else 3) := by
    intro b
    simp only [conf_Check.j0]
    by_cases c : b = true
    · rw [if_pos c, if_pos c]
    · rw [if_neg c, if_neg c]
      by_cases c1 : l.length = 0
      · rw [if_pos (by omega), if_pos c1]
      · rw [if_neg (by omega), if_neg c1]
        by_cases c2 : l.length > 4
        · rw [if_pos (by omega), if_pos c2]
        · rw [if_neg (by omega), if_neg c2]
          exact check_l0 l (by omega) l.length (k + 6) 0 (by omega) (by omega) (by omega)
  unfold conf_Check.f checkA
  rw [right_eq ha]
  simp only [Option.bind_some, times_eq, within_eq]
  cases rightA a with
  | false => rfl
  | true =>
    simp only [if_true, Bool.true_eq_false, if_false]
    cases goodTimes m h d with
    | false => simp [j]
    | true =>
      simp only [if_true, Bool.true_and]
      by_cases c1 : 10 ≤ g ∧ g ≤ 1000000
      · simp only [decide_eq_true c1, if_true, Bool.true_and]
        rw [j]
        by_cases c2 : 0 ≤ t ∧ t ≤ 64
        · simp [c2]
        · simp [c2]
      · simp only [decide_eq_false c1, Bool.false_eq_true, if_false, Bool.false_and]
        rw [j]; rfl
theorem reftimes_eq (a0 a1 m h d a5 a6 : Int) (l : List S40) : treelineref11_Times.f a0 a1 m h d a5 a6 l = some (goodTimes m h d) := by
  unfold treelineref11_Times.f goodTimes
  by_cases c1 : m < 6
  · rw [if_pos c1, decide_eq_false (by omega)]
  · rw [if_neg c1]
    by_cases c2 : m > 40
    · rw [if_pos c2, decide_eq_false (by omega)]
    · rw [if_neg c2]
      by_cases c3 : h < 1
      · rw [if_pos c3, decide_eq_false (by omega)]
      · rw [if_neg c3]
        by_cases c4 : h > 10
        · rw [if_pos c4, decide_eq_false (by omega)]
        · rw [if_neg c4]
          by_cases c5 : d < 4
          · rw [if_pos c5, decide_eq_false (by omega)]
          · rw [if_neg c5]
            by_cases c6 : d > 30
            · rw [if_pos c6, decide_eq_false (by omega)]
            · rw [if_neg c6, w64 (x := d - 1) (by omega) (by omega), w64 (x := 2 * (d - 1)) (by omega) (by omega), w64 (x := h + 1) (by omega) (by omega), w64 (x := 2 * (h + 1)) (by omega) (by omega)]
              by_cases c7 : m ≤ 2 * (d - 1)
              · rw [if_pos c7]; congr 1; rw [decide_eq_decide]; omega
              · rw [if_neg c7, decide_eq_false (by omega)]
theorem refright_eq {a : Int} (ha : 0 ≤ a ∧ a < 18446744073709551616) : treelineref01_Right.f a = some (rightA a) := by
  unfold treelineref01_Right.f rightA
  rw [tdiv_nn ha.1, wu64 (by omega) (by omega), tmod_nn (by omega)]
  by_cases h : a > 0
  · rw [if_pos h]
    by_cases h1 : a < 281474976710656
    · rw [if_pos h1]; congr 1; rw [Bool.eq_iff_iff, beq_iff_eq, decide_eq_true_iff]; omega
    · rw [if_neg h1, decide_eq_false (by omega)]
  · rw [if_neg h, decide_eq_false (by omega)]
theorem refcheck_l0 (a0 a1 a2 a3 a4 a5 a6 : Int) (l : List S40) (hs : l.length ≤ 4) (d : Nat) : ∀ (k : Nat) (i : Int), 0 ≤ i → i + d = l.length → d < k →
    treelineref11_Check.l0 k i a0 a1 a2 a3 a4 a5 a6 l = some (if (l.drop i.toNat).all (fun p => decide (1 ≤ p.f1 ∧ p.f1 ≤ 65535)) then 0 else 3) := by
  induction d with
  | zero =>
    intro k i h0 h1 hk
    obtain ⟨k, rfl⟩ : ∃ m, k = m + 1 := ⟨k - 1, by omega⟩
    simp only [treelineref11_Check.l0]
    rw [if_neg (by omega), List.drop_of_length_le (by omega)]; rfl
  | succ d ih =>
    intro k i h0 h1 hk
    obtain ⟨k, rfl⟩ : ∃ m, k = m + 1 := ⟨k - 1, by omega⟩
    simp only [treelineref11_Check.l0]
    rw [if_pos (by omega), if_pos h0, drop_cons40 h0 (by omega), List.all_cons]
    by_cases c : (rd_T40 l i).f1 < 1
    · rw [if_pos c, decide_eq_false (by omega)]; rfl
    · rw [if_neg c]
      by_cases e : (rd_T40 l i).f1 > 65535
      · rw [if_pos e, decide_eq_false (by omega)]; rfl
      · rw [if_neg e, decide_eq_true (by omega), Bool.true_and, w64 (by omega) (by omega)]
        exact ih k (i + 1) (by omega) (by omega) (by omega)
theorem refcheck_eq (k : Nat) (a p m h d g t : Int) (l : List S40) (ha : 0 ≤ a ∧ a < 18446744073709551616) : treelineref11_Check.f (k + 7) a p m h d g t l = some (checkA a m h d g t l) := by
  have j : ∀ b : Bool, treelineref11_Check.j0 (k + 7) b a p m h d g t l = some (if b = true then 3 else if l.length = 0 then 8 else if l.length > 4 then 4 else if l.all (fun p => decide (1 ≤ p.f1 ∧ p.f1 ≤ 65535)) then 0 else 3) := by
    intro b
    simp only [treelineref11_Check.j0]
    by_cases c : b = true
    · rw [if_pos c, if_pos c]
    · rw [if_neg c, if_neg c]
      by_cases c1 : l.length = 0
      · rw [if_pos (by omega), if_pos c1]
      · rw [if_neg (by omega), if_neg c1]
        by_cases c2 : l.length > 4
        · rw [if_pos (by omega), if_pos c2]
        · rw [if_neg (by omega), if_neg c2]
          exact refcheck_l0 _ _ _ _ _ _ _ l (by omega) l.length (k + 6) 0 (by omega) (by omega) (by omega)
  unfold treelineref11_Check.f checkA
  rw [refright_eq ha]
  simp only [Option.bind_some, reftimes_eq]
  cases rightA a with
  | false => rfl
  | true =>
    simp only [if_true, Bool.true_eq_false, if_false]
    cases goodTimes m h d with
    | false => simp [j]
    | true =>
      simp only [if_true, Bool.true_and]
      by_cases c1 : g < 10
      · rw [if_pos c1, j, decide_eq_false (p := 10 ≤ g ∧ g ≤ 1000000) (by omega)]; rfl
      · rw [if_neg c1]
        by_cases c2 : g > 1000000
        · rw [if_pos c2, j, decide_eq_false (p := 10 ≤ g ∧ g ≤ 1000000) (by omega)]; rfl
        · rw [if_neg c2, decide_eq_true (p := 10 ≤ g ∧ g ≤ 1000000) (by omega)]
          by_cases c3 : t < 0
          · rw [if_pos c3, j, decide_eq_false (p := 0 ≤ t ∧ t ≤ 64) (by omega)]; rfl
          · rw [if_neg c3, j]
            by_cases c4 : t > 64
            · rw [decide_eq_true c4, decide_eq_false (p := 0 ≤ t ∧ t ≤ 64) (by omega)]; rfl
            · rw [decide_eq_false c4, decide_eq_true (p := 0 ≤ t ∧ t ≤ 64) (by omega)]; rfl
theorem refid_eq {a0 a1 a2 a3 a4 a5 a6 : Int} {l : List S40} (h0 : 0 ≤ a0 ∧ a0 < 18446744073709551616) (h1 : 0 ≤ a1 ∧ a1 < 65536) : treelineref11_Id.f a0 a1 a2 a3 a4 a5 a6 l = conf_Id.f a0 a1 a2 a3 a4 a5 a6 l := by
  unfold treelineref11_Id.f conf_Id.f treelineref01_Least.f
  rw [bridge_eq h1 h0]
  simp only [Option.bind_some]
  rw [tmod_nn h0.1, wu64 (x := a1) (by omega) (by omega), wu64 (x := a1 * 281474976710656) (by omega) (by omega), wu64 (by omega) (by omega)]
theorem refport_eq {a0 a1 a2 a3 a4 a5 a6 : Int} {l : List S40} (hl : l.length ≤ 200) (hw : ∀ y ∈ l, 0 ≤ y.f0 ∧ y.f0 < 256) (i : Int) : ∃ p, conf_PortId.f a0 a1 a2 a3 a4 a5 a6 l i = some p ∧ treelineref11_Port.f a0 a1 a2 a3 a4 a5 a6 l i = some p := by
  unfold treelineref11_Port.f conf_PortId.f
  by_cases c1 : i < 0
  · rw [if_pos c1, if_pos c1]; exact ⟨0, rfl, rfl⟩
  · rw [if_neg c1, if_neg c1]
    by_cases c2 : i ≥ l.length
    · rw [if_pos c2, if_pos c2]; exact ⟨0, rfl, rfl⟩
    · have b := hw _ (rd40_mem (l := l) (i := i) (by omega) (by omega))
      rw [if_neg c2, if_neg c2, if_pos (by omega), if_pos (by omega), if_pos (by omega), if_pos (by omega), port_eq b (by omega)]
      refine ⟨_, rfl, ?_⟩
      rw [w64 (x := i + 1) (by omega) (by omega), tmod_nn (by omega), w64 (x := (rd_T40 l i).f0) (by omega) (by omega), w64 (x := (rd_T40 l i).f0 * 256) (by omega) (by omega), w64 (by omega) (by omega), wu16 (by omega) (by omega)]
      congr 1; omega
theorem ConfChecks (a : Int × Int × Int × Int × Int × Int × Int × List S40) (p : S40) (i : Int) (wa : confChecks.wf27 a) (wp : confChecks.wf40 p) (wi : (Lit.int .i64 i).wf = true) :
    ∃ k, treelinelaw11_ConfChecks.f k a.1 a.2.1 a.2.2.1 a.2.2.2.1 a.2.2.2.2.1 a.2.2.2.2.2.1 a.2.2.2.2.2.2.1 a.2.2.2.2.2.2.2 p.f0 p.f1 p.f2 i = some true := by
  obtain ⟨a0, a1, m, h, d, a5, a6, l⟩ := a
  obtain ⟨w0, w1, -, -, -, -, -, hw⟩ := wa
  replace w0 := wf_u64 w0
  replace w1 := wf_u16 w1
  refine ⟨20, ?_⟩
  unfold treelinelaw11_ConfChecks.f treelineref11_Few.f
  simp only [awake_eq, Option.bind_some, if_true]
  by_cases c : (l.length : Int) ≤ 200
  · rw [decide_eq_true c]
    obtain ⟨q, hq1, hq2⟩ := refport_eq (a0 := a0) (a1 := a1) (a2 := m) (a3 := h) (a4 := d) (a5 := a5) (a6 := a6) (l := l) (by omega) (fun y hy => wf_u8 (hw y hy).1) i
    simp only [treelinelaw11_ConfChecks.j0, Bool.not_true, Bool.false_eq_true, if_false]
    rw [check_eq 12 _ _ _ _ _ _ _ _ w0, refcheck_eq 12 _ _ _ _ _ _ _ _ w0, refid_eq w0 w1, hq1, hq2]
    simp only [Option.bind_some, if_true, times_eq, reftimes_eq, beq_self_eq_true, conf_Id.f, bridge_eq w1 w0, conf_Port.f]
    by_cases e : p.f1 ≥ 1
    · rw [if_pos e]
      simp only [Option.bind_some]
      rw [if_pos (by omega), if_pos (by rw [beq_iff_eq, decide_eq_decide]; omega)]
    · rw [if_neg e]
      simp only [Option.bind_some]
      rw [if_neg (by omega)]
      rfl
  · rw [decide_eq_false c]
    simp only [treelinelaw11_ConfChecks.j0, Bool.not_false, if_true, awake_eq, Option.bind_some]
end Go.Proofs.Ytahhlbbgjjhncaa.Pure
