/- For every configuration the law ConfCopies answers true: a copy is alike, in new memory. -/
import Derived.Test.YtahhlbbgjjhncaaOConfCopiesx3
import Derived.Test.YtahhlbbgjjhncaaAr
import Derived.Test.YtahhlbbgjjhncaaShapeConfCopies
namespace Go.Proofs.Ytahhlbbgjjhncaa.Pure
open Go.RowKit Go.Proofs.Ytahhlbbgjjhncaa.PConfCopies Go.Proofs.YtahhlbbgjjhncaaW.PrintWords Go.Proofs.YtahhlbbgjjhncaaW.PrintLast Go.Proofs.YtahhlbbgjjhncaaW.PrintMore Go.Proofs.Ytahhlbbgjjhncaa.Ar
set_option linter.unusedVariables false
set_option linter.unusedSimpArgs false
def goodTimes (m h d : Int) : Bool := decide (6 ≤ m ∧ m ≤ 40 ∧ 1 ≤ h ∧ h ≤ 10 ∧ 4 ≤ d ∧ d ≤ 30 ∧ m ≤ 2 * (d - 1) ∧ 2 * (h + 1) ≤ m)
theorem within_eq (n lo hi : Int) : conf_within.f n lo hi = some (decide (lo ≤ n ∧ n ≤ hi)) := by
  unfold conf_within.f
  by_cases c : n ≥ lo
  · rw [if_pos c]; congr 1; rw [decide_eq_decide]; omega
  · rw [if_neg c, decide_eq_false (by omega)]
theorem times_eq (a0 a1 m h d a5 a6 : Int) (l : List S40) : conf_Times.f a0 a1 m h d a5 a6 l = some (goodTimes m h d) := by
  unfold conf_Times.f goodTimes
  simp only [within_eq, Option.bind_some, decide_eq_true_eq]
  by_cases c1 : 6 ≤ m ∧ m ≤ 40
  · rw [if_pos c1]
    by_cases c2 : 1 ≤ h ∧ h ≤ 10
    · rw [if_pos c2]
      by_cases c3 : 4 ≤ d ∧ d ≤ 30
      · rw [if_pos c3, w64 (x := d - 1) (by omega) (by omega), w64 (x := 2 * (d - 1)) (by omega) (by omega), w64 (x := h + 1) (by omega) (by omega), w64 (x := 2 * (h + 1)) (by omega) (by omega)]
        by_cases c4 : 2 * (d - 1) ≥ m
        · rw [if_pos c4]; congr 1; rw [decide_eq_decide]; omega
        · rw [if_neg c4, decide_eq_false (by omega)]
      · rw [if_neg c3, decide_eq_false (by omega)]
    · rw [if_neg c2, decide_eq_false (by omega)]
  · rw [if_neg c1, decide_eq_false (by omega)]
theorem awake_eq : treelinelaw11_awake.f = some true := by
  unfold treelinelaw11_awake.f
  simp only [times_eq, Option.bind_some]
  rfl
theorem rd40_mem {l : List S40} {i : Int} (h0 : 0 ≤ i) (h1 : i < l.length) : rd_T40 l i ∈ l := by
  have h : i.toNat < l.length := by omega
  unfold rd_T40
  rw [List.getD_eq_getElem?_getD, List.getElem?_eq_getElem h]
  exact List.getElem_mem h
theorem group_eq {a : Int} (ha : 0 ≤ a ∧ a < 18446744073709551616) : ids_Group.f a = some (a / 1099511627776 % 2 == 1) := by
  unfold ids_Group.f
  rw [mask_u64 1 (by decide) (by omega) (by omega) (m := 1) (r := 2) (by decide) (by decide)]
def rightA (a : Int) : Bool := decide (0 < a ∧ a < 281474976710656 ∧ a / 1099511627776 % 2 = 0)
theorem right_eq {a : Int} (ha : 0 ≤ a ∧ a < 18446744073709551616) : ids_Right.f a = some (rightA a) := by
  unfold ids_Right.f rightA
  rw [group_eq ha]
  simp only [Option.bind_some]
  by_cases h : a > 0
  · rw [if_pos h]
    by_cases h1 : a < 281474976710656
    · rw [if_pos (by omega)]
      have : a / 1099511627776 % 2 = 0 ∨ a / 1099511627776 % 2 = 1 := by omega
      rcases this with e | e
      · rw [decide_eq_true ⟨by omega, h1, e⟩, e]; rfl
      · rw [decide_eq_false (by omega), e]; rfl
    · rw [if_neg (by omega), decide_eq_false (by omega)]
  · rw [if_neg h, decide_eq_false (by omega)]
theorem bridge_eq {p a : Int} (hp : 0 ≤ p ∧ p < 65536) (ha : 0 ≤ a ∧ a < 18446744073709551616) : ids_Bridge.f p a = some (p * 281474976710656 + a % 281474976710656) := by
  unfold ids_Bridge.f
  rw [mask_u64 48 (by decide) ha.1 ha.2 (m := 281474976710655) (r := 281474976710656) (by decide) (by decide), wu64 hp.1 (by omega), wu64 (by omega) (by omega),
    join_u64 48 (r := 281474976710656) (by decide) (by omega) (by omega) (by omega) (by omega) (by omega) (by omega)]
/-- What is wrong with a configuration first. -/
def checkA (a m h d g t : Int) (l : List S40) : Int :=
  if rightA a = false then 1 else if (goodTimes m h d && decide (10 ≤ g ∧ g ≤ 1000000) && decide (0 ≤ t ∧ t ≤ 64)) = false then 3 else if l.length = 0 then 8 else if l.length > 4 then 4 else
    if l.all (fun p => decide (1 ≤ p.f1 ∧ p.f1 ≤ 65535)) then 0 else 3
theorem drop_cons40 {l : List S40} {i : Int} (h0 : 0 ≤ i) (h1 : i < l.length) : l.drop i.toNat = rd_T40 l i :: l.drop (i + 1).toNat := by
  have h : i.toNat < l.length := by omega
  rw [List.drop_eq_getElem_cons h, show (i + 1).toNat = i.toNat + 1 from by omega]
  congr 1
  unfold rd_T40
  rw [List.getD_eq_getElem?_getD, List.getElem?_eq_getElem h]; rfl
theorem check_l0 (l : List S40) (hs : l.length ≤ 4) (d : Nat) : ∀ (k : Nat) (i : Int), 0 ≤ i → i + d = l.length → d < k →
    conf_Check.l0 k l l.length i = some (if (l.drop i.toNat).all (fun p => decide (1 ≤ p.f1 ∧ p.f1 ≤ 65535)) then 0 else 3) := by
  induction d with
  | zero =>
    intro k i h0 h1 hk
    obtain ⟨k, rfl⟩ : ∃ m, k = m + 1 := ⟨k - 1, by omega⟩
    simp only [conf_Check.l0]
    rw [if_neg (by omega), List.drop_of_length_le (by omega)]; rfl
  | succ d ih =>
    intro k i h0 h1 hk
    obtain ⟨k, rfl⟩ : ∃ m, k = m + 1 := ⟨k - 1, by omega⟩
    simp only [conf_Check.l0]
    rw [if_pos (by omega), if_pos h0, if_pos (by omega), drop_cons40 h0 (by omega), List.all_cons]
    unfold conf_Port.f
    by_cases c : (rd_T40 l i).f1 ≥ 1
    · rw [if_pos c]
      simp only [Option.bind_some]
      by_cases e : (rd_T40 l i).f1 ≤ 65535
      · rw [decide_eq_true e, if_pos rfl, decide_eq_true ⟨c, e⟩, Bool.true_and, w64 (by omega) (by omega)]
        exact ih k (i + 1) (by omega) (by omega) (by omega)
      · rw [decide_eq_false e, if_neg (by decide), decide_eq_false (by omega)]; rfl
    · rw [if_neg c, decide_eq_false (by omega)]; rfl
theorem check_eq (k : Nat) (a p m h d g t : Int) (l : List S40) (ha : 0 ≤ a ∧ a < 18446744073709551616) : conf_Check.f (k + 7) a p m h d g t l = some (checkA a m h d g t l) := by
  have j : ∀ b : Bool, conf_Check.j0 (k + 7) b a p m h d g t l = some (if b = true then 3 else if l.length = 0 then 8 else if l.length > 4 then 4 else if l.all (fun p => decide (1 ≤ p.f1 ∧ p.f1 ≤ 65535)) then 0 else 3) := by
    intro b
    simp only [conf_Check.j0]
    by_cases c : b = true
    · rw [if_pos c, if_pos c]
    · rw [if_neg c, if_neg c]
      by_cases c1 : l.length = 0
      · rw [if_pos (by omega), if_pos c1]
      · rw [if_neg (by omega), if_neg c1]
        by_cases c2 : l.length > 4
        · rw [if_pos (by omega), if_pos c2]
        · rw [if_neg (by omega), if_neg c2]
          exact check_l0 l (by omega) l.length (k + 6) 0 (by omega) (by omega) (by omega)
  unfold conf_Check.f checkA
  rw [right_eq ha]
  simp only [Option.bind_some, times_eq, within_eq]
  cases rightA a with
  | false => rfl
  | true =>
    simp only [if_true, Bool.true_eq_false, if_false]
    cases goodTimes m h d with
    | false => simp [j]
    | true =>
      simp only [if_true, Bool.true_and]
      by_cases c1 : 10 ≤ g ∧ g ≤ 1000000
      · simp only [decide_eq_true c1, if_true, Bool.true_and]
        rw [j]
        by_cases c2 : 0 ≤ t ∧ t ≤ 64
        · simp [c2]
        · simp [c2]
      · simp only [decide_eq_false c1, Bool.false_eq_true, if_false, Bool.false_and]
        rw [j]; rfl
theorem rd40_set_ne {l : List S40} {i j : Int} (h0 : 0 ≤ i) (h1 : 0 ≤ j) (h : i ≠ j) (x : S40) : rd_T40 (l.set i.toNat x) j = rd_T40 l j := by
  unfold rd_T40
  rw [List.getD_eq_getElem?_getD, List.getElem?_set_ne (by omega), ← List.getD_eq_getElem?_getD]
theorem copies_l0 (a0 a1 a2 a3 a4 a5 a6 b0 b1 b2 b3 b4 b5 b6 : Int) (l : List S40) (hs : l.length ≤ 200) (d : Nat) : ∀ (k : Nat) (i : Int) (m : List S40), 0 ≤ i → i + d = l.length → d < k → m.length = l.length → (∀ j : Int, i ≤ j → rd_T40 m j = rd_T40 l j) →
    treelinelaw11_ConfCopies.l0 k i a0 a1 a2 a3 a4 a5 a6 l b0 b1 b2 b3 b4 b5 b6 m = some true := by
  induction d with
  | zero =>
    intro k i m h0 h1 hk hm _
    obtain ⟨k, rfl⟩ : ∃ m, k = m + 1 := ⟨k - 1, by omega⟩
    simp only [treelinelaw11_ConfCopies.l0]
    rw [if_neg (by omega)]
  | succ d ih =>
    intro k i m h0 h1 hk hm he
    obtain ⟨k, rfl⟩ : ∃ m, k = m + 1 := ⟨k - 1, by omega⟩
    simp only [treelinelaw11_ConfCopies.l0]
    rw [if_pos (by omega), if_pos h0, if_pos (by omega), he i (by omega), if_neg (by simp), w64 (by omega) (by omega)]
    refine ih k (i + 1) _ (by omega) (by omega) (by omega) (by rw [List.length_set]; exact hm) (fun j hj => ?_)
    rw [rd40_set_ne h0 (by omega) (by omega)]
    exact he j (by omega)
theorem ConfCopies (a : Int × Int × Int × Int × Int × Int × Int × List S40) (w : confCopies.wf27 a) :
    ∃ k, treelinelaw11_ConfCopies.f k a.1 a.2.1 a.2.2.1 a.2.2.2.1 a.2.2.2.2.1 a.2.2.2.2.2.1 a.2.2.2.2.2.2.1 a.2.2.2.2.2.2.2 = some true := by
  obtain ⟨a0, a1, m, h, d, a5, a6, l⟩ := a
  obtain ⟨w0, w1, -⟩ := w
  replace w0 := wf_u64 w0
  replace w1 := wf_u16 w1
  refine ⟨300, ?_⟩
  unfold treelinelaw11_ConfCopies.f treelineref11_Few.f
  simp only [awake_eq, Option.bind_some, if_true]
  by_cases c : (l.length : Int) ≤ 200
  · rw [decide_eq_true c]
    simp only [treelinelaw11_ConfCopies.j0, Bool.not_true, Bool.false_eq_true, if_false, conf_Copy.f, Option.bind_some, List.nil_append, List.length_nil]
    rw [if_pos (by omega)]
    simp only [Option.bind_some, if_true]
    rw [check_eq 292 _ _ _ _ _ _ _ _ w0]
    simp only [Option.bind_some, if_true, conf_Id.f, bridge_eq w1 w0, bne_self_eq_false, treelinelaw11_ConfCopies.j1, Bool.false_eq_true, if_false]
    exact copies_l0 _ _ _ _ _ _ _ _ _ _ _ _ _ _ l (by omega) l.length _ 0 l (by omega) (by omega) (by omega) rfl (fun _ _ => rfl)
  · rw [decide_eq_false c]
    simp only [treelinelaw11_ConfCopies.j0, Bool.not_false, if_true, awake_eq, Option.bind_some]
end Go.Proofs.Ytahhlbbgjjhncaa.Pure
