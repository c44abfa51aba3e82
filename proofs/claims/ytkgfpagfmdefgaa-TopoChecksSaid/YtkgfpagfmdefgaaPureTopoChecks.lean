/- What is wrong with any network first is the document's. -/
import Derived.Test.YtkgfpagfmdefgaaOTopoChecksx16
import Derived.Test.YtkgfpagfmdefgaaAr
namespace Go.Proofs.Ytkgfpagfmdefgaa.Pure
open Go.RowKit Go.Proofs.Ytkgfpagfmdefgaa.OTopoChecks Go.Proofs.YtkgfpagfmdefgaaW.PrintWords Go.Proofs.YtkgfpagfmdefgaaW.PrintLast Go.Proofs.YtkgfpagfmdefgaaW.PrintMore Go.Proofs.Ytkgfpagfmdefgaa.Ar
set_option linter.unusedVariables false
set_option linter.unusedSimpArgs false
/-- From some fuel on it answers v. -/
def Ev {α : Type} (A : Nat → Option α) (v : α) : Prop := ∃ K, ∀ k, K ≤ k → A k = some v
theorem Ev.now {α : Type} {A : Nat → Option α} {v : α} (h : ∀ k, A (k + 1) = some v) : Ev A v := ⟨1, fun k hk => by
  obtain ⟨m, rfl⟩ : ∃ m, k = m + 1 := ⟨k - 1, by omega⟩
  exact h m⟩
theorem Ev.step {α : Type} {A A' : Nat → Option α} {v : α} (h : ∀ k, A (k + 1) = A' k) (e : Ev A' v) : Ev A v := by
  obtain ⟨K, hK⟩ := e
  refine ⟨K + 1, fun k hk => ?_⟩
  obtain ⟨m, rfl⟩ : ∃ m, k = m + 1 := ⟨k - 1, by omega⟩
  rw [h m]
  exact hK m (by omega)
theorem Ev.bind {α β : Type} {A : Nat → Option α} {f : Nat → Option β} {g : β → Nat → Option α} {t : β} {v : α} (h : ∀ k, A (k + 1) = (f k).bind fun t => g t k) (hf : Ev f t) (e : Ev (g t) v) : Ev A v := by
  obtain ⟨K, hK⟩ := e
  obtain ⟨K2, hK2⟩ := hf
  refine ⟨K + K2 + 1, fun k hk => ?_⟩
  obtain ⟨m, rfl⟩ : ∃ m, k = m + 1 := ⟨k - 1, by omega⟩
  rw [h m, hK2 m (by omega)]
  exact hK m (by omega)
/-- Two programs that come to one answer. -/
def Same {α : Type} (A B : Nat → Option α) : Prop := ∃ v, Ev A v ∧ Ev B v

def goodTimes (m h d : Int) : Bool := decide (6 ≤ m ∧ m ≤ 40 ∧ 1 ≤ h ∧ h ≤ 10 ∧ 4 ≤ d ∧ d ≤ 30 ∧ m ≤ 2 * (d - 1) ∧ 2 * (h + 1) ≤ m)
theorem within_eq (n lo hi : Int) : conf_within.f n lo hi = some (decide (lo ≤ n ∧ n ≤ hi)) := by
  unfold conf_within.f
  by_cases c : n ≥ lo
  · rw [if_pos c]; congr 1; rw [decide_eq_decide]; omega
  · rw [if_neg c, decide_eq_false (by omega)]
theorem times_eq (a0 a1 m h d a5 a6 : Int) (l : List S51) : conf_Times.f a0 a1 m h d a5 a6 l = some (goodTimes m h d) := by
  unfold conf_Times.f goodTimes
  simp only [within_eq, Option.bind_some, decide_eq_true_eq]
  by_cases c1 : 6 ≤ m ∧ m ≤ 40
  · rw [if_pos c1]
    by_cases c2 : 1 ≤ h ∧ h ≤ 10
    · rw [if_pos c2]
      by_cases c3 : 4 ≤ d ∧ d ≤ 30
      · rw [if_pos c3, w64 (x := d - 1) (by omega) (by omega), w64 (x := 2 * (d - 1)) (by omega) (by omega), w64 (x := h + 1) (by omega) (by omega), w64 (x := 2 * (h + 1)) (by omega) (by omega)]
        by_cases c4 : 2 * (d - 1) ≥ m
        · rw [if_pos c4]; congr 1; rw [decide_eq_decide]; omega
        · rw [if_neg c4, decide_eq_false (by omega)]
      · rw [if_neg c3, decide_eq_false (by omega)]
    · rw [if_neg c2, decide_eq_false (by omega)]
  · rw [if_neg c1, decide_eq_false (by omega)]
theorem rd40_mem {l : List S51} {i : Int} (h0 : 0 ≤ i) (h1 : i < l.length) : rd_T51 l i ∈ l := by
  have h : i.toNat < l.length := by omega
  unfold rd_T51
  rw [List.getD_eq_getElem?_getD, List.getElem?_eq_getElem h]
  exact List.getElem_mem h

theorem group_eq {a : Int} (ha : 0 ≤ a ∧ a < 18446744073709551616) : ids_Group.f a = some (a / 1099511627776 % 2 == 1) := by
  unfold ids_Group.f
  rw [mask_u64 1 (by decide) (by omega) (by omega) (m := 1) (r := 2) (by decide) (by decide)]
def rightA (a : Int) : Bool := decide (0 < a ∧ a < 281474976710656 ∧ a / 1099511627776 % 2 = 0)
theorem right_eq {a : Int} (ha : 0 ≤ a ∧ a < 18446744073709551616) : ids_Right.f a = some (rightA a) := by
  unfold ids_Right.f rightA
  rw [group_eq ha]
  simp only [Option.bind_some]
  by_cases h : a > 0
  · rw [if_pos h]
    by_cases h1 : a < 281474976710656
    · rw [if_pos (by omega)]
      have : a / 1099511627776 % 2 = 0 ∨ a / 1099511627776 % 2 = 1 := by omega
      rcases this with e | e
      · rw [decide_eq_true ⟨by omega, h1, e⟩, e]; rfl
      · rw [decide_eq_false (by omega), e]; rfl
    · rw [if_neg (by omega), decide_eq_false (by omega)]
  · rw [if_neg h, decide_eq_false (by omega)]

/-- What is wrong with a configuration first. -/
def checkA (a m h d g t : Int) (l : List S51) : Int :=
  if rightA a = false then 1 else if (goodTimes m h d && decide (10 ≤ g ∧ g ≤ 1000000) && decide (0 ≤ t ∧ t ≤ 64)) = false then 3 else if l.length = 0 then 8 else if l.length > 4 then 4 else
    if l.all (fun p => decide (1 ≤ p.f1 ∧ p.f1 ≤ 65535)) then 0 else 3
theorem drop_cons51 {l : List S51} {i : Int} (h0 : 0 ≤ i) (h1 : i < l.length) : l.drop i.toNat = rd_T51 l i :: l.drop (i + 1).toNat := by
  have h : i.toNat < l.length := by omega
  rw [List.drop_eq_getElem_cons h, show (i + 1).toNat = i.toNat + 1 from by omega]
  congr 1
  unfold rd_T51
  rw [List.getD_eq_getElem?_getD, List.getElem?_eq_getElem h]; rfl
theorem check_l0 (l : List S51) (hs : l.length ≤ 4) (d : Nat) : ∀ (k : Nat) (i : Int), 0 ≤ i → i + d = l.length → d < k →
    conf_Check.l0 k l l.length i = some (if (l.drop i.toNat).all (fun p => decide (1 ≤ p.f1 ∧ p.f1 ≤ 65535)) then 0 else 3) := by
  induction d with
  | zero =>
    intro k i h0 h1 hk
    obtain ⟨k, rfl⟩ : ∃ m, k = m + 1 := ⟨k - 1, by omega⟩
    simp only [conf_Check.l0]
    rw [if_neg (by omega), List.drop_of_length_le (by omega)]; rfl
  | succ d ih =>
    intro k i h0 h1 hk
    obtain ⟨k, rfl⟩ : ∃ m, k = m + 1 := ⟨k - 1, by omega⟩
    simp only [conf_Check.l0]
    rw [if_pos (by omega), if_pos h0, if_pos (by omega), drop_cons51 h0 (by omega), List.all_cons]
    unfold conf_Port.f
    by_cases c : (rd_T51 l i).f1 ≥ 1
    · rw [if_pos c]
      simp only [Option.bind_some]
      by_cases e : (rd_T51 l i).f1 ≤ 65535
      · rw [decide_eq_true e, if_pos rfl, decide_eq_true ⟨c, e⟩, Bool.true_and, w64 (by omega) (by omega)]
        exact ih k (i + 1) (by omega) (by omega) (by omega)
      · rw [decide_eq_false e, if_neg (by decide), decide_eq_false (by omega)]; rfl
    · rw [if_neg c, decide_eq_false (by omega)]; rfl
theorem check_eq (k : Nat) (a p m h d g t : Int) (l : List S51) (ha : 0 ≤ a ∧ a < 18446744073709551616) : conf_Check.f (k + 7) a p m h d g t l = some (checkA a m h d g t l) := by
  have j : ∀ b : Bool, conf_Check.j0 (k + 7) b a p m h d g t l = some (if b = true then 3 else if l.length = 0 then 8 else if l.length > 4 then 4 else if l.all (fun p => decide (1 ≤ p.f1 ∧ p.f1 ≤ 65535)) then 0 else 3) := by
    intro b
    simp only [conf_Check.j0]
    by_cases c : b = true
    · rw [if_pos c, if_pos c]
    · rw [if_neg c, if_neg c]
      by_cases c1 : l.length = 0
      · rw [if_pos (by omega), if_pos c1]
      · rw [if_neg (by omega), if_neg c1]
        by_cases c2 : l.length > 4
        · rw [if_pos (by omega), if_pos c2]
        · rw [if_neg (by omega), if_neg c2]
          exact check_l0 l (by omega) l.length (k + 6) 0 (by omega) (by omega) (by omega)
  unfold conf_Check.f checkA
  rw [right_eq ha]
  simp only [Option.bind_some, times_eq, within_eq]
  cases rightA a with
  | false => rfl
  | true =>
    simp only [if_true, Bool.true_eq_false, if_false]
    cases goodTimes m h d with
    | false => simp [j]
    | true =>
      simp only [if_true, Bool.true_and]
      by_cases c1 : 10 ≤ g ∧ g ≤ 1000000
      · simp only [decide_eq_true c1, if_true, Bool.true_and]
        rw [j]
        by_cases c2 : 0 ≤ t ∧ t ≤ 64
        · simp [c2]
        · simp [c2]
      · simp only [decide_eq_false c1, Bool.false_eq_true, if_false, Bool.false_and]
        rw [j]; rfl

theorem reftimes_eq (a0 a1 m h d a5 a6 : Int) (l : List S51) : treelineref11_Times.f a0 a1 m h d a5 a6 l = some (goodTimes m h d) := by
  unfold treelineref11_Times.f goodTimes
  by_cases c1 : m < 6
  · rw [if_pos c1, decide_eq_false (by omega)]
  · rw [if_neg c1]
    by_cases c2 : m > 40
    · rw [if_pos c2, decide_eq_false (by omega)]
    · rw [if_neg c2]
      by_cases c3 : h < 1
      · rw [if_pos c3, decide_eq_false (by omega)]
      · rw [if_neg c3]
        by_cases c4 : h > 10
        · rw [if_pos c4, decide_eq_false (by omega)]
        · rw [if_neg c4]
          by_cases c5 : d < 4
          · rw [if_pos c5, decide_eq_false (by omega)]
          · rw [if_neg c5]
            by_cases c6 : d > 30
            · rw [if_pos c6, decide_eq_false (by omega)]
            · rw [if_neg c6, w64 (x := d - 1) (by omega) (by omega), w64 (x := 2 * (d - 1)) (by omega) (by omega), w64 (x := h + 1) (by omega) (by omega), w64 (x := 2 * (h + 1)) (by omega) (by omega)]
              by_cases c7 : m ≤ 2 * (d - 1)
              · rw [if_pos c7]; congr 1; rw [decide_eq_decide]; omega
              · rw [if_neg c7, decide_eq_false (by omega)]
theorem refright_eq {a : Int} (ha : 0 ≤ a ∧ a < 18446744073709551616) : treelineref01_Right.f a = some (rightA a) := by
  unfold treelineref01_Right.f rightA
  rw [tdiv_nn ha.1, wu64 (by omega) (by omega), tmod_nn (by omega)]
  by_cases h : a > 0
  · rw [if_pos h]
    by_cases h1 : a < 281474976710656
    · rw [if_pos h1]; congr 1; rw [Bool.eq_iff_iff, beq_iff_eq, decide_eq_true_iff]; omega
    · rw [if_neg h1, decide_eq_false (by omega)]
  · rw [if_neg h, decide_eq_false (by omega)]
theorem refcheck_l0 (a0 a1 a2 a3 a4 a5 a6 : Int) (l : List S51) (hs : l.length ≤ 4) (d : Nat) : ∀ (k : Nat) (i : Int), 0 ≤ i → i + d = l.length → d < k →
    treelineref11_Check.l0 k i a0 a1 a2 a3 a4 a5 a6 l = some (if (l.drop i.toNat).all (fun p => decide (1 ≤ p.f1 ∧ p.f1 ≤ 65535)) then 0 else 3) := by
  induction d with
  | zero =>
    intro k i h0 h1 hk
    obtain ⟨k, rfl⟩ : ∃ m, k = m + 1 := ⟨k - 1, by omega⟩
    simp only [treelineref11_Check.l0]
    rw [if_neg (by omega), List.drop_of_length_le (by omega)]; rfl
  | succ d ih =>
    intro k i h0 h1 hk
    obtain ⟨k, rfl⟩ : ∃ m, k = m + 1 := ⟨k - 1, by omega⟩
    simp only [treelineref11_Check.l0]
    rw [if_pos (by omega), if_pos h0, drop_cons51 h0 (by omega), List.all_cons]
    by_cases c : (rd_T51 l i).f1 < 1
    · rw [if_pos c, decide_eq_false (by omega)]; rfl
    · rw [if_neg c]
      by_cases e : (rd_T51 l i).f1 > 65535
      · rw [if_pos e, decide_eq_false (by omega)]; rfl
      · rw [if_neg e, decide_eq_true (by omega), Bool.true_and, w64 (by omega) (by omega)]
        exact ih k (i + 1) (by omega) (by omega) (by omega)
theorem refcheck_eq (k : Nat) (a p m h d g t : Int) (l : List S51) (ha : 0 ≤ a ∧ a < 18446744073709551616) : treelineref11_Check.f (k + 7) a p m h d g t l = some (checkA a m h d g t l) := by
  have j : ∀ b : Bool, treelineref11_Check.j0 (k + 7) b a p m h d g t l = some (if b = true then 3 else if l.length = 0 then 8 else if l.length > 4 then 4 else if l.all (fun p => decide (1 ≤ p.f1 ∧ p.f1 ≤ 65535)) then 0 else 3) := by
    intro b
    simp only [treelineref11_Check.j0]
    by_cases c : b = true
    · rw [if_pos c, if_pos c]
    · rw [if_neg c, if_neg c]
      by_cases c1 : l.length = 0
      · rw [if_pos (by omega), if_pos c1]
      · rw [if_neg (by omega), if_neg c1]
        by_cases c2 : l.length > 4
        · rw [if_pos (by omega), if_pos c2]
        · rw [if_neg (by omega), if_neg c2]
          exact refcheck_l0 _ _ _ _ _ _ _ l (by omega) l.length (k + 6) 0 (by omega) (by omega) (by omega)
  unfold treelineref11_Check.f checkA
  rw [refright_eq ha]
  simp only [Option.bind_some, reftimes_eq]
  cases rightA a with
  | false => rfl
  | true =>
    simp only [if_true, Bool.true_eq_false, if_false]
    cases goodTimes m h d with
    | false => simp [j]
    | true =>
      simp only [if_true, Bool.true_and]
      by_cases c1 : g < 10
      · rw [if_pos c1, j, decide_eq_false (p := 10 ≤ g ∧ g ≤ 1000000) (by omega)]; rfl
      · rw [if_neg c1]
        by_cases c2 : g > 1000000
        · rw [if_pos c2, j, decide_eq_false (p := 10 ≤ g ∧ g ≤ 1000000) (by omega)]; rfl
        · rw [if_neg c2, decide_eq_true (p := 10 ≤ g ∧ g ≤ 1000000) (by omega)]
          by_cases c3 : t < 0
          · rw [if_pos c3, j, decide_eq_false (p := 0 ≤ t ∧ t ≤ 64) (by omega)]; rfl
          · rw [if_neg c3, j]
            by_cases c4 : t > 64
            · rw [decide_eq_true c4, decide_eq_false (p := 0 ≤ t ∧ t ≤ 64) (by omega)]; rfl
            · rw [decide_eq_false c4, decide_eq_true (p := 0 ≤ t ∧ t ≤ 64) (by omega)]; rfl

def metB (l1 : List S48) (i : Nat) : List Int := (l1.take i).map (·.f0)
theorem metB_succ {l1 : List S48} {i : Nat} (h : i < l1.length) : metB l1 (i + 1) = metB l1 i ++ [(rd_T48 l1 (i : Int)).f0] := by
  unfold metB rd_T48
  rw [List.take_add_one, List.map_append]
  simp [List.getD_eq_getElem?_getD, List.getElem?_eq_getElem h]
theorem mem_metB {l1 : List S48} {i : Nat} (hi : i ≤ l1.length) {x : Int} : x ∈ metB l1 i ↔ ∃ j : Nat, j < i ∧ (rd_T48 l1 (j : Int)).f0 = x := by
  unfold metB rd_T48
  rw [List.mem_map]
  constructor
  · rintro ⟨c, hc, rfl⟩
    obtain ⟨j, hj, rfl⟩ := List.getElem_of_mem hc
    rw [List.length_take] at hj
    refine ⟨j, by omega, ?_⟩
    simp [List.getD_eq_getElem?_getD, List.getElem?_eq_getElem (show j < l1.length by omega)]
  · rintro ⟨j, hj, rfl⟩
    refine ⟨l1[j]'(by omega), ?_, ?_⟩
    · exact List.mem_take_iff_getElem.2 ⟨j, by omega, rfl⟩
    · simp [List.getD_eq_getElem?_getD, List.getElem?_eq_getElem (show j < l1.length by omega)]
theorem wsucc {i : Nat} (h : i ≤ 100000) : wrap64 ((i : Int) + 1) = ((i + 1 : Nat) : Int) := by rw [w64 (by omega) (by omega)]; omega
/-- The document's look at the bridges ahead. -/
theorem ref_l1 (a0 : Int) (l1 : List S48) (l2 : List (List Int)) (l3 : List S59) (i : Nat) (hi : i < l1.length) (hn : l1.length ≤ 1000) (hl : l2.length = l1.length) (v : Int)
    (hm : (rd_T48 l1 (i : Int)).f0 ∈ metB l1 i → v = 9)
    (hq : (rd_T48 l1 (i : Int)).f0 ∉ metB l1 i → Ev (fun k => if ((rd_L9 l2 (i : Int)).length : Int) = (((rd_T48 l1 (i : Int)).f7).length : Int) then treelineref20_Check.l2 k (i : Int) 0 a0 l1 l2 l3 else some 1) v) :
    ∀ m (j : Nat), j + m = i → (∀ t : Nat, t < j → (rd_T48 l1 (t : Int)).f0 ≠ (rd_T48 l1 (i : Int)).f0) → Ev (fun k => treelineref20_Check.l1 k (i : Int) (j : Int) a0 l1 l2 l3) v
  | 0, j, hj, hno => by
    have hnm : (rd_T48 l1 (i : Int)).f0 ∉ metB l1 i := fun h => by
      obtain ⟨t, ht, he⟩ := (mem_metB (by omega)).1 h
      exact hno t (by omega) he
    refine Ev.step (fun k => ?_) (hq hnm)
    rw [treelineref20_Check.l1, if_neg (by omega), if_pos (by omega), if_pos (by omega), if_pos (by omega)]
  | m + 1, j, hj, hno => by
    by_cases e : (rd_T48 l1 (j : Int)).f0 = (rd_T48 l1 (i : Int)).f0
    · have hv := hm ((mem_metB (by omega)).2 ⟨j, by omega, e⟩)
      subst hv
      refine Ev.now fun k => ?_
      rw [treelineref20_Check.l1, if_pos (by omega), if_pos (by omega), if_pos (by omega), if_pos (by omega), if_pos (by omega), if_pos e]
    · refine Ev.step (fun k => ?_) (ref_l1 a0 l1 l2 l3 i hi hn hl v hm hq m (j + 1) (by omega) (fun t ht => by
        by_cases h : t = j
        · subst h; exact e
        · exact hno t (by omega)))
      rw [treelineref20_Check.l1, if_pos (by omega), if_pos (by omega), if_pos (by omega), if_pos (by omega), if_pos (by omega), if_neg e, wsucc (by omega)]
/-- The LANs of a bridge's ports: both look at them alike. -/
theorem links (a0 : Int) (l1 : List S48) (l2 : List (List Int)) (l3 : List S59) (i : Nat) (hi : i < l1.length) (hn : l1.length ≤ 1000) (hl : l2.length = l1.length) (met : List Int) (L : List Int) (hL : rd_L9 l2 (i : Int) = L) (hLl : L.length ≤ 100000)
    (hend : Same (fun k => topo_Check.l0 k met l1 (l1.length : Int) ((i + 1 : Nat) : Int) a0 l1 l2 l3) (fun k => treelineref20_Check.l0 k ((i + 1 : Nat) : Int) a0 l1 l2 l3)) :
    ∀ m (j : Nat), j + m = L.length → Same (fun k => topo_Check.l1 k met l1 (l1.length : Int) (i : Int) L (L.length : Int) (j : Int) a0 l1 l2 l3) (fun k => treelineref20_Check.l2 k (i : Int) (j : Int) a0 l1 l2 l3)
  | 0, j, hj => by
    obtain ⟨v, hA, hB⟩ := hend
    refine ⟨v, Ev.step (fun k => ?_) hA, Ev.step (fun k => ?_) hB⟩
    · rw [topo_Check.l1, if_neg (by omega), wsucc (by omega)]
    · rw [treelineref20_Check.l2, if_pos (by omega), if_pos (by omega), hL, if_neg (by omega), wsucc (by omega)]
  | m + 1, j, hj => by
    by_cases c1 : rd L (j : Int) < 0
    · refine ⟨8, Ev.now fun k => ?_, Ev.now fun k => ?_⟩
      · rw [topo_Check.l1, if_pos (by omega), if_pos (by omega), if_pos (by omega), if_pos c1]
      · rw [treelineref20_Check.l2, if_pos (by omega), if_pos (by omega), hL, if_pos (by omega), if_pos (by omega), if_pos c1]
    · by_cases c2 : rd L (j : Int) ≥ a0
      · refine ⟨8, Ev.now fun k => ?_, Ev.now fun k => ?_⟩
        · rw [topo_Check.l1, if_pos (by omega), if_pos (by omega), if_pos (by omega), if_neg c1, if_pos c2]
        · rw [treelineref20_Check.l2, if_pos (by omega), if_pos (by omega), hL, if_pos (by omega), if_pos (by omega), if_neg c1, if_pos c2]
      · obtain ⟨v, hA, hB⟩ := links a0 l1 l2 l3 i hi hn hl met L hL hLl hend m (j + 1) (by omega)
        refine ⟨v, Ev.step (fun k => ?_) hA, Ev.step (fun k => ?_) hB⟩
        · rw [topo_Check.l1, if_pos (by omega), if_pos (by omega), if_pos (by omega), if_neg c1, if_neg c2, wsucc (by omega)]
        · rw [treelineref20_Check.l2, if_pos (by omega), if_pos (by omega), hL, if_pos (by omega), if_pos (by omega), if_neg c1, if_neg c2, wsucc (by omega)]
theorem bridges (a0 : Int) (l1 : List S48) (l2 : List (List Int)) (l3 : List S59) (hn : l1.length ≤ 1000) (hl : l2.length = l1.length) (hw : ∀ c ∈ l1, 0 ≤ c.f0 ∧ c.f0 < 18446744073709551616) (hL : ∀ L ∈ l2, L.length ≤ 100000)
    (hst : Same (fun k => topo_Check.l2 k (metB l1 l1.length) l3 (l3.length : Int) 0 a0 l1 l2 l3) (fun k => treelineref20_Check.l3 k 0 a0 l1 l2 l3)) :
    ∀ m (i : Nat), i + m = l1.length → Same (fun k => topo_Check.l0 k (metB l1 i) l1 (l1.length : Int) (i : Int) a0 l1 l2 l3) (fun k => treelineref20_Check.l0 k (i : Int) a0 l1 l2 l3)
  | 0, i, hi => by
    obtain rfl : i = l1.length := by omega
    obtain ⟨v, hA, hB⟩ := hst
    refine ⟨v, Ev.step (fun k => ?_) hA, Ev.step (fun k => ?_) hB⟩
    · rw [topo_Check.l0, if_neg (by omega)]
    · rw [treelineref20_Check.l0, if_neg (by omega)]
  | m + 1, i, hi => by
    have ih := bridges a0 l1 l2 l3 hn hl hw hL hst m (i + 1) (by omega)
    rw [metB_succ (by omega)] at ih
    have hilt : i < l1.length := by omega
    have hmem : rd_T48 l1 (i : Int) ∈ l1 := by
      unfold rd_T48
      rw [Int.toNat_natCast, List.getD_eq_getElem?_getD, List.getElem?_eq_getElem hilt]
      exact List.getElem_mem _
    have hmem2 : rd_L9 l2 (i : Int) ∈ l2 := by
      unfold rd_L9
      rw [Int.toNat_natCast, List.getD_eq_getElem?_getD, List.getElem?_eq_getElem (by omega)]
      exact List.getElem_mem _
    have hwc := hw _ hmem
    have hLl := hL _ hmem2
    generalize hc : rd_T48 l1 (i : Int) = c at ih hwc
    obtain ⟨v, hv⟩ : ∃ v, checkA c.f0 c.f2 c.f3 c.f4 c.f5 c.f6 c.f7 = v := ⟨_, rfl⟩
    have e1 : Ev (fun k => conf_Check.f k c.f0 c.f1 c.f2 c.f3 c.f4 c.f5 c.f6 c.f7) v := ⟨7, fun k hk => by
      obtain ⟨t, rfl⟩ : ∃ t, k = t + 7 := ⟨k - 7, by omega⟩
      exact (check_eq t _ _ _ _ _ _ _ _ hwc).trans (congrArg some hv)⟩
    have e2 : Ev (fun k => treelineref11_Check.f k c.f0 c.f1 c.f2 c.f3 c.f4 c.f5 c.f6 c.f7) v := ⟨7, fun k hk => by
      obtain ⟨t, rfl⟩ : ∃ t, k = t + 7 := ⟨k - 7, by omega⟩
      exact (refcheck_eq t _ _ _ _ _ _ _ _ hwc).trans (congrArg some hv)⟩
    by_cases hv0 : v = 0
    · subst hv0
      have hlen : (metB l1 i).length ≤ 1000 := by unfold metB; simp; omega
      have hlk := links a0 l1 l2 l3 i hilt hn hl (metB l1 i ++ [c.f0]) _ rfl hLl ih (rd_L9 l2 (i : Int)).length 0 (Nat.zero_add _)
      by_cases hm : c.f0 ∈ metB l1 i
      · refine ⟨9, Ev.bind (fun k => by rw [topo_Check.l0, if_pos (by omega), if_pos (by omega), if_pos (by omega), hc]) e1 ⟨0, fun k _ => ?_⟩, Ev.bind (fun k => by rw [treelineref20_Check.l0, if_pos (by omega), if_pos (by omega), hc]) e2 ?_⟩
        · simp only [if_true, if_pos (show Mk.mem c.f0 (metB l1 i) = true from decide_eq_true hm)]
        · simp only [if_true]
          exact ref_l1 a0 l1 l2 l3 i hilt hn hl 9 (fun _ => rfl) (fun h => absurd (by rw [hc]; exact hm) h) i 0 (Nat.zero_add _) (fun t ht => absurd ht (by omega))
      · by_cases hlc : ((rd_L9 l2 (i : Int)).length : Int) = (c.f7.length : Int)
        · obtain ⟨u, hA, hB⟩ := hlk
          refine ⟨u, Ev.bind (fun k => by rw [topo_Check.l0, if_pos (by omega), if_pos (by omega), if_pos (by omega), hc]) e1 ?_, Ev.bind (fun k => by rw [treelineref20_Check.l0, if_pos (by omega), if_pos (by omega), hc]) e2 ?_⟩
          · simp only [if_true, if_neg (show ¬ (Mk.mem c.f0 (metB l1 i) = true) from fun h => hm (of_decide_eq_true h)), if_pos (show (metB l1 i).length < 17592186044416 by omega), if_pos (show (i : Int) < (l2.length : Int) by omega), if_pos hlc]
            exact hA
          · simp only [if_true]
            exact ref_l1 a0 l1 l2 l3 i hilt hn hl u (fun h => absurd (by rw [hc] at h; exact h) hm) (fun _ => by rw [hc]; simp only [if_pos hlc]; exact hB) i 0 (Nat.zero_add _) (fun t ht => absurd ht (by omega))
        · refine ⟨1, Ev.bind (fun k => by rw [topo_Check.l0, if_pos (by omega), if_pos (by omega), if_pos (by omega), hc]) e1 ⟨0, fun k _ => ?_⟩, Ev.bind (fun k => by rw [treelineref20_Check.l0, if_pos (by omega), if_pos (by omega), hc]) e2 ?_⟩
          · simp only [if_true, if_neg (show ¬ (Mk.mem c.f0 (metB l1 i) = true) from fun h => hm (of_decide_eq_true h)), if_pos (show (metB l1 i).length < 17592186044416 by omega), if_pos (show (i : Int) < (l2.length : Int) by omega), if_neg hlc]
          · simp only [if_true]
            exact ref_l1 a0 l1 l2 l3 i hilt hn hl 1 (fun h => absurd (by rw [hc] at h; exact h) hm) (fun _ => by rw [hc]; simp only [if_neg hlc]; exact ⟨0, fun _ _ => rfl⟩) i 0 (Nat.zero_add _) (fun t ht => absurd ht (by omega))
    · refine ⟨v, Ev.bind (fun k => by rw [topo_Check.l0, if_pos (by omega), if_pos (by omega), if_pos (by omega), hc]) e1 ⟨0, fun k _ => ?_⟩, Ev.bind (fun k => by rw [treelineref20_Check.l0, if_pos (by omega), if_pos (by omega), hc]) e2 ⟨0, fun k _ => ?_⟩⟩
      · simp only [if_neg hv0]
      · simp only [if_neg hv0]
/-- The addresses met when station s is looked at. -/
def metS (l1 : List S48) (l3 : List S59) (s : Nat) : List Int := metB l1 l1.length ++ (l3.take s).map (·.f0)
theorem metS_succ {l1 : List S48} {l3 : List S59} {s : Nat} (h : s < l3.length) : metS l1 l3 (s + 1) = metS l1 l3 s ++ [(rd_T59 l3 (s : Int)).f0] := by
  unfold metS rd_T59
  rw [List.take_add_one, List.map_append, List.append_assoc]
  simp [List.getD_eq_getElem?_getD, List.getElem?_eq_getElem h]
theorem mem_tk {l3 : List S59} {s : Nat} (hs : s ≤ l3.length) {x : Int} : x ∈ (l3.take s).map (·.f0) ↔ ∃ j : Nat, j < s ∧ (rd_T59 l3 (j : Int)).f0 = x := by
  unfold rd_T59
  rw [List.mem_map]
  constructor
  · rintro ⟨c, hc, rfl⟩
    obtain ⟨j, hj, rfl⟩ := List.getElem_of_mem hc
    rw [List.length_take] at hj
    refine ⟨j, by omega, ?_⟩
    simp [List.getD_eq_getElem?_getD, List.getElem?_eq_getElem (show j < l3.length by omega)]
  · rintro ⟨j, hj, rfl⟩
    refine ⟨l3[j]'(by omega), ?_, ?_⟩
    · exact List.mem_take_iff_getElem.2 ⟨j, by omega, rfl⟩
    · simp [List.getD_eq_getElem?_getD, List.getElem?_eq_getElem (show j < l3.length by omega)]
theorem ref_l5 (a0 : Int) (l1 : List S48) (l2 : List (List Int)) (l3 : List S59) (s : Nat) (hs : s < l3.length) (hn : l3.length ≤ 1000) (v x : Int)
    (hm : x ∈ (l3.take s).map (·.f0) → v = 9)
    (hq : x ∉ (l3.take s).map (·.f0) → Ev (fun k => if ((rd_T59 l3 (s : Int)).f1) < 0 then some 8 else if ((rd_T59 l3 (s : Int)).f1) ≥ a0 then some 8 else treelineref20_Check.l3 k ((s + 1 : Nat) : Int) a0 l1 l2 l3) v) :
    ∀ m (j : Nat), j + m = s → (∀ t : Nat, t < j → (rd_T59 l3 (t : Int)).f0 ≠ x) → Ev (fun k => treelineref20_Check.l5 k (s : Int) x (j : Int) a0 l1 l2 l3) v
  | 0, j, hj, hno => by
    have hnm : x ∉ (l3.take s).map (·.f0) := fun h => by
      obtain ⟨t, ht, he⟩ := (mem_tk (by omega)).1 h
      exact hno t (by omega) he
    refine Ev.step (fun k => ?_) (hq hnm)
    rw [treelineref20_Check.l5, if_neg (by omega), if_pos (by omega), if_pos (by omega), wsucc (by omega)]
  | m + 1, j, hj, hno => by
    by_cases e : (rd_T59 l3 (j : Int)).f0 = x
    · have hv := hm ((mem_tk (by omega)).2 ⟨j, by omega, e⟩)
      subst hv
      refine Ev.now fun k => ?_
      rw [treelineref20_Check.l5, if_pos (by omega), if_pos (by omega), if_pos (by omega), if_pos e]
    · refine Ev.step (fun k => ?_) (ref_l5 a0 l1 l2 l3 s hs hn v x hm hq m (j + 1) (by omega) (fun t ht => by
        by_cases h : t = j
        · subst h; exact e
        · exact hno t (by omega)))
      rw [treelineref20_Check.l5, if_pos (by omega), if_pos (by omega), if_pos (by omega), if_neg e, wsucc (by omega)]
theorem ref_l4 (a0 : Int) (l1 : List S48) (l2 : List (List Int)) (l3 : List S59) (s : Nat) (hn : l1.length ≤ 1000) (v x : Int)
    (hm : x ∈ metB l1 l1.length → v = 9)
    (hq : x ∉ metB l1 l1.length → Ev (fun k => treelineref20_Check.l5 k (s : Int) x 0 a0 l1 l2 l3) v) :
    ∀ m (j : Nat), j + m = l1.length → (∀ t : Nat, t < j → (rd_T48 l1 (t : Int)).f0 ≠ x) → Ev (fun k => treelineref20_Check.l4 k (s : Int) x (j : Int) a0 l1 l2 l3) v
  | 0, j, hj, hno => by
    have hnm : x ∉ metB l1 l1.length := fun h => by
      obtain ⟨t, ht, he⟩ := (mem_metB (Nat.le_refl _)).1 h
      exact hno t (by omega) he
    refine Ev.step (fun k => ?_) (hq hnm)
    rw [treelineref20_Check.l4, if_neg (by omega)]
  | m + 1, j, hj, hno => by
    by_cases e : (rd_T48 l1 (j : Int)).f0 = x
    · have hv := hm ((mem_metB (Nat.le_refl _)).2 ⟨j, by omega, e⟩)
      subst hv
      refine Ev.now fun k => ?_
      rw [treelineref20_Check.l4, if_pos (by omega), if_pos (by omega), if_pos e]
    · refine Ev.step (fun k => ?_) (ref_l4 a0 l1 l2 l3 s hn v x hm hq m (j + 1) (by omega) (fun t ht => by
        by_cases h : t = j
        · subst h; exact e
        · exact hno t (by omega)))
      rw [treelineref20_Check.l4, if_pos (by omega), if_pos (by omega), if_neg e, wsucc (by omega)]
theorem Ev.const {α : Type} (v : α) : Ev (fun _ => some v) v := ⟨0, fun _ _ => rfl⟩
theorem stations (a0 : Int) (l1 : List S48) (l2 : List (List Int)) (l3 : List S59) (hn : l1.length ≤ 1000) (hn3 : l3.length ≤ 1000) (hw : ∀ c ∈ l3, 0 ≤ c.f0 ∧ c.f0 < 18446744073709551616) :
    ∀ m (s : Nat), s + m = l3.length → Same (fun k => topo_Check.l2 k (metS l1 l3 s) l3 (l3.length : Int) (s : Int) a0 l1 l2 l3) (fun k => treelineref20_Check.l3 k (s : Int) a0 l1 l2 l3)
  | 0, s, hs => by
    refine ⟨0, Ev.now fun k => ?_, Ev.now fun k => ?_⟩
    · rw [topo_Check.l2, if_neg (by omega)]
    · rw [treelineref20_Check.l3, if_neg (by omega)]
  | m + 1, s, hs => by
    have ih := stations a0 l1 l2 l3 hn hn3 hw m (s + 1) (by omega)
    rw [metS_succ (by omega)] at ih
    have hslt : s < l3.length := by omega
    have hmem : rd_T59 l3 (s : Int) ∈ l3 := by
      unfold rd_T59
      rw [Int.toNat_natCast, List.getD_eq_getElem?_getD, List.getElem?_eq_getElem hslt]
      exact List.getElem_mem _
    have hwc := hw _ hmem
    have hlen : (metS l1 l3 s).length < 17592186044416 := by unfold metS metB; simp; omega
    have hAstep : ∀ k, topo_Check.l2 (k + 1) (metS l1 l3 s) l3 (l3.length : Int) (s : Int) a0 l1 l2 l3 = if rightA (rd_T59 l3 (s : Int)).f0 = true then (if Mk.mem (rd_T59 l3 (s : Int)).f0 (metS l1 l3 s) = true then some 9 else if (rd_T59 l3 (s : Int)).f1 < 0 then some 8 else if (rd_T59 l3 (s : Int)).f1 ≥ a0 then some 8 else topo_Check.l2 k (metS l1 l3 s ++ [(rd_T59 l3 (s : Int)).f0]) l3 (l3.length : Int) ((s + 1 : Nat) : Int) a0 l1 l2 l3) else some 1 := fun k => by
      rw [topo_Check.l2, if_pos (by omega), if_pos (by omega), if_pos (by omega), right_eq hwc, Option.bind_some, if_pos hlen, wsucc (by omega)]
    have hBstep : ∀ k, treelineref20_Check.l3 (k + 1) (s : Int) a0 l1 l2 l3 = if rightA (rd_T59 l3 (s : Int)).f0 = true then treelineref20_Check.l4 k (s : Int) (rd_T59 l3 (s : Int)).f0 0 a0 l1 l2 l3 else some 1 := fun k => by
      rw [treelineref20_Check.l3, if_pos (by omega), if_pos (by omega), refright_eq hwc, Option.bind_some]
    by_cases hr : rightA (rd_T59 l3 (s : Int)).f0 = true
    · simp only [if_pos hr] at hAstep hBstep
      have h5 : ∀ v, ((rd_T59 l3 (s : Int)).f0 ∈ metS l1 l3 s → v = 9) → ((rd_T59 l3 (s : Int)).f0 ∉ metS l1 l3 s → Ev (fun k => if ((rd_T59 l3 (s : Int)).f1) < 0 then some 8 else if ((rd_T59 l3 (s : Int)).f1) ≥ a0 then some 8 else treelineref20_Check.l3 k ((s + 1 : Nat) : Int) a0 l1 l2 l3) v) → Ev (fun k => treelineref20_Check.l3 k (s : Int) a0 l1 l2 l3) v := by
        intro v h1 h2
        refine Ev.step hBstep (ref_l4 a0 l1 l2 l3 s hn v _ (fun h => h1 (List.mem_append_left _ h)) (fun hb => ref_l5 a0 l1 l2 l3 s hslt hn3 v _ (fun h => h1 (List.mem_append_right _ h)) (fun ht => h2 fun h => ?_) s 0 (Nat.zero_add _) (fun t ht => absurd ht (by omega))) l1.length 0 (Nat.zero_add _) (fun t ht => absurd ht (by omega)))
        rcases List.mem_append.1 h with h | h
        · exact hb h
        · exact ht h
      by_cases hm : (rd_T59 l3 (s : Int)).f0 ∈ metS l1 l3 s
      · refine ⟨9, Ev.now fun k => ?_, h5 9 (fun _ => rfl) (fun h => absurd hm h)⟩
        rw [hAstep k, if_pos (show Mk.mem _ _ = true from decide_eq_true hm)]
      · have hmm : ¬ (Mk.mem (rd_T59 l3 (s : Int)).f0 (metS l1 l3 s) = true) := fun h => hm (of_decide_eq_true h)
        simp only [if_neg hmm] at hAstep
        by_cases c1 : (rd_T59 l3 (s : Int)).f1 < 0
        · exact ⟨8, Ev.now fun k => by rw [hAstep k, if_pos c1], h5 8 (fun h => absurd h hm) (fun _ => by simp only [if_pos c1]; exact Ev.const 8)⟩
        · by_cases c2 : (rd_T59 l3 (s : Int)).f1 ≥ a0
          · exact ⟨8, Ev.now fun k => by rw [hAstep k, if_neg c1, if_pos c2], h5 8 (fun h => absurd h hm) (fun _ => by simp only [if_neg c1, if_pos c2]; exact Ev.const 8)⟩
          · obtain ⟨v, hA, hB⟩ := ih
            exact ⟨v, Ev.step (fun k => by rw [hAstep k, if_neg c1, if_neg c2]) hA, h5 v (fun h => absurd h hm) (fun _ => by simp only [if_neg c1, if_neg c2]; exact hB)⟩
    · simp only [if_neg hr] at hAstep hBstep
      exact ⟨1, Ev.now hAstep, Ev.now hBstep⟩
theorem checks_same (a0 : Int) (l1 : List S48) (l2 : List (List Int)) (l3 : List S59) (hw1 : ∀ c ∈ l1, 0 ≤ c.f0 ∧ c.f0 < 18446744073709551616) (hw3 : ∀ c ∈ l3, 0 ≤ c.f0 ∧ c.f0 < 18446744073709551616) (hL : ∀ L ∈ l2, L.length ≤ 100000) :
    Same (fun k => topo_Check.f k a0 l1 l2 l3) (fun k => treelineref20_Check.f k a0 l1 l2 l3) := by
  have hf : ∀ k, topo_Check.f k a0 l1 l2 l3 = topo_Check.g k a0 l1 l2 l3 := fun k => by
    unfold topo_Check.f
    rw [if_pos ⟨List.all_eq_true.2 fun c hc => decide_eq_true (hw1 c hc), List.all_eq_true.2 fun c hc => decide_eq_true (hw3 c hc)⟩]
  simp only [hf]
  have one : Same (fun k => topo_Check.j0 k true a0 l1 l2 l3) (fun k => treelineref20_Check.j0 k true a0 l1 l2 l3) :=
    ⟨1, Ev.now fun k => by rw [topo_Check.j0, if_pos rfl], Ev.now fun k => by rw [treelineref20_Check.j0, if_pos rfl]⟩
  by_cases c1 : a0 < 1
  · simp only [topo_Check.g, treelineref20_Check.f, if_pos c1]; exact one
  · by_cases c2 : a0 > 8
    · simp only [topo_Check.g, treelineref20_Check.f, if_neg c1, if_pos c2]; exact one
    · by_cases c3 : (l1.length : Int) = 0
      · simp only [topo_Check.g, treelineref20_Check.f, if_neg c1, if_neg c2, if_pos c3, if_pos (show (l1.length : Int) < 1 by omega)]; exact one
      · simp only [topo_Check.g, treelineref20_Check.f, if_neg c1, if_neg c2, if_neg c3, if_neg (show ¬ (l1.length : Int) < 1 by omega)]
        by_cases c4 : l2.length = l1.length
        · have e1 : ((l2.length : Int) != (l1.length : Int)) = false := by rw [c4]; simp
          have e2 : ((l1.length : Int) != (l2.length : Int)) = false := by rw [c4]; simp
          simp only [e1, e2]
          by_cases c5 : l1.length > 6
          · refine ⟨4, Ev.now fun k => by rw [topo_Check.j0, if_neg (by simp), if_pos (by omega)], Ev.step (A' := fun k => treelineref20_Check.j1 k true a0 l1 l2 l3) (fun k => by rw [treelineref20_Check.j0, if_neg (by simp), if_pos (by omega)]) (Ev.now fun k => by rw [treelineref20_Check.j1, if_pos rfl])⟩
          · by_cases c6 : l3.length > 8
            · refine ⟨4, Ev.now fun k => by rw [topo_Check.j0, if_neg (by simp), if_neg (by omega), if_pos (by omega)], Ev.step (A' := fun k => treelineref20_Check.j1 k true a0 l1 l2 l3) (fun k => by rw [treelineref20_Check.j0, if_neg (by simp), if_neg (by omega), decide_eq_true (by omega)]) (Ev.now fun k => by rw [treelineref20_Check.j1, if_pos rfl])⟩
            · have hst := stations a0 l1 l2 l3 (by omega) (by omega) hw3 l3.length 0 (Nat.zero_add _)
              have hm0 : metS l1 l3 0 = metB l1 l1.length := by unfold metS; simp
              rw [hm0] at hst
              obtain ⟨v, hA, hB⟩ := bridges a0 l1 l2 l3 (by omega) c4 hw1 hL hst l1.length 0 (Nat.zero_add _)
              refine ⟨v, Ev.step (fun k => ?_) hA, Ev.step (fun k => ?_) (Ev.step (A := fun k => treelineref20_Check.j1 k false a0 l1 l2 l3) (fun k => ?_) hB)⟩
              · rw [topo_Check.j0, if_neg (by simp), if_neg (by omega), if_neg (by omega)]; rfl
              · rw [treelineref20_Check.j0, if_neg (by simp), if_neg (by omega), decide_eq_false (by omega)]
              · rw [treelineref20_Check.j1, if_neg (by simp)]; rfl
        · have e1 : ((l2.length : Int) != (l1.length : Int)) = true := bne_iff_ne.2 (by omega)
          have e2 : ((l1.length : Int) != (l2.length : Int)) = true := bne_iff_ne.2 (by omega)
          simp only [e1, e2]; exact one

theorem Ev.mono {α : Type} {A : Nat → Option α} {v : α} (hm : ∀ k, LeO (A k) (A (k + 1))) {K : Nat} (h : A K = some v) : Ev A v := ⟨K, fun k hk => by
  obtain ⟨d, rfl⟩ : ∃ d, k = K + d := ⟨k - K, by omega⟩
  clear hk
  induction d with
  | zero => exact h
  | succ d ih => exact hm (K + d) _ ih⟩
theorem awk : Ev (fun k => treelinelaw20_awake.f k) true := Ev.mono (K := 40) treelinelaw20_awake.mono (by kernel_rfl)
theorem few_l1 (a0 : Int) (l1 : List S48) (l2 : List (List Int)) (l3 : List S59) (hn : l2.length ≤ 1000) : ∀ m (j : Nat), j + m = l2.length → (∀ t : Nat, t < j → (rd_L9 l2 (t : Int)).length ≤ 20) →
    ∃ b, Ev (fun k => treelineref20_Few.l1 k (j : Int) a0 l1 l2 l3) b ∧ (b = true → ∀ L ∈ l2, L.length ≤ 20)
  | 0, j, hj, hno => by
    refine ⟨true, Ev.now fun k => by rw [treelineref20_Few.l1, if_neg (by omega)], fun _ L hL => ?_⟩
    obtain ⟨t, ht, rfl⟩ := List.getElem_of_mem hL
    have := hno t (by omega)
    unfold rd_L9 at this
    simpa [List.getD_eq_getElem?_getD, List.getElem?_eq_getElem ht] using this
  | m + 1, j, hj, hno => by
    by_cases c : ((rd_L9 l2 (j : Int)).length : Int) > 20
    · exact ⟨false, Ev.now fun k => by rw [treelineref20_Few.l1, if_pos (by omega), if_pos (by omega), if_pos c], fun h => by cases h⟩
    · obtain ⟨b, h1, h2⟩ := few_l1 a0 l1 l2 l3 hn m (j + 1) (by omega) (fun t ht => by
        by_cases h : t = j
        · subst h; omega
        · exact hno t (by omega))
      exact ⟨b, Ev.step (fun k => by rw [treelineref20_Few.l1, if_pos (by omega), if_pos (by omega), if_neg c, wsucc (by omega)]) h1, h2⟩
theorem few_l0 (a0 : Int) (l1 : List S48) (l2 : List (List Int)) (l3 : List S59) (hn : l2.length ≤ 1000) (hn1 : l1.length ≤ 1000) : ∀ m (j : Nat), j + m = l1.length →
    ∃ b, Ev (fun k => treelineref20_Few.l0 k (j : Int) a0 l1 l2 l3) b ∧ (b = true → ∀ L ∈ l2, L.length ≤ 20)
  | 0, j, hj => by
    obtain ⟨b, h1, h2⟩ := few_l1 a0 l1 l2 l3 hn l2.length 0 (Nat.zero_add _) (fun t ht => absurd ht (by omega))
    exact ⟨b, Ev.step (fun k => by rw [treelineref20_Few.l0, if_neg (by omega)]; rfl) h1, h2⟩
  | m + 1, j, hj => by
    by_cases c : (((rd_T48 l1 (j : Int)).f7).length : Int) > 20
    · exact ⟨false, Ev.now fun k => by rw [treelineref20_Few.l0, if_pos (by omega), if_pos (by omega), if_pos c], fun h => by cases h⟩
    · obtain ⟨b, h1, h2⟩ := few_l0 a0 l1 l2 l3 hn hn1 m (j + 1) (by omega)
      exact ⟨b, Ev.step (fun k => by rw [treelineref20_Few.l0, if_pos (by omega), if_pos (by omega), if_neg c, wsucc (by omega)]) h1, h2⟩
theorem few (a0 : Int) (l1 : List S48) (l2 : List (List Int)) (l3 : List S59) : ∃ b, Ev (fun k => treelineref20_Few.f k a0 l1 l2 l3) b ∧ (b = true → ∀ L ∈ l2, L.length ≤ 20) := by
  have no : ∃ b, Ev (fun k => treelineref20_Few.j0 k true a0 l1 l2 l3) b ∧ (b = true → ∀ L ∈ l2, L.length ≤ 20) := ⟨false, Ev.now fun k => by rw [treelineref20_Few.j0, if_pos rfl], fun h => by cases h⟩
  by_cases c1 : a0 > 20
  · simp only [treelineref20_Few.f, if_pos c1]; exact no
  · by_cases c2 : (l1.length : Int) > 20
    · simp only [treelineref20_Few.f, if_neg c1, if_pos c2]; exact no
    · by_cases c3 : (l2.length : Int) > 20
      · simp only [treelineref20_Few.f, if_neg c1, if_neg c2, if_pos c3]; exact no
      · by_cases c4 : (l3.length : Int) > 40
        · simp only [treelineref20_Few.f, if_neg c1, if_neg c2, if_neg c3, decide_eq_true c4]; exact no
        · simp only [treelineref20_Few.f, if_neg c1, if_neg c2, if_neg c3, decide_eq_false c4]
          obtain ⟨b, h1, h2⟩ := few_l0 a0 l1 l2 l3 (by omega) (by omega) l1.length 0 (Nat.zero_add _)
          exact ⟨b, Ev.step (fun k => by rw [treelineref20_Few.j0, if_neg (by simp)]; rfl) h1, h2⟩
theorem topoChecks (a0 : Int) (l1 : List S48) (l2 : List (List Int)) (l3 : List S59) (hw1 : ∀ c ∈ l1, 0 ≤ c.f0 ∧ c.f0 < 18446744073709551616) (hw3 : ∀ c ∈ l3, 0 ≤ c.f0 ∧ c.f0 < 18446744073709551616) : ∃ k, treelinelaw20_TopoChecks.f k a0 l1 l2 l3 = some true := by
  obtain ⟨b, ⟨K1, h1⟩, hL⟩ := few a0 l1 l2 l3
  obtain ⟨K0, h0⟩ := awk
  dsimp only at h0 h1
  cases hb : b
  · refine ⟨K0 + K1 + 1, ?_⟩
    unfold treelinelaw20_TopoChecks.f
    rw [h0 _ (by omega), Option.bind_some, if_pos rfl, h1 _ (by omega), Option.bind_some, hb, treelinelaw20_TopoChecks.j0, if_pos (by rfl), h0 _ (by omega)]
    rfl
  · obtain ⟨v, ⟨K2, h2⟩, ⟨K3, h3⟩⟩ := checks_same a0 l1 l2 l3 hw1 hw3 (fun L h => by have := hL hb L h; omega)
    dsimp only at h2 h3
    refine ⟨K0 + K1 + K2 + K3 + 1, ?_⟩
    unfold treelinelaw20_TopoChecks.f
    rw [h0 _ (by omega), Option.bind_some, if_pos rfl, h1 _ (by omega), Option.bind_some, hb, treelinelaw20_TopoChecks.j0, if_neg (by simp), h2 _ (by omega), Option.bind_some, h3 _ (by omega), Option.bind_some]
    simp

theorem TopoChecks (W : World) (x : Int × (List S48) × (List (List Int)) × (List S59)) (w0 : (Lit.int .i64 x.1).wf = true ∧ (∀ y ∈ x.2.1, (Lit.int .u64 y.f0).wf = true) ∧ (∀ y ∈ x.2.2.2, (Lit.int .u64 y.f0).wf = true))
    {A1 : Option Addr} {c1 : Nat} (hC1 : Kd.C k48 W A1 x.2.1.length x.2.1) (hc1 : x.2.1.length ≤ c1) {A2 : Option Addr} {c2 : Nat} (hC2 : Kd.C (Kd.slice 3 (Kd.int .i64)) W A2 x.2.2.1.length x.2.2.1) (hc2 : x.2.2.1.length ≤ c2) {A3 : Option Addr} {c3 : Nat} (hC3 : Kd.C k59 W A3 x.2.2.2.length x.2.2.2) (hc3 : x.2.2.2.length ≤ c3) :
    Calls Try.prog 3 #[.agg #[.int .i64 x.1, .slice A1 x.2.1.length c1, .slice A2 x.2.2.1.length c2, .slice A3 x.2.2.2.length c3]] W fun e w' => e = .returned (.bool true) ∧ Below W.heap.size W w' := by
  obtain ⟨a0, l1, l2, l3⟩ := x
  obtain ⟨k, hk⟩ := topoChecks a0 l1 l2 l3 (fun c h => wf_u64 (w0.2.1 c h)) (fun c h => wf_u64 (w0.2.2 c h))
  exact treelinelaw20_TopoChecks.calls k a0 A1 c1 l1 A2 c2 l2 A3 c3 l3 true W hC1 hc1 hC2 hc2 hC3 hc3 hk ⟨rfl⟩

end Go.Proofs.Ytkgfpagfmdefgaa.Pure
