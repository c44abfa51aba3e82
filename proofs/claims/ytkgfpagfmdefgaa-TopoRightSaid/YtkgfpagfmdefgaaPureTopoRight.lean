/- Who may be has unlike numbers of bridges; a copy is alike, in new memory. -/
import Derived.Test.YtkgfpagfmdefgaaOTopoRightx17
import Derived.Test.YtkgfpagfmdefgaaAr
namespace Go.Proofs.Ytkgfpagfmdefgaa.Pure
open Go.RowKit Go.Proofs.Ytkgfpagfmdefgaa.OTopoRight Go.Proofs.YtkgfpagfmdefgaaW.PrintWords Go.Proofs.YtkgfpagfmdefgaaW.PrintLast Go.Proofs.YtkgfpagfmdefgaaW.PrintMore Go.Proofs.Ytkgfpagfmdefgaa.Ar
set_option linter.unusedVariables false
set_option linter.unusedSimpArgs false
/-- From some fuel on it answers v. -/
def Ev {α : Type} (A : Nat → Option α) (v : α) : Prop := ∃ K, ∀ k, K ≤ k → A k = some v
theorem Ev.now {α : Type} {A : Nat → Option α} {v : α} (h : ∀ k, A (k + 1) = some v) : Ev A v := ⟨1, fun k hk => by
  obtain ⟨m, rfl⟩ : ∃ m, k = m + 1 := ⟨k - 1, by omega⟩
  exact h m⟩
theorem Ev.step {α : Type} {A A' : Nat → Option α} {v : α} (h : ∀ k, A (k + 1) = A' k) (e : Ev A' v) : Ev A v := by
  obtain ⟨K, hK⟩ := e
  refine ⟨K + 1, fun k hk => ?_⟩
  obtain ⟨m, rfl⟩ : ∃ m, k = m + 1 := ⟨k - 1, by omega⟩
  rw [h m]
  exact hK m (by omega)
theorem Ev.bind {α β : Type} {A : Nat → Option α} {f : Nat → Option β} {g : β → Nat → Option α} {t : β} {v : α} (h : ∀ k, A (k + 1) = (f k).bind fun t => g t k) (hf : Ev f t) (e : Ev (g t) v) : Ev A v := by
  obtain ⟨K, hK⟩ := e
  obtain ⟨K2, hK2⟩ := hf
  refine ⟨K + K2 + 1, fun k hk => ?_⟩
  obtain ⟨m, rfl⟩ : ∃ m, k = m + 1 := ⟨k - 1, by omega⟩
  rw [h m, hK2 m (by omega)]
  exact hK m (by omega)
/-- Two programs that come to one answer. -/
def Same {α : Type} (A B : Nat → Option α) : Prop := ∃ v, Ev A v ∧ Ev B v

/-- LANs that a chain of bridges joins. -/
inductive Jn (R : Nat → Nat → Prop) : Nat → Nat → Prop where
  | refl (x : Nat) : Jn R x x
  | step {x y z : Nat} : R x y → Jn R y z → Jn R x z
theorem Jn.trans {R : Nat → Nat → Prop} {x y z : Nat} (h : Jn R x y) (h2 : Jn R y z) : Jn R x z := by
  induction h with
  | refl => exact h2
  | step r _ ih => exact .step r (ih h2)
theorem Jn.symm {R : Nat → Nat → Prop} (hs : ∀ x y, R x y → R y x) {x y : Nat} (h : Jn R x y) : Jn R y x := by
  induction h with
  | refl => exact .refl _
  | step r _ ih => exact ih.trans (.step (hs _ _ r) (.refl _))
theorem Jn.mono {R S : Nat → Nat → Prop} (hs : ∀ x y, R x y → S x y) {x y : Nat} (h : Jn R x y) : Jn S x y := by
  induction h with
  | refl => exact .refl _
  | step r _ ih => exact .step (hs _ _ r) ih
theorem Jn.same {α : Type} {R : Nat → Nat → Prop} {p : Nat → α} (hp : ∀ x y, R x y → p x = p y) {x y : Nat} (h : Jn R x y) : p x = p y := by
  induction h with
  | refl => rfl
  | step r _ ih => exact (hp _ _ r).trans ih
theorem Jn.none {R : Nat → Nat → Prop} (hp : ∀ x y, ¬ R x y) {x y : Nat} (h : Jn R x y) : x = y := by
  cases h with
  | refl => rfl
  | step r _ => exact absurd r (hp _ _)
/-- From some fuel on it answers what Φ says. -/
def EvP {α : Type} (A : Nat → Option α) (Φ : α → Prop) : Prop := ∃ v, Ev A v ∧ Φ v
theorem EvP.step {α : Type} {A A' : Nat → Option α} {Φ : α → Prop} (h : ∀ k, A (k + 1) = A' k) (e : EvP A' Φ) : EvP A Φ := by
  obtain ⟨v, hv, hp⟩ := e
  exact ⟨v, Ev.step h hv, hp⟩
theorem EvP.now {α : Type} {A : Nat → Option α} {Φ : α → Prop} {v : α} (h : ∀ k, A (k + 1) = some v) (hp : Φ v) : EvP A Φ := ⟨v, Ev.now h, hp⟩
theorem Ev.bind0 {α β : Type} {A : Nat → Option α} {f : Nat → Option β} {g : β → Nat → Option α} {t : β} {v : α} (h : ∀ k, A k = (f k).bind fun t => g t k) (hf : Ev f t) (e : Ev (g t) v) : Ev A v := by
  obtain ⟨K, hK⟩ := e
  obtain ⟨K2, hK2⟩ := hf
  refine ⟨K + K2, fun k hk => ?_⟩
  rw [h k, hK2 k (by omega)]
  exact hK k (by omega)
def onb (on : List (List Bool)) (b p : Nat) : Bool := (on.getD b []).getD p false
theorem is_eq (on : List (List Bool)) (b p : Nat) : topo_is.f on (b : Int) (p : Int) = some (onb on b p) := by
  unfold topo_is.f onb rd_L11 rdOf
  simp only [Int.toNat_natCast]
  by_cases hb : b < on.length
  · rw [if_pos (by omega), if_pos (by omega)]
    by_cases hp : p < (on.getD b []).length
    · rw [if_pos (by omega), if_pos (by omega)]
    · rw [if_neg (by omega)]
      rw [List.getD_eq_getElem?_getD (l := on.getD b []), List.getElem?_eq_none (by omega)]
      rfl
  · rw [if_neg (by omega)]
    rw [List.getD_eq_getElem?_getD (l := on), List.getElem?_eq_none (by omega)]
    rfl
/-- The LANs x and y are on ports of one bridge that are on. -/
def Nb (n : Nat) (on : List (List Bool)) (l2 : List (List Int)) (x y : Nat) : Prop :=
  ∃ b p q : Nat, b < l2.length ∧ p < (l2.getD b []).length ∧ q < (l2.getD b []).length ∧ onb on b p = true ∧ onb on b q = true ∧ (l2.getD b []).getD p 0 = (x : Int) ∧ (l2.getD b []).getD q 0 = (y : Int) ∧ x < n ∧ y < n
theorem Nb.symm {n : Nat} {on : List (List Bool)} {l2 : List (List Int)} (x y : Nat) (h : Nb n on l2 x y) : Nb n on l2 y x := by
  obtain ⟨b, p, q, h1, h2, h3, h4, h5, h6, h7, h8, h9⟩ := h
  exact ⟨b, q, p, h1, h3, h2, h5, h4, h7, h6, h9, h8⟩
/-- What the parts always are: of each LAN one that is joined to it, and no greater. -/
structure Good (n : Nat) (on : List (List Bool)) (l2 : List (List Int)) (P : List Int) : Prop where
  len : P.length = n
  val : ∀ l, l < n → ∃ m : Nat, m ≤ l ∧ P.getD l 0 = (m : Int) ∧ Jn (Nb n on l2) l m
/-- A port that counts. -/
def Act (n : Nat) (on : List (List Bool)) (b : Nat) (L : List Int) (p : Nat) : Prop := p < L.length ∧ onb on b p = true ∧ 0 ≤ L.getD p 0 ∧ L.getD p 0 < (n : Int)
def Flat (n : Nat) (on : List (List Bool)) (l2 : List (List Int)) (P : List Int) (b : Nat) : Prop :=
  ∀ p q, Act n on b (l2.getD b []) p → Act n on b (l2.getD b []) q → P.getD ((l2.getD b []).getD p 0).toNat 0 = P.getD ((l2.getD b []).getD q 0).toNat 0
/-- What the parts are in the end. -/
structure Fine (n : Nat) (on : List (List Bool)) (l2 : List (List Int)) (P : List Int) : Prop where
  good : Good n on l2 P
  flat : ∀ b, b < l2.length → Flat n on l2 P b
theorem Fine.nb {n : Nat} {on : List (List Bool)} {l2 : List (List Int)} {P : List Int} (h : Fine n on l2 P) (x y : Nat) (r : Nb n on l2 x y) : P.getD x 0 = P.getD y 0 := by
  obtain ⟨b, p, q, h1, h2, h3, h4, h5, h6, h7, h8, h9⟩ := r
  have := h.flat b h1 p q ⟨h2, h4, by omega, by omega⟩ ⟨h3, h5, by omega, by omega⟩
  rw [h6, h7] at this
  simpa using this
theorem Fine.same {n : Nat} {on : List (List Bool)} {l2 : List (List Int)} {P : List Int} (h : Fine n on l2 P) {x y : Nat} (r : Jn (Nb n on l2) x y) : P.getD x 0 = P.getD y 0 := Jn.same (p := fun x => P.getD x 0) h.nb r
/-- Equal parts are joined LANs. -/
theorem Fine.joined {n : Nat} {on : List (List Bool)} {l2 : List (List Int)} {P : List Int} (h : Fine n on l2 P) {x y : Nat} (hx : x < n) (hy : y < n) (e : P.getD x 0 = P.getD y 0) : Jn (Nb n on l2) x y := by
  obtain ⟨m, _, h1, h2⟩ := h.good.val x hx
  obtain ⟨m', _, h3, h4⟩ := h.good.val y hy
  obtain rfl : m = m' := by omega
  exact h2.trans (h4.symm Nb.symm)
def tot : List Int → Nat
  | [] => 0
  | x :: r => x.toNat + tot r
theorem tot_set : ∀ (P : List Int) (i : Nat) (v : Int), i < P.length → 0 ≤ v → v < P.getD i 0 → tot (P.set i v) < tot P
  | [], _, _, h, _, _ => absurd h (by simp)
  | x :: r, 0, v, _, h0, h => by
    simp only [List.getD_cons_zero] at h
    simp only [List.set_cons_zero, tot]
    omega
  | x :: r, i + 1, v, hi, h0, h => by
    simp only [List.getD_cons_succ] at h
    simp only [List.length_cons] at hi
    have := tot_set r i v (by omega) h0 h
    simp only [List.set_cons_succ, tot]
    omega
theorem getD_set (P : List Int) (i j : Nat) (v : Int) (hi : i < P.length) : (P.set i v).getD j 0 = if i = j then v else P.getD j 0 := by
  simp only [List.getD_eq_getElem?_getD, List.getElem?_set]
  by_cases e : i = j
  · subst e
    simp [hi]
  · simp [e]
theorem Good.set {n : Nat} {on : List (List Bool)} {l2 : List (List Int)} {P : List Int} (h : Good n on l2 P) {x y : Nat} (hx : x < n) (hy : y < n) (r : Nb n on l2 x y) (hl : P.getD y 0 < P.getD x 0) : Good n on l2 (P.set x (P.getD y 0)) := by
  refine ⟨by rw [List.length_set]; exact h.len, fun l hl2 => ?_⟩
  rw [getD_set _ _ _ _ (by rw [h.len]; exact hx)]
  by_cases e : x = l
  · subst e
    rw [if_pos rfl]
    obtain ⟨m, h1, h2, h3⟩ := h.val x hx
    obtain ⟨m', h4, h5, h6⟩ := h.val y hy
    exact ⟨m', by omega, h5, .step r h6⟩
  · rw [if_neg e]
    exact h.val l hl2
/-- What 'least' is ahead of port j. -/
def Least (n : Nat) (on : List (List Bool)) (b : Nat) (L P : List Int) (j : Nat) (v : Int) : Prop :=
  (v = -1 ∧ ∀ p, p < j → ¬ Act n on b L p) ∨ ∃ p, p < j ∧ Act n on b L p ∧ P.getD (L.getD p 0).toNat 0 = v ∧ ∀ q, q < j → Act n on b L q → v ≤ P.getD (L.getD q 0).toNat 0
theorem psucc {i : Nat} (h : i ≤ 100000) : wrap64 ((i : Int) + 1) = ((i + 1 : Nat) : Int) := by rw [w64 (by omega) (by omega)]; omega
theorem rdn (L : List Int) (j : Nat) : rd L (j : Int) = L.getD j 0 := by unfold rd; rw [Int.toNat_natCast]

theorem Ev.mono {α : Type} {A : Nat → Option α} {v : α} (hm : ∀ k, LeO (A k) (A (k + 1))) {K : Nat} (h : A K = some v) : Ev A v := ⟨K, fun k hk => by
  obtain ⟨d, rfl⟩ : ∃ d, k = K + d := ⟨k - K, by omega⟩
  clear hk
  induction d with
  | zero => exact h
  | succ d ih => exact hm (K + d) _ ih⟩
theorem awk : Ev (fun k => treelinelaw20_awake.f k) true := Ev.mono (K := 40) treelinelaw20_awake.mono (by kernel_rfl)
theorem few_l1 (a0 : Int) (l1 : List S48) (l2 : List (List Int)) (l3 : List S59) (hn : l2.length ≤ 1000) : ∀ m (j : Nat), j + m = l2.length → (∀ t : Nat, t < j → (rd_L9 l2 (t : Int)).length ≤ 20) →
    ∃ b, Ev (fun k => treelineref20_Few.l1 k (j : Int) a0 l1 l2 l3) b ∧ (b = true → ∀ L ∈ l2, L.length ≤ 20)
  | 0, j, hj, hno => by
    refine ⟨true, Ev.now fun k => by rw [treelineref20_Few.l1, if_neg (by omega)], fun _ L hL => ?_⟩
    obtain ⟨t, ht, rfl⟩ := List.getElem_of_mem hL
    have := hno t (by omega)
    unfold rd_L9 at this
    simpa [List.getD_eq_getElem?_getD, List.getElem?_eq_getElem ht] using this
  | m + 1, j, hj, hno => by
    by_cases c : ((rd_L9 l2 (j : Int)).length : Int) > 20
    · exact ⟨false, Ev.now fun k => by rw [treelineref20_Few.l1, if_pos (by omega), if_pos (by omega), if_pos c], fun h => by cases h⟩
    · obtain ⟨b, h1, h2⟩ := few_l1 a0 l1 l2 l3 hn m (j + 1) (by omega) (fun t ht => by
        by_cases h : t = j
        · subst h; omega
        · exact hno t (by omega))
      exact ⟨b, Ev.step (fun k => by rw [treelineref20_Few.l1, if_pos (by omega), if_pos (by omega), if_neg c, psucc (by omega)]) h1, h2⟩
theorem few2_l0 (a0 : Int) (l1 : List S48) (l2 : List (List Int)) (l3 : List S59) (hn : l2.length ≤ 1000) (hn1 : l1.length ≤ 1000) : ∀ m (j : Nat), j + m = l1.length → (∀ t : Nat, t < j → (rd_T48 l1 (t : Int)).f7.length ≤ 20) →
    ∃ b, Ev (fun k => treelineref20_Few.l0 k (j : Int) a0 l1 l2 l3) b ∧ (b = true → ∀ L ∈ l2, L.length ≤ 20) ∧ (b = true → ∀ c ∈ l1, c.f7.length ≤ 20)
  | 0, j, hj, hno => by
    obtain ⟨b, h1, h2⟩ := few_l1 a0 l1 l2 l3 hn l2.length 0 (Nat.zero_add _) (fun t ht => absurd ht (by omega))
    refine ⟨b, Ev.step (fun k => by rw [treelineref20_Few.l0, if_neg (by omega)]; rfl) h1, h2, fun _ c hc => ?_⟩
    obtain ⟨t, ht, rfl⟩ := List.getElem_of_mem hc
    have := hno t (by omega)
    unfold rd_T48 at this
    simpa [List.getD_eq_getElem?_getD, List.getElem?_eq_getElem ht] using this
  | m + 1, j, hj, hno => by
    by_cases c : (((rd_T48 l1 (j : Int)).f7).length : Int) > 20
    · exact ⟨false, Ev.now fun k => by rw [treelineref20_Few.l0, if_pos (by omega), if_pos (by omega), if_pos c], fun h => (by cases h), fun h => (by cases h)⟩
    · obtain ⟨b, h1, h2⟩ := few2_l0 a0 l1 l2 l3 hn hn1 m (j + 1) (by omega) (fun t ht => by
        by_cases h : t = j
        · subst h; omega
        · exact hno t (by omega))
      exact ⟨b, Ev.step (fun k => by rw [treelineref20_Few.l0, if_pos (by omega), if_pos (by omega), if_neg c, psucc (by omega)]) h1, h2⟩
theorem few2 (a0 : Int) (l1 : List S48) (l2 : List (List Int)) (l3 : List S59) : ∃ b, Ev (fun k => treelineref20_Few.f k a0 l1 l2 l3) b ∧ (b = true → ∀ L ∈ l2, L.length ≤ 20) ∧ (b = true → ∀ c ∈ l1, c.f7.length ≤ 20) := by
  have no : ∃ b, Ev (fun k => treelineref20_Few.j0 k true a0 l1 l2 l3) b ∧ (b = true → ∀ L ∈ l2, L.length ≤ 20) ∧ (b = true → ∀ c ∈ l1, c.f7.length ≤ 20) := ⟨false, Ev.now fun k => by rw [treelineref20_Few.j0, if_pos rfl], fun h => (by cases h), fun h => (by cases h)⟩
  by_cases c1 : a0 > 20
  · simp only [treelineref20_Few.f, if_pos c1]; exact no
  · by_cases c2 : (l1.length : Int) > 20
    · simp only [treelineref20_Few.f, if_neg c1, if_pos c2]; exact no
    · by_cases c3 : (l2.length : Int) > 20
      · simp only [treelineref20_Few.f, if_neg c1, if_neg c2, if_pos c3]; exact no
      · by_cases c4 : (l3.length : Int) > 40
        · simp only [treelineref20_Few.f, if_neg c1, if_neg c2, if_neg c3, decide_eq_true c4]; exact no
        · simp only [treelineref20_Few.f, if_neg c1, if_neg c2, if_neg c3, decide_eq_false c4]
          obtain ⟨b, h1, h2⟩ := few2_l0 a0 l1 l2 l3 (by omega) (by omega) l1.length 0 (Nat.zero_add _) (fun t ht => absurd ht (by omega))
          exact ⟨b, Ev.step (fun k => by rw [treelineref20_Few.j0, if_neg (by simp)]; rfl) h1, h2⟩

def goodTimes (m h d : Int) : Bool := decide (6 ≤ m ∧ m ≤ 40 ∧ 1 ≤ h ∧ h ≤ 10 ∧ 4 ≤ d ∧ d ≤ 30 ∧ m ≤ 2 * (d - 1) ∧ 2 * (h + 1) ≤ m)
theorem within_eq (n lo hi : Int) : conf_within.f n lo hi = some (decide (lo ≤ n ∧ n ≤ hi)) := by
  unfold conf_within.f
  by_cases c : n ≥ lo
  · rw [if_pos c]; congr 1; rw [decide_eq_decide]; omega
  · rw [if_neg c, decide_eq_false (by omega)]
theorem times_eq (a0 a1 m h d a5 a6 : Int) (l : List S51) : conf_Times.f a0 a1 m h d a5 a6 l = some (goodTimes m h d) := by
  unfold conf_Times.f goodTimes
  simp only [within_eq, Option.bind_some, decide_eq_true_eq]
  by_cases c1 : 6 ≤ m ∧ m ≤ 40
  · rw [if_pos c1]
    by_cases c2 : 1 ≤ h ∧ h ≤ 10
    · rw [if_pos c2]
      by_cases c3 : 4 ≤ d ∧ d ≤ 30
      · rw [if_pos c3, w64 (x := d - 1) (by omega) (by omega), w64 (x := 2 * (d - 1)) (by omega) (by omega), w64 (x := h + 1) (by omega) (by omega), w64 (x := 2 * (h + 1)) (by omega) (by omega)]
        by_cases c4 : 2 * (d - 1) ≥ m
        · rw [if_pos c4]; congr 1; rw [decide_eq_decide]; omega
        · rw [if_neg c4, decide_eq_false (by omega)]
      · rw [if_neg c3, decide_eq_false (by omega)]
    · rw [if_neg c2, decide_eq_false (by omega)]
  · rw [if_neg c1, decide_eq_false (by omega)]
theorem rd40_mem {l : List S51} {i : Int} (h0 : 0 ≤ i) (h1 : i < l.length) : rd_T51 l i ∈ l := by
  have h : i.toNat < l.length := by omega
  unfold rd_T51
  rw [List.getD_eq_getElem?_getD, List.getElem?_eq_getElem h]
  exact List.getElem_mem h

theorem group_eq {a : Int} (ha : 0 ≤ a ∧ a < 18446744073709551616) : ids_Group.f a = some (a / 1099511627776 % 2 == 1) := by
  unfold ids_Group.f
  rw [mask_u64 1 (by decide) (by omega) (by omega) (m := 1) (r := 2) (by decide) (by decide)]
def rightA (a : Int) : Bool := decide (0 < a ∧ a < 281474976710656 ∧ a / 1099511627776 % 2 = 0)
theorem right_eq {a : Int} (ha : 0 ≤ a ∧ a < 18446744073709551616) : ids_Right.f a = some (rightA a) := by
  unfold ids_Right.f rightA
  rw [group_eq ha]
  simp only [Option.bind_some]
  by_cases h : a > 0
  · rw [if_pos h]
    by_cases h1 : a < 281474976710656
    · rw [if_pos (by omega)]
      have : a / 1099511627776 % 2 = 0 ∨ a / 1099511627776 % 2 = 1 := by omega
      rcases this with e | e
      · rw [decide_eq_true ⟨by omega, h1, e⟩, e]; rfl
      · rw [decide_eq_false (by omega), e]; rfl
    · rw [if_neg (by omega), decide_eq_false (by omega)]
  · rw [if_neg h, decide_eq_false (by omega)]

/-- What is wrong with a configuration first. -/
def checkA (a m h d g t : Int) (l : List S51) : Int :=
  if rightA a = false then 1 else if (goodTimes m h d && decide (10 ≤ g ∧ g ≤ 1000000) && decide (0 ≤ t ∧ t ≤ 64)) = false then 3 else if l.length = 0 then 8 else if l.length > 4 then 4 else
    if l.all (fun p => decide (1 ≤ p.f1 ∧ p.f1 ≤ 65535)) then 0 else 3
theorem drop_cons51 {l : List S51} {i : Int} (h0 : 0 ≤ i) (h1 : i < l.length) : l.drop i.toNat = rd_T51 l i :: l.drop (i + 1).toNat := by
  have h : i.toNat < l.length := by omega
  rw [List.drop_eq_getElem_cons h, show (i + 1).toNat = i.toNat + 1 from by omega]
  congr 1
  unfold rd_T51
  rw [List.getD_eq_getElem?_getD, List.getElem?_eq_getElem h]; rfl
theorem check_l0 (l : List S51) (hs : l.length ≤ 4) (d : Nat) : ∀ (k : Nat) (i : Int), 0 ≤ i → i + d = l.length → d < k →
    conf_Check.l0 k l l.length i = some (if (l.drop i.toNat).all (fun p => decide (1 ≤ p.f1 ∧ p.f1 ≤ 65535)) then 0 else 3) := by
  induction d with
  | zero =>
    intro k i h0 h1 hk
    obtain ⟨k, rfl⟩ : ∃ m, k = m + 1 := ⟨k - 1, by omega⟩
    simp only [conf_Check.l0]
    rw [if_neg (by omega), List.drop_of_length_le (by omega)]; rfl
  | succ d ih =>
    intro k i h0 h1 hk
    obtain ⟨k, rfl⟩ : ∃ m, k = m + 1 := ⟨k - 1, by omega⟩
    simp only [conf_Check.l0]
    rw [if_pos (by omega), if_pos h0, if_pos (by omega), drop_cons51 h0 (by omega), List.all_cons]
    unfold conf_Port.f
    by_cases c : (rd_T51 l i).f1 ≥ 1
    · rw [if_pos c]
      simp only [Option.bind_some]
      by_cases e : (rd_T51 l i).f1 ≤ 65535
      · rw [decide_eq_true e, if_pos rfl, decide_eq_true ⟨c, e⟩, Bool.true_and, w64 (by omega) (by omega)]
        exact ih k (i + 1) (by omega) (by omega) (by omega)
      · rw [decide_eq_false e, if_neg (by decide), decide_eq_false (by omega)]; rfl
    · rw [if_neg c, decide_eq_false (by omega)]; rfl
theorem check_eq (k : Nat) (a p m h d g t : Int) (l : List S51) (ha : 0 ≤ a ∧ a < 18446744073709551616) : conf_Check.f (k + 7) a p m h d g t l = some (checkA a m h d g t l) := by
  have j : ∀ b : Bool, conf_Check.j0 (k + 7) b a p m h d g t l = some (if b = true then 3 else if l.length = 0 then 8 else if l.length > 4 then 4 else if l.all (fun p => decide (1 ≤ p.f1 ∧ p.f1 ≤ 65535)) then 0 else 3) := by
    intro b
    simp only [conf_Check.j0]
    by_cases c : b = true
    · rw [if_pos c, if_pos c]
    · rw [if_neg c, if_neg c]
      by_cases c1 : l.length = 0
      · rw [if_pos (by omega), if_pos c1]
      · rw [if_neg (by omega), if_neg c1]
        by_cases c2 : l.length > 4
        · rw [if_pos (by omega), if_pos c2]
        · rw [if_neg (by omega), if_neg c2]
          exact check_l0 l (by omega) l.length (k + 6) 0 (by omega) (by omega) (by omega)
  unfold conf_Check.f checkA
  rw [right_eq ha]
  simp only [Option.bind_some, times_eq, within_eq]
  cases rightA a with
  | false => rfl
  | true =>
    simp only [if_true, Bool.true_eq_false, if_false]
    cases goodTimes m h d with
    | false => simp [j]
    | true =>
      simp only [if_true, Bool.true_and]
      by_cases c1 : 10 ≤ g ∧ g ≤ 1000000
      · simp only [decide_eq_true c1, if_true, Bool.true_and]
        rw [j]
        by_cases c2 : 0 ≤ t ∧ t ≤ 64
        · simp [c2]
        · simp [c2]
      · simp only [decide_eq_false c1, Bool.false_eq_true, if_false, Bool.false_and]
        rw [j]; rfl


def metB (l1 : List S48) (i : Nat) : List Int := (l1.take i).map (·.f0)
theorem metB_succ {l1 : List S48} {i : Nat} (h : i < l1.length) : metB l1 (i + 1) = metB l1 i ++ [(rd_T48 l1 (i : Int)).f0] := by
  unfold metB rd_T48
  rw [List.take_add_one, List.map_append]
  simp [List.getD_eq_getElem?_getD, List.getElem?_eq_getElem h]
theorem mem_metB {l1 : List S48} {i : Nat} (hi : i ≤ l1.length) {x : Int} : x ∈ metB l1 i ↔ ∃ j : Nat, j < i ∧ (rd_T48 l1 (j : Int)).f0 = x := by
  unfold metB rd_T48
  rw [List.mem_map]
  constructor
  · rintro ⟨c, hc, rfl⟩
    obtain ⟨j, hj, rfl⟩ := List.getElem_of_mem hc
    rw [List.length_take] at hj
    refine ⟨j, by omega, ?_⟩
    simp [List.getD_eq_getElem?_getD, List.getElem?_eq_getElem (show j < l1.length by omega)]
  · rintro ⟨j, hj, rfl⟩
    refine ⟨l1[j]'(by omega), ?_, ?_⟩
    · exact List.mem_take_iff_getElem.2 ⟨j, by omega, rfl⟩
    · simp [List.getD_eq_getElem?_getD, List.getElem?_eq_getElem (show j < l1.length by omega)]

theorem bridge_eq {p a : Int} (hp : 0 ≤ p ∧ p < 65536) (ha : 0 ≤ a ∧ a < 18446744073709551616) : ids_Bridge.f p a = some (p * 281474976710656 + a % 281474976710656) := by
  unfold ids_Bridge.f
  rw [mask_u64 48 (by decide) ha.1 ha.2 (m := 281474976710655) (r := 281474976710656) (by decide) (by decide), wu64 hp.1 (by omega), wu64 (by omega) (by omega),
    join_u64 48 (r := 281474976710656) (by decide) (by omega) (by omega) (by omega) (by omega) (by omega) (by omega)]

def SQ (f : S48) : Prop := (0 ≤ f.f0 ∧ f.f0 < 18446744073709551616) ∧ 0 ≤ f.f1 ∧ f.f1 < 65536
/-- What a network that may be is like. -/
structure Facts (a0 : Int) (l1 : List S48) (l2 : List (List Int)) (l3 : List S59) (i : Nat) : Prop where
  row : ∀ b : Nat, i ≤ b → b < l1.length → (rd_L9 l2 (b : Int)).length = (rd_T48 l1 (b : Int)).f7.length
  link : ∀ b : Nat, i ≤ b → b < l1.length → ∀ t, t < (rd_L9 l2 (b : Int)).length → 0 ≤ (rd_L9 l2 (b : Int)).getD t 0 ∧ (rd_L9 l2 (b : Int)).getD t 0 < a0
  addr : ∀ b : Nat, i ≤ b → b < l1.length → 0 ≤ (rd_T48 l1 (b : Int)).f0 ∧ (rd_T48 l1 (b : Int)).f0 < 281474976710656
  apart : ∀ b k : Nat, i ≤ b → k < b → b < l1.length → (rd_T48 l1 (k : Int)).f0 ≠ (rd_T48 l1 (b : Int)).f0
  lan : ∀ s : Nat, s < l3.length → 0 ≤ (rd_T59 l3 (s : Int)).f1 ∧ (rd_T59 l3 (s : Int)).f1 < a0
theorem mem48 {l1 : List S48} {i : Nat} (h : i < l1.length) : rd_T48 l1 (i : Int) ∈ l1 := by
  unfold rd_T48
  rw [Int.toNat_natCast, List.getD_eq_getElem?_getD, List.getElem?_eq_getElem h]
  exact List.getElem_mem _
theorem mem59 {l : List S59} {i : Nat} (h : i < l.length) : rd_T59 l (i : Int) ∈ l := by
  unfold rd_T59
  rw [Int.toNat_natCast, List.getD_eq_getElem?_getD, List.getElem?_eq_getElem h]
  exact List.getElem_mem _
section
variable (a0 : Int) (l1 : List S48) (l2 : List (List Int)) (l3 : List S59)
theorem ck_l2 (hw3 : ∀ c ∈ l3, 0 ≤ c.f0 ∧ c.f0 < 18446744073709551616) (hn : l3.length ≤ 1000) : ∀ m (s : Nat) (met : List Int), s + m = l3.length → met.length ≤ 1000 + s →
    EvP (fun k => topo_Check.l2 k met l3 (l3.length : Int) (s : Int) a0 l1 l2 l3) (fun v => v = 0 → ∀ t : Nat, s ≤ t → t < l3.length → 0 ≤ (rd_T59 l3 (t : Int)).f1 ∧ (rd_T59 l3 (t : Int)).f1 < a0)
  | 0, s, met, hs, hm => by
    refine EvP.now (v := 0) (fun k => ?_) (fun _ t h1 h2 => absurd h2 (by omega))
    rw [topo_Check.l2, if_neg (by omega)]
  | m + 1, s, met, hs, hm => by
    have hr := right_eq (hw3 _ (mem59 (show s < l3.length by omega)))
    have bad : ∀ e : Int, e ≠ 0 → (∀ k, topo_Check.l2 (k + 1) met l3 (l3.length : Int) (s : Int) a0 l1 l2 l3 = some e) → EvP (fun k => topo_Check.l2 k met l3 (l3.length : Int) (s : Int) a0 l1 l2 l3) (fun v => v = 0 → ∀ t : Nat, s ≤ t → t < l3.length → 0 ≤ (rd_T59 l3 (t : Int)).f1 ∧ (rd_T59 l3 (t : Int)).f1 < a0) :=
      fun e he h => EvP.now (v := e) h (fun q => absurd q he)
    by_cases c1 : rightA (rd_T59 l3 (s : Int)).f0 = true
    · by_cases c2 : Mk.mem (rd_T59 l3 (s : Int)).f0 met = true
      · refine bad 9 (by decide) (fun k => ?_)
        rw [topo_Check.l2, if_pos (by omega), if_pos (by omega), if_pos (by omega), hr, Option.bind_some, if_pos c1, if_pos c2]
      · by_cases c3 : (rd_T59 l3 (s : Int)).f1 < 0
        · refine bad 8 (by decide) (fun k => ?_)
          rw [topo_Check.l2, if_pos (by omega), if_pos (by omega), if_pos (by omega), hr, Option.bind_some, if_pos c1, if_neg c2, if_pos c3]
        · by_cases c4 : (rd_T59 l3 (s : Int)).f1 ≥ a0
          · refine bad 8 (by decide) (fun k => ?_)
            rw [topo_Check.l2, if_pos (by omega), if_pos (by omega), if_pos (by omega), hr, Option.bind_some, if_pos c1, if_neg c2, if_neg c3, if_pos c4]
          · obtain ⟨v, hv, hp⟩ := ck_l2 hw3 hn m (s + 1) (met ++ [(rd_T59 l3 (s : Int)).f0]) (by omega) (by simp; omega)
            refine ⟨v, Ev.step (fun k => ?_) hv, fun q t h1 h2 => ?_⟩
            · rw [topo_Check.l2, if_pos (by omega), if_pos (by omega), if_pos (by omega), hr, Option.bind_some, if_pos c1, if_neg c2, if_neg c3, if_neg c4, if_pos (by omega), psucc (by omega)]
            · by_cases e : t = s
              · subst e; omega
              · exact hp q t (by omega) h2
    · refine bad 1 (by decide) (fun k => ?_)
      rw [topo_Check.l2, if_pos (by omega), if_pos (by omega), if_pos (by omega), hr, Option.bind_some, if_neg c1]
theorem ck_l1 (met : List Int) (i : Nat) (hi : i < l1.length) (hn : l1.length ≤ 1000) (L : List Int) (hL : L.length ≤ 1000) (Q : Prop)
    (hend : EvP (fun k => topo_Check.l0 k met l1 (l1.length : Int) ((i + 1 : Nat) : Int) a0 l1 l2 l3) (fun v => v = 0 → Q)) :
    ∀ m (j : Nat), j + m = L.length → EvP (fun k => topo_Check.l1 k met l1 (l1.length : Int) (i : Int) L (L.length : Int) (j : Int) a0 l1 l2 l3) (fun v => v = 0 → Q ∧ ∀ t, j ≤ t → t < L.length → 0 ≤ L.getD t 0 ∧ L.getD t 0 < a0)
  | 0, j, hj => by
    obtain ⟨v, hv, hp⟩ := hend
    refine ⟨v, Ev.step (fun k => ?_) hv, fun q => ⟨hp q, fun t h1 h2 => absurd h2 (by omega)⟩⟩
    rw [topo_Check.l1, if_neg (by omega), psucc (by omega)]
  | m + 1, j, hj => by
    by_cases c1 : L.getD j 0 < 0
    · refine EvP.now (v := 8) (fun k => ?_) (fun q => absurd q (by decide))
      rw [topo_Check.l1, if_pos (by omega), if_pos (by omega), if_pos (by omega), rdn, if_pos c1]
    · by_cases c2 : L.getD j 0 ≥ a0
      · refine EvP.now (v := 8) (fun k => ?_) (fun q => absurd q (by decide))
        rw [topo_Check.l1, if_pos (by omega), if_pos (by omega), if_pos (by omega), rdn, if_neg c1, if_pos c2]
      · obtain ⟨v, hv, hp⟩ := ck_l1 met i hi hn L hL Q hend m (j + 1) (by omega)
        refine ⟨v, Ev.step (fun k => ?_) hv, fun q => ⟨(hp q).1, fun t h1 h2 => ?_⟩⟩
        · rw [topo_Check.l1, if_pos (by omega), if_pos (by omega), if_pos (by omega), rdn, if_neg c1, if_neg c2, psucc (by omega)]
        · by_cases e : t = j
          · subst e; omega
          · exact (hp q).2 t (by omega) h2
theorem ck_l0 (hw : ∀ c ∈ l1, SQ c) (hw3 : ∀ c ∈ l3, 0 ≤ c.f0 ∧ c.f0 < 18446744073709551616) (hn : l1.length ≤ 1000) (hn3 : l3.length ≤ 1000) (hl : l2.length = l1.length) (hL : ∀ L ∈ l2, L.length ≤ 1000) :
    ∀ m (i : Nat), i + m = l1.length → EvP (fun k => topo_Check.l0 k (metB l1 i) l1 (l1.length : Int) (i : Int) a0 l1 l2 l3) (fun v => v = 0 → Facts a0 l1 l2 l3 i)
  | 0, i, hi => by
    obtain rfl : i = l1.length := by omega
    obtain ⟨v, hv, hp⟩ := ck_l2 a0 l1 l2 l3 hw3 hn3 l3.length 0 (metB l1 l1.length) (Nat.zero_add _) (by unfold metB; simp; omega)
    refine ⟨v, Ev.step (fun k => ?_) hv, fun q => ⟨fun b h1 h2 => absurd h2 (by omega), fun b h1 h2 => absurd h2 (by omega), fun b h1 h2 => absurd h2 (by omega), fun b k h1 h3 h2 => absurd h2 (by omega), fun s hs => hp q s (Nat.zero_le _) hs⟩⟩
    rw [topo_Check.l0, if_neg (by omega)]
    rfl
  | m + 1, i, hi => by
    have hilt : i < l1.length := by omega
    have hwc := hw _ (mem48 hilt)
    have hlk : (rd_L9 l2 (i : Int)).length ≤ 1000 := by
      refine hL _ ?_
      unfold rd_L9
      rw [Int.toNat_natCast, List.getD_eq_getElem?_getD, List.getElem?_eq_getElem (by omega)]
      exact List.getElem_mem _
    have ih := ck_l0 hw hw3 hn hn3 hl hL m (i + 1) (by omega)
    rw [metB_succ hilt] at ih
    have hml : (metB l1 i).length ≤ 1000 := by unfold metB; simp; omega
    obtain ⟨e, he⟩ : ∃ e, checkA (rd_T48 l1 (i : Int)).f0 (rd_T48 l1 (i : Int)).f2 (rd_T48 l1 (i : Int)).f3 (rd_T48 l1 (i : Int)).f4 (rd_T48 l1 (i : Int)).f5 (rd_T48 l1 (i : Int)).f6 (rd_T48 l1 (i : Int)).f7 = e := ⟨_, rfl⟩
    have e1 : Ev (fun k => conf_Check.f k (rd_T48 l1 (i : Int)).f0 (rd_T48 l1 (i : Int)).f1 (rd_T48 l1 (i : Int)).f2 (rd_T48 l1 (i : Int)).f3 (rd_T48 l1 (i : Int)).f4 (rd_T48 l1 (i : Int)).f5 (rd_T48 l1 (i : Int)).f6 (rd_T48 l1 (i : Int)).f7) e := ⟨7, fun k hk => by
      obtain ⟨t, rfl⟩ : ∃ t, k = t + 7 := ⟨k - 7, by omega⟩
      exact (check_eq t _ _ _ _ _ _ _ _ hwc.1).trans (congrArg some he)⟩
    have st := fun (v : Int) (G : Nat → Option Int) (h : Ev G v) (hg : ∀ k, (if e = 0 then (if Mk.mem ((rd_T48 l1 (i : Int)).f0) (metB l1 i) = true then (some 9) else (if (metB l1 i).length < 17592186044416 then (if (i : Int) < (l2.length : Int) then (if ((rd_L9 l2 (i : Int)).length : Int) = (((rd_T48 l1 (i : Int)).f7).length : Int) then (topo_Check.l1 k ((metB l1 i) ++ [(rd_T48 l1 (i : Int)).f0]) l1 (l1.length : Int) (i : Int) (rd_L9 l2 (i : Int)) ((rd_L9 l2 (i : Int)).length : Int) 0 a0 l1 l2 l3) else (some 1)) else (none)) else (none))) else (some e)) = G k) =>
      (show Ev (fun k => topo_Check.l0 k (metB l1 i) l1 (l1.length : Int) (i : Int) a0 l1 l2 l3) v from Ev.bind (fun k => by rw [topo_Check.l0, if_pos (by omega), if_pos (by omega), if_pos (by omega)]) e1 (by
        obtain ⟨K, hK⟩ := h
        exact ⟨K, fun k hk => (hg k).trans (hK k hk)⟩))
    by_cases c0 : e = 0
    · by_cases c1 : (rd_T48 l1 (i : Int)).f0 ∈ metB l1 i
      · exact ⟨9, st 9 (fun _ => some 9) ⟨0, fun _ _ => rfl⟩ (fun k => by rw [if_pos c0, if_pos (show Mk.mem (rd_T48 l1 (i : Int)).f0 (metB l1 i) = true from decide_eq_true c1)]), fun q => absurd q (by decide)⟩
      · have c1' : ¬ (Mk.mem (rd_T48 l1 (i : Int)).f0 (metB l1 i) = true) := fun h => c1 (of_decide_eq_true h)
        by_cases c2 : ((rd_L9 l2 (i : Int)).length : Int) = (((rd_T48 l1 (i : Int)).f7).length : Int)
        · obtain ⟨v, hv, hp⟩ := ck_l1 a0 l1 l2 l3 (metB l1 i ++ [(rd_T48 l1 (i : Int)).f0]) i hilt hn (rd_L9 l2 (i : Int)) hlk _ ih _ 0 (Nat.zero_add _)
          refine ⟨v, st v _ hv (fun k => by rw [if_pos c0, if_neg c1', if_pos (by omega), if_pos (by omega), if_pos c2]; rfl), fun q => ?_⟩
          obtain ⟨F, hlink⟩ := hp q
          have hr : 0 ≤ (rd_T48 l1 (i : Int)).f0 ∧ (rd_T48 l1 (i : Int)).f0 < 281474976710656 := by
            rw [c0] at he
            unfold checkA at he
            by_cases r : rightA (rd_T48 l1 (i : Int)).f0 = false
            · rw [if_pos r] at he; exact absurd he (by decide)
            · have r2 : rightA (rd_T48 l1 (i : Int)).f0 = true := by simpa using r
              have r3 := of_decide_eq_true r2
              omega
          refine ⟨fun b h1 h2 => ?_, fun b h1 h2 => ?_, fun b h1 h2 => ?_, fun b k h1 h3 h2 => ?_, F.lan⟩
          · by_cases eb : b = i
            · subst eb; omega
            · exact F.row b (by omega) h2
          · by_cases eb : b = i
            · subst eb; exact fun t ht => hlink t (Nat.zero_le _) ht
            · exact F.link b (by omega) h2
          · by_cases eb : b = i
            · subst eb; exact hr
            · exact F.addr b (by omega) h2
          · by_cases eb : b = i
            · subst eb; exact fun q => c1 ((mem_metB (by omega)).2 ⟨k, h3, q⟩)
            · exact F.apart b k (by omega) h3 h2
        · exact ⟨1, st 1 (fun _ => some 1) ⟨0, fun _ _ => rfl⟩ (fun k => by rw [if_pos c0, if_neg c1', if_pos (by omega), if_pos (by omega), if_neg c2]), fun q => absurd q (by decide)⟩
    · exact ⟨e, st e (fun _ => some e) ⟨0, fun _ _ => rfl⟩ (fun k => by rw [if_neg c0]), fun q => absurd q c0⟩
/-- The check comes to an end; where it finds nothing wrong the network is as the document asks. -/
theorem ck (hw : ∀ c ∈ l1, SQ c) (hw3 : ∀ c ∈ l3, 0 ≤ c.f0 ∧ c.f0 < 18446744073709551616) (hL : ∀ L ∈ l2, L.length ≤ 1000) :
    EvP (fun k => topo_Check.f k a0 l1 l2 l3) (fun v => v = 0 → Facts a0 l1 l2 l3 0 ∧ l2.length = l1.length) := by
  have hf : ∀ k, topo_Check.f k a0 l1 l2 l3 = topo_Check.g k a0 l1 l2 l3 := fun k => by
    unfold topo_Check.f
    rw [if_pos ⟨List.all_eq_true.2 fun c hc => decide_eq_true (hw c hc).1, List.all_eq_true.2 fun c hc => decide_eq_true (hw3 c hc)⟩]
  simp only [hf]
  have one : EvP (fun k => topo_Check.j0 k true a0 l1 l2 l3) (fun v => v = 0 → Facts a0 l1 l2 l3 0 ∧ l2.length = l1.length) :=
    EvP.now (v := 1) (fun k => by rw [topo_Check.j0, if_pos rfl]) (fun q => absurd q (by decide))
  by_cases c1 : a0 < 1
  · simp only [topo_Check.g, if_pos c1]; exact one
  · by_cases c2 : a0 > 8
    · simp only [topo_Check.g, if_neg c1, if_pos c2]; exact one
    · by_cases c3 : (l1.length : Int) = 0
      · simp only [topo_Check.g, if_neg c1, if_neg c2, if_pos c3]; exact one
      · simp only [topo_Check.g, if_neg c1, if_neg c2, if_neg c3]
        by_cases c4 : l2.length = l1.length
        · have e : ((l2.length : Int) != (l1.length : Int)) = false := by rw [c4]; simp
          rw [e]
          by_cases c5 : (l1.length : Int) > 6
          · exact EvP.now (v := 4) (fun k => by rw [topo_Check.j0, if_neg (by simp), if_pos c5]) (fun q => absurd q (by decide))
          · by_cases c6 : (l3.length : Int) > 8
            · exact EvP.now (v := 4) (fun k => by rw [topo_Check.j0, if_neg (by simp), if_neg c5, if_pos c6]) (fun q => absurd q (by decide))
            · obtain ⟨v, hv, hp⟩ := ck_l0 a0 l1 l2 l3 hw hw3 (by omega) (by omega) c4 hL _ 0 (Nat.zero_add _)
              refine ⟨v, Ev.step (fun k => ?_) hv, fun q => ⟨hp q, c4⟩⟩
              rw [topo_Check.j0, if_neg (by simp), if_neg c5, if_neg c6]
              rfl
        · have e : ((l2.length : Int) != (l1.length : Int)) = true := bne_iff_ne.2 (by omega)
          rw [e]; exact one
end

def cnt (x : Int) : List Int → Nat
  | [] => 0
  | y :: r => (if y = x then 1 else 0) + cnt x r
def ctr (x : Int) : List (List Int) → Nat
  | [] => 0
  | L :: r => cnt x L + ctr x r
def cts (x : Int) : List S59 → Nat
  | [] => 0
  | s :: r => (if s.f1 = x then 1 else 0) + cts x r
def lens : List (List Int) → Nat
  | [] => 0
  | L :: r => L.length + lens r
theorem cnt_le (x : Int) : ∀ L : List Int, cnt x L ≤ L.length
  | [] => Nat.le_refl _
  | y :: r => by
    have := cnt_le x r
    simp only [cnt, List.length_cons]
    split <;> omega
theorem ctr_le (x : Int) (m : Nat) : ∀ l : List (List Int), (∀ L ∈ l, L.length ≤ m) → ctr x l ≤ l.length * m
  | [], _ => Nat.zero_le _
  | L :: r, h => by
    have h1 := ctr_le x m r (fun L hL => h L (List.mem_cons_of_mem _ hL))
    have h2 := cnt_le x L
    have h3 := h L (List.mem_cons_self ..)
    simp only [ctr, List.length_cons, Nat.succ_mul]
    omega
theorem cts_le (x : Int) : ∀ l : List S59, cts x l ≤ l.length
  | [] => Nat.le_refl _
  | y :: r => by
    have := cts_le x r
    simp only [cts, List.length_cons]
    split <;> omega
theorem dropI {α : Type} (d : α) {l : List α} {i : Nat} (h : i < l.length) : l.drop i = l.getD i d :: l.drop (i + 1) := by
  rw [List.drop_eq_getElem_cons h, List.getD_eq_getElem?_getD, List.getElem?_eq_getElem h]
  rfl
section
variable (a0 : Int) (l1 : List S48) (l2 : List (List Int)) (l3 : List S59) (x : Int)
theorem ends_l2 (hn : l3.length ≤ 1000) (N : Nat) (hN : N ≤ 100000) : ∀ m (s : Nat) (out : List S65), s + m = l3.length → out.length + cts x (l3.drop s) = N →
    EvP (fun k => topo_Ends.l2 k x out l3 (l3.length : Int) (s : Int)) (fun r => r.length = N)
  | 0, s, out, hs, ho => by
    obtain rfl : s = l3.length := by omega
    rw [List.drop_length] at ho
    refine EvP.now (v := out) (fun k => ?_) ho
    rw [topo_Ends.l2, if_neg (by omega)]
  | m + 1, s, out, hs, ho => by
    rw [dropI (⟨0, 0⟩ : S59) (show s < l3.length by omega)] at ho
    simp only [cts] at ho
    have hrd : rd_T59 l3 (s : Int) = l3.getD s ⟨0, 0⟩ := by unfold rd_T59; rw [Int.toNat_natCast]; rfl
    by_cases c : (l3.getD s ⟨0, 0⟩).f1 = x
    · rw [if_pos c] at ho
      refine EvP.step (fun k => ?_) (ends_l2 hn N hN m (s + 1) (out ++ [⟨-1, -1, (s : Int)⟩]) (by omega) (by simp; omega))
      rw [topo_Ends.l2, if_pos (by omega), if_pos (by omega), if_pos (by omega), hrd, if_pos c, if_pos (by omega), psucc (by omega)]
    · rw [if_neg c] at ho
      refine EvP.step (fun k => ?_) (ends_l2 hn N hN m (s + 1) out (by omega) (by omega))
      rw [topo_Ends.l2, if_pos (by omega), if_pos (by omega), if_pos (by omega), hrd, if_neg c, psucc (by omega)]
theorem ends_l1 (b : Nat) (hn : l2.length ≤ 1000) (hb : b < l2.length) (L : List Int) (hL : L.length ≤ 1000) (N : Nat) (hN : N ≤ 100000) (Φ : List S65 → Prop)
    (hq : ∀ out, out.length = N → EvP (fun k => topo_Ends.l0 k x out l2 (l2.length : Int) ((b + 1 : Nat) : Int) a0 l1 l2 l3) Φ) :
    ∀ m (j : Nat) (out : List S65), j + m = L.length → out.length + cnt x (L.drop j) = N → EvP (fun k => topo_Ends.l1 k x out (b : Int) l2 (l2.length : Int) (b : Int) L (L.length : Int) (j : Int) a0 l1 l2 l3) Φ
  | 0, j, out, hj, ho => by
    obtain rfl : j = L.length := by omega
    rw [List.drop_length] at ho
    refine EvP.step (fun k => ?_) (hq out ho)
    rw [topo_Ends.l1, if_neg (by omega), psucc (by omega)]
  | m + 1, j, out, hj, ho => by
    rw [dropI (0 : Int) (show j < L.length by omega)] at ho
    simp only [cnt] at ho
    by_cases c : L.getD j 0 = x
    · rw [if_pos c] at ho
      refine EvP.step (fun k => ?_) (ends_l1 b hn hb L hL N hN Φ hq m (j + 1) (out ++ [⟨(b : Int), (j : Int), -1⟩]) (by omega) (by simp; omega))
      rw [topo_Ends.l1, if_pos (by omega), if_pos (by omega), if_pos (by omega), rdn, if_pos c, if_pos (by omega), psucc (by omega)]
    · rw [if_neg c] at ho
      refine EvP.step (fun k => ?_) (ends_l1 b hn hb L hL N hN Φ hq m (j + 1) out (by omega) (by omega))
      rw [topo_Ends.l1, if_pos (by omega), if_pos (by omega), if_pos (by omega), rdn, if_neg c, psucc (by omega)]
theorem ends_l0 (hn : l2.length ≤ 1000) (hL : ∀ L ∈ l2, L.length ≤ 1000) (hn3 : l3.length ≤ 1000) (N : Nat) (hN : N ≤ 100000) : ∀ m (b : Nat) (out : List S65), b + m = l2.length → out.length + ctr x (l2.drop b) + cts x l3 = N →
    EvP (fun k => topo_Ends.l0 k x out l2 (l2.length : Int) (b : Int) a0 l1 l2 l3) (fun r => r.length = N)
  | 0, b, out, hb, ho => by
    obtain rfl : b = l2.length := by omega
    rw [List.drop_length] at ho
    refine EvP.step (fun k => ?_) (ends_l2 l3 x hn3 N hN _ 0 out (Nat.zero_add _) (by simpa [ctr] using ho))
    rw [topo_Ends.l0, if_neg (by omega)]
    rfl
  | m + 1, b, out, hb, ho => by
    rw [dropI ([] : List Int) (show b < l2.length by omega)] at ho
    simp only [ctr] at ho
    have hm : l2.getD b [] ∈ l2 := by
      rw [List.getD_eq_getElem?_getD, List.getElem?_eq_getElem (show b < l2.length by omega)]
      exact List.getElem_mem _
    have hrow : rd_L9 l2 (b : Int) = l2.getD b [] := by unfold rd_L9; rw [Int.toNat_natCast]
    refine EvP.step (fun k => ?_) (ends_l1 a0 l1 l2 l3 x b hn (by omega) (l2.getD b []) (hL _ hm) (out.length + cnt x (l2.getD b [])) (by omega) _ (fun out' ho' => ends_l0 hn hL hn3 N hN m (b + 1) out' (by omega) (by omega)) _ 0 out (Nat.zero_add _) rfl)
    rw [topo_Ends.l0, if_pos (by omega), if_pos (by omega), if_pos (by omega), hrow]
    rfl
end
theorem ends_ok (a0 : Int) (l1 : List S48) (l2 : List (List Int)) (l3 : List S59) (x : Int) (hn : l2.length ≤ 20) (hL : ∀ L ∈ l2, L.length ≤ 20) (hn3 : l3.length ≤ 40) : EvP (fun k => topo_Ends.f k a0 l1 l2 l3 x) (fun r => r.length = ctr x l2 + cts x l3) := by
  have h1 := ctr_le x 20 l2 hL
  have h2 := cts_le x l3
  have h3 : l2.length * 20 ≤ 20 * 20 := Nat.mul_le_mul_right 20 hn
  obtain ⟨r, hr, hp⟩ := ends_l0 a0 l1 l2 l3 x (by omega) (fun L h => by have := hL L h; omega) (by omega) (ctr x l2 + cts x l3) (by omega) _ 0 [] (Nat.zero_add _) (by simp)
  exact ⟨r, hr, hp⟩
/-- Sums over all LANs. -/
def sumN (f : Nat → Nat) : Nat → Nat
  | 0 => 0
  | n + 1 => sumN f n + f n
theorem sumN_congr {f g : Nat → Nat} : ∀ n, (∀ x, x < n → f x = g x) → sumN f n = sumN g n
  | 0, _ => rfl
  | n + 1, h => by
    simp only [sumN]
    rw [sumN_congr n (fun x hx => h x (by omega)), h n (by omega)]
theorem sumN_add (f g : Nat → Nat) : ∀ n, sumN (fun x => f x + g x) n = sumN f n + sumN g n
  | 0 => rfl
  | n + 1 => by
    simp only [sumN]
    rw [sumN_add f g n]
    omega
theorem sumN_zero : ∀ n, sumN (fun _ => 0) n = 0
  | 0 => rfl
  | n + 1 => by simp only [sumN]; rw [sumN_zero n]
theorem sumN_one (y : Int) : ∀ n : Nat, 0 ≤ y → sumN (fun x => if y = (x : Int) then 1 else 0) n = if y < (n : Int) then 1 else 0
  | 0, h => by
    rw [if_neg (by omega)]
    rfl
  | n + 1, h => by
    simp only [sumN]
    rw [sumN_one y n h]
    by_cases c : y = (n : Int)
    · rw [if_neg (by omega), if_pos c, if_pos (by omega)]
    · by_cases d : y < (n : Int)
      · rw [if_pos d, if_neg c, if_pos (by omega)]
      · rw [if_neg d, if_neg c, if_neg (by omega)]
theorem sum_cnt (n : Nat) : ∀ L : List Int, (∀ y ∈ L, 0 ≤ y ∧ y < (n : Int)) → sumN (fun x => cnt (x : Int) L) n = L.length
  | [], _ => sumN_zero n
  | y :: r, h => by
    have h1 := h y (List.mem_cons_self ..)
    simp only [cnt]
    rw [sumN_add, sumN_one y n h1.1, if_pos h1.2, sum_cnt n r (fun z hz => h z (List.mem_cons_of_mem _ hz)), List.length_cons]
    omega
theorem sum_ctr (n : Nat) : ∀ l : List (List Int), (∀ L ∈ l, ∀ y ∈ L, 0 ≤ y ∧ y < (n : Int)) → sumN (fun x => ctr (x : Int) l) n = lens l
  | [], _ => sumN_zero n
  | L :: r, h => by
    simp only [ctr, lens]
    rw [sumN_add, sum_cnt n L (h L (List.mem_cons_self ..)), sum_ctr n r (fun z hz => h z (List.mem_cons_of_mem _ hz))]
theorem sum_cts (n : Nat) : ∀ l : List S59, (∀ s ∈ l, 0 ≤ s.f1 ∧ s.f1 < (n : Int)) → sumN (fun x => cts (x : Int) l) n = l.length
  | [], _ => sumN_zero n
  | s :: r, h => by
    have h1 := h s (List.mem_cons_self ..)
    simp only [cts]
    rw [sumN_add, sumN_one s.f1 n h1.1, if_pos h1.2, sum_cts n r (fun z hz => h z (List.mem_cons_of_mem _ hz)), List.length_cons]
    omega
def ports : List S48 → Nat
  | [] => 0
  | c :: r => c.f7.length + ports r

theorem rd48 {l : List S48} {i : Nat} (h : i < l.length) : rd_T48 l (i : Int) = l[i] := by
  unfold rd_T48
  rw [Int.toNat_natCast, List.getD_eq_getElem?_getD, List.getElem?_eq_getElem h]
  rfl
section
variable (a0 : Int) (l1 : List S48) (l2 : List (List Int)) (l3 : List S59)
theorem copy_l1 (hn : l2.length ≤ 1000) (hL : ∀ L ∈ l2, L.length ≤ 1000) (hn3 : l3.length ≤ 1000) (out : List (List Int)) (C : List S48) (D : List S59) : ∀ m (i : Nat), i + m = l2.length →
    Ev (fun k => topo_Copy.l1 k l2 (l2.length : Int) (i : Int) a0 l1 l2 l3 a0 C (l2.take i) D) (a0, C, l2, l3)
  | 0, i, hi => by
    obtain rfl : i = l2.length := by omega
    refine Ev.now fun k => ?_
    rw [topo_Copy.l1, if_neg (by omega), Option.bind_some, if_pos (by simp; omega), List.take_length]
    rfl
  | m + 1, i, hi => by
    have ih := copy_l1 hn hL hn3 out C D m (i + 1) (by omega)
    have hm : l2.getD i [] ∈ l2 := by
      rw [List.getD_eq_getElem?_getD, List.getElem?_eq_getElem (show i < l2.length by omega)]
      exact List.getElem_mem _
    have hlen := hL _ hm
    have hrow : rd_L9 l2 (i : Int) = l2.getD i [] := by unfold rd_L9; rw [Int.toNat_natCast]
    have ht : l2.take (i + 1) = l2.take i ++ [l2.getD i []] := by
      rw [List.take_add_one, List.getD_eq_getElem?_getD, List.getElem?_eq_getElem (show i < l2.length by omega)]
      rfl
    refine Ev.step (fun k => ?_) ih
    rw [topo_Copy.l1, if_pos (by omega), if_pos (by omega), if_pos (by omega), Option.bind_some, hrow, if_pos (by rw [List.length_nil]; omega), if_pos (by simp; omega), psucc (by omega), ht]
    rfl
theorem copy_l0 (hn1 : l1.length ≤ 1000) (hp : ∀ c ∈ l1, c.f7.length ≤ 1000) (hn : l2.length ≤ 1000) (hL : ∀ L ∈ l2, L.length ≤ 1000) (hn3 : l3.length ≤ 1000) : ∀ m (i : Nat), i + m = l1.length →
    Ev (fun k => topo_Copy.l0 k l1 (l1.length : Int) (i : Int) a0 l1 l2 l3 a0 (l1.take i) l3) (a0, l1, l2, l3)
  | 0, i, hi => by
    obtain rfl : i = l1.length := by omega
    refine Ev.step (fun k => ?_) (copy_l1 a0 l1 l2 l3 hn hL hn3 [] l1 l3 _ 0 (Nat.zero_add _))
    rw [topo_Copy.l0, if_neg (by omega), List.take_length]
    rfl
  | m + 1, i, hi => by
    have ih := copy_l0 hn1 hp hn hL hn3 m (i + 1) (by omega)
    have hlt : i < l1.length := by omega
    have hlen := hp _ (mem48 hlt)
    have ht : l1.take (i + 1) = l1.take i ++ [rd_T48 l1 (i : Int)] := by
      rw [rd48 hlt, List.take_add_one, List.getElem?_eq_getElem hlt]
      rfl
    refine Ev.step (fun k => ?_) ih
    rw [topo_Copy.l0, if_pos (by omega), if_pos (by omega), if_pos (by omega), conf_Copy.f, Option.bind_some, if_pos (by simp; omega), Option.bind_some, if_pos (by simp; omega), psucc (by omega), ht]
    rfl
theorem copy_ok (hn1 : l1.length ≤ 1000) (hp : ∀ c ∈ l1, c.f7.length ≤ 1000) (hn : l2.length ≤ 1000) (hL : ∀ L ∈ l2, L.length ≤ 1000) (hn3 : l3.length ≤ 1000) : Ev (fun k => topo_Copy.f k a0 l1 l2 l3) (a0, l1, l2, l3) :=
  copy_l0 a0 l1 l2 l3 hn1 hp hn hL hn3 _ 0 (Nat.zero_add _)
end
theorem id_eq {p a : Int} (a1 a2 a3 a4 a5 : Int) (l : List S51) (hp : 0 ≤ p ∧ p < 65536) (ha : 0 ≤ a ∧ a < 281474976710656) : conf_Id.f a p a1 a2 a3 a4 a5 l = some (p * 281474976710656 + a) := by
  unfold conf_Id.f
  rw [bridge_eq hp ⟨ha.1, by omega⟩, Option.bind_some, Int.emod_eq_of_lt ha.1 ha.2]
section
variable (a0 : Int) (l1 : List S48) (l2 : List (List Int)) (l3 : List S59)
/-- Unlike numbers. -/
theorem law_l4 (hw : ∀ c ∈ l1, SQ c) (F : Facts a0 l1 l2 l3 0) (hn : l1.length ≤ 1000) (x4 : Int) (i : Nat) (hi : i < l1.length)
    (hq : EvP (fun k => treelinelaw20_TopoRight.l3 k (wrap64 (x4 - (((rd_T48 l1 (i : Int)).f7).length : Int))) ((i + 1 : Nat) : Int) a0 l1 l2 l3) (· = true)) :
    ∀ m (j : Nat), j + m = i → EvP (fun k => treelinelaw20_TopoRight.l4 k x4 (i : Int) (j : Int) a0 l1 l2 l3) (· = true)
  | 0, j, hj => by
    obtain rfl : j = i := by omega
    refine EvP.step (fun k => ?_) hq
    rw [treelinelaw20_TopoRight.l4, if_neg (by omega), if_pos (by omega), if_pos (by omega), psucc (by omega)]
  | m + 1, j, hj => by
    have ai := F.addr i (Nat.zero_le _) hi
    have aj := F.addr j (Nat.zero_le _) (by omega)
    have ne := F.apart i j (Nat.zero_le _) (by omega) hi
    have pi := (hw _ (mem48 hi)).2
    have pj := (hw _ (mem48 (show j < l1.length by omega))).2
    refine EvP.step (fun k => ?_) (law_l4 hw F hn x4 i hi hq m (j + 1) (by omega))
    rw [treelinelaw20_TopoRight.l4, if_pos (by omega), if_pos (by omega), if_pos (by omega), id_eq _ _ _ _ _ _ pi ai, Option.bind_some, if_pos (by omega), if_pos (by omega), id_eq _ _ _ _ _ _ pj aj, Option.bind_some, if_neg (by omega), psucc (by omega)]
theorem ports_le (m : Nat) : ∀ l : List S48, (∀ c ∈ l, c.f7.length ≤ m) → ports l ≤ l.length * m
  | [], _ => Nat.zero_le _
  | L :: r, h => by
    have h1 := ports_le m r (fun L hL => h L (List.mem_cons_of_mem _ hL))
    have h3 := h L (List.mem_cons_self ..)
    simp only [ports, List.length_cons, Nat.succ_mul]
    omega
theorem law_l3 (hw : ∀ c ∈ l1, SQ c) (F : Facts a0 l1 l2 l3 0) (hn : l1.length ≤ 1000) (hn3 : l3.length ≤ 1000) : ∀ m (i : Nat) (x4 : Int), i + m = l1.length → x4 = ((l3.length + ports (l1.drop i) : Nat) : Int) → x4 ≤ 1000000 →
    EvP (fun k => treelinelaw20_TopoRight.l3 k x4 (i : Int) a0 l1 l2 l3) (· = true)
  | 0, i, x4, hi, hx, hb => by
    obtain rfl : i = l1.length := by omega
    rw [List.drop_length] at hx
    simp only [ports, Nat.add_zero] at hx
    refine EvP.now (v := true) (fun k => ?_) rfl
    rw [treelinelaw20_TopoRight.l3, if_neg (by omega), hx]
    simp
  | m + 1, i, x4, hi, hx, hb => by
    have hlt : i < l1.length := by omega
    rw [List.drop_eq_getElem_cons hlt] at hx
    simp only [ports] at hx
    rw [← rd48 hlt] at hx
    refine EvP.step (fun k => ?_) (law_l4 a0 l1 l2 l3 hw F hn x4 i hlt (law_l3 hw F hn hn3 m (i + 1) _ (by omega) (by rw [w64 (by omega) (by omega)]; omega) (by rw [w64 (by omega) (by omega)]; omega)) i 0 (Nat.zero_add _))
    rw [treelinelaw20_TopoRight.l3, if_pos (by omega)]
    rfl
/-- The copy's costs are written; the network's own stay. -/
def Like (C l1 : List S48) : Prop := C.length = l1.length ∧ ∀ i : Nat, i < l1.length → (rd_T48 C (i : Int)).f7.length = (rd_T48 l1 (i : Int)).f7.length
theorem Like.put {C l1 : List S48} (h : Like C l1) (i : Nat) (hi : i < l1.length) (c : S48) (hc : c.f7.length = (rd_T48 C (i : Int)).f7.length) : Like (C.set i c) l1 := by
  refine ⟨by rw [List.length_set]; exact h.1, fun x hx => ?_⟩
  rw [← h.2 x hx, rd48 (by rw [List.length_set, h.1]; exact hx), rd48 (by rw [h.1]; exact hx)]
  rw [List.getElem_set]
  by_cases e : i = x
  · subst e
    rw [if_pos rfl, hc, rd48 (by rw [h.1]; exact hx)]
  · rw [if_neg e]
theorem law_l2 (x4 b0 : Int) (b2 : List (List Int)) (b3 : List S59) (hn : l1.length ≤ 1000) (hp : ∀ c ∈ l1, c.f7.length ≤ 1000) (i : Nat) (hi : i < l1.length)
    (hq : ∀ C, Like C l1 → EvP (fun k => treelinelaw20_TopoRight.l1 k x4 ((i + 1 : Nat) : Int) a0 l1 l2 l3 b0 C b2 b3) (· = true)) :
    ∀ m (j : Nat) (C : List S48), Like C l1 → j + m = (rd_T48 l1 (i : Int)).f7.length → EvP (fun k => treelinelaw20_TopoRight.l2 k x4 (i : Int) (j : Int) a0 l1 l2 l3 b0 C b2 b3) (· = true)
  | 0, j, C, hC, hj => by
    have hl := hC.1
    have hs := hC.2 i hi
    refine EvP.step (fun k => ?_) (hq C hC)
    rw [treelinelaw20_TopoRight.l2, if_pos (by omega), if_pos (by omega), if_neg (by omega), psucc (by omega)]
  | m + 1, j, C, hC, hj => by
    have hl := hC.1
    have hs := hC.2 i hi
    have hlen := hp _ (mem48 hi)
    refine EvP.step (fun k => ?_) (law_l2 x4 b0 b2 b3 hn hp i hi hq m (j + 1) _ (hC.put i hi (⟨(rd_T48 C i).f0, (rd_T48 C i).f1, (rd_T48 C i).f2, (rd_T48 C i).f3, (rd_T48 C i).f4, (rd_T48 C i).f5, (rd_T48 C i).f6, (((rd_T48 C i).f7).set j (⟨(rd_T51 ((rd_T48 C i).f7) j).f0, (((rd_T51 ((rd_T48 l1 i).f7) j).f1) + 1) % 4294967296, (rd_T51 ((rd_T48 C i).f7) j).f2⟩ : S51))⟩ : S48) (by simp)) (by omega))
    rw [treelinelaw20_TopoRight.l2, if_pos (by omega), if_pos (by omega), if_pos (by omega), if_pos (by omega), if_pos (by omega), if_pos (by omega), if_pos rfl, psucc (by omega), Int.toNat_natCast, Int.toNat_natCast]
theorem law_l1 (x4 b0 : Int) (b2 : List (List Int)) (b3 : List S59) (hn : l1.length ≤ 1000) (hp : ∀ c ∈ l1, c.f7.length ≤ 1000)
    (hq : EvP (fun k => (topo_Check.f k a0 l1 l2 l3).bind fun t286 => (if t286 = 0 then (treelinelaw20_TopoRight.l3 k x4 0 a0 l1 l2 l3) else (some true))) (· = true)) :
    ∀ m (i : Nat) (C : List S48), Like C l1 → i + m = l1.length → EvP (fun k => treelinelaw20_TopoRight.l1 k x4 (i : Int) a0 l1 l2 l3 b0 C b2 b3) (· = true)
  | 0, i, C, hC, hi => by
    have hl := hC.1
    refine EvP.step (fun k => ?_) hq
    rw [treelinelaw20_TopoRight.l1, if_neg (by omega)]
  | m + 1, i, C, hC, hi => by
    have hl := hC.1
    refine EvP.step (fun k => ?_) (law_l2 a0 l1 l2 l3 x4 b0 b2 b3 hn hp i (by omega) (fun C' hC' => law_l1 x4 b0 b2 b3 hn hp hq m (i + 1) C' hC' (by omega)) _ 0 C hC (Nat.zero_add _))
    rw [treelinelaw20_TopoRight.l1, if_pos (by omega)]
    rfl
theorem law_l0 (C : List S48) (b0 : Int) (b2 : List (List Int)) (b3 : List S59) (hn : l2.length ≤ 20) (hL : ∀ L ∈ l2, L.length ≤ 20) (hn3 : l3.length ≤ 40) (h0 : a0 ≤ 20)
    (hq : EvP (fun k => treelinelaw20_TopoRight.l1 k ((sumN (fun x => ctr (x : Int) l2 + cts (x : Int) l3) a0.toNat : Nat) : Int) 0 a0 l1 l2 l3 b0 C b2 b3) (· = true)) :
    ∀ m (x : Nat), x + m = a0.toNat → sumN (fun x => ctr (x : Int) l2 + cts (x : Int) l3) x ≤ x * 440 → EvP (fun k => treelinelaw20_TopoRight.l0 k ((sumN (fun x => ctr (x : Int) l2 + cts (x : Int) l3) x : Nat) : Int) (x : Int) a0 l1 l2 l3 b0 C b2 b3) (· = true)
  | 0, x, hx, hb => by
    obtain rfl : x = a0.toNat := by omega
    refine EvP.step (fun k => ?_) hq
    rw [treelinelaw20_TopoRight.l0, if_neg (by omega)]
  | m + 1, x, hx, hb => by
    obtain ⟨r, hr, hp⟩ := ends_ok a0 l1 l2 l3 (x : Int) hn hL hn3
    have g1 := ctr_le (x : Int) 20 l2 hL
    have g2 := cts_le (x : Int) l3
    have g3 : l2.length * 20 ≤ 20 * 20 := Nat.mul_le_mul_right 20 hn
    have hb' : sumN (fun x => ctr (x : Int) l2 + cts (x : Int) l3) (x + 1) ≤ (x + 1) * 440 := by
      simp only [sumN]
      omega
    obtain ⟨v, hv, e⟩ := law_l0 C b0 b2 b3 hn hL hn3 h0 hq m (x + 1) (by omega) hb'
    refine ⟨v, Ev.bind (g := fun t k => treelinelaw20_TopoRight.l0 k (wrap64 (((sumN (fun x => ctr (x : Int) l2 + cts (x : Int) l3) x : Nat) : Int) + (t.length : Int))) (wrap64 ((x : Int) + 1)) a0 l1 l2 l3 b0 C b2 b3) (fun k => ?_) hr ?_, e⟩
    · rw [treelinelaw20_TopoRight.l0, if_pos (by omega)]
    · have e1 : wrap64 (((sumN (fun x => ctr (x : Int) l2 + cts (x : Int) l3) x : Nat) : Int) + (r.length : Int)) = ((sumN (fun x => ctr (x : Int) l2 + cts (x : Int) l3) (x + 1) : Nat) : Int) := by
        simp only [sumN]
        rw [hp, w64 (by omega) (by omega)]
        omega
      simp only [e1]
      rw [psucc (by omega)]
      exact hv
end
theorem getD_mem {l : List (List Int)} {b : Nat} (h : b < l.length) : l.getD b [] ∈ l := by
  rw [List.getD_eq_getElem?_getD, List.getElem?_eq_getElem h]
  exact List.getElem_mem _
theorem lens_ports : ∀ (l1 : List S48) (l2 : List (List Int)), l2.length = l1.length → (∀ b : Nat, b < l1.length → (rd_L9 l2 (b : Int)).length = (rd_T48 l1 (b : Int)).f7.length) → lens l2 = ports l1
  | [], [], _, _ => rfl
  | [], _ :: _, h, _ => by simp at h
  | _ :: _, [], h, _ => by simp at h
  | c :: r, L :: t, h, hr => by
    have h0 := hr 0 (by simp)
    have h0' : L.length = c.f7.length := h0
    simp only [List.length_cons] at h
    have := lens_ports r t (by omega) (fun b hb => by
      have := hr (b + 1) (by simp; omega)
      unfold rd_L9 rd_T48 at this ⊢
      simpa using this)
    simp only [lens, ports]
    omega
/-- Few of all. -/
theorem few_all (a0 : Int) (l1 : List S48) (l2 : List (List Int)) (l3 : List S59) {K : Nat} (h : treelineref20_Few.f K a0 l1 l2 l3 = some true) : a0 ≤ 20 ∧ l1.length ≤ 20 ∧ l2.length ≤ 20 ∧ l3.length ≤ 40 := by
  have no : ∀ k, treelineref20_Few.j0 k true a0 l1 l2 l3 ≠ some true := fun k => by
    cases k with
    | zero => simp [treelineref20_Few.j0]
    | succ k => rw [treelineref20_Few.j0, if_pos rfl]; simp
  unfold treelineref20_Few.f at h
  by_cases c1 : a0 > 20
  · rw [if_pos c1] at h; exact absurd h (no _)
  · rw [if_neg c1] at h
    by_cases c2 : (l1.length : Int) > 20
    · rw [if_pos c2] at h; exact absurd h (no _)
    · rw [if_neg c2] at h
      by_cases c3 : (l2.length : Int) > 20
      · rw [if_pos c3] at h; exact absurd h (no _)
      · rw [if_neg c3] at h
        by_cases c4 : (l3.length : Int) > 40
        · rw [decide_eq_true c4] at h; exact absurd h (no _)
        · omega
theorem topoRight (a0 : Int) (l1 : List S48) (l2 : List (List Int)) (l3 : List S59) (hw : ∀ c ∈ l1, SQ c) (hw3 : ∀ c ∈ l3, 0 ≤ c.f0 ∧ c.f0 < 18446744073709551616) : ∃ k, treelinelaw20_TopoRight.f k a0 l1 l2 l3 = some true := by
  obtain ⟨b, ⟨K1, h1⟩, hL, hP⟩ := few2 a0 l1 l2 l3
  obtain ⟨K0, h0⟩ := awk
  dsimp only at h0 h1
  cases hb : b
  · refine ⟨K0 + K1 + 2, ?_⟩
    unfold treelinelaw20_TopoRight.f
    rw [h0 _ (by omega), Option.bind_some, if_pos rfl, h1 _ (by omega), Option.bind_some, hb]
    rw [treelinelaw20_TopoRight.j0, if_pos (by rfl), h0 _ (by omega)]
    rfl
  · obtain ⟨f0, f1, f2, f3⟩ := few_all a0 l1 l2 l3 ((h1 K1 (Nat.le_refl _)).trans (by rw [hb]))
    have hL := hL hb
    have hP := hP hb
    have eC := copy_ok a0 l1 l2 l3 (by omega) (fun c h => by have := hP c h; omega) (by omega) (fun L h => by have := hL L h; omega) (by omega)
    obtain ⟨v, ev, hv⟩ := ck a0 l1 l2 l3 hw hw3 (fun L h => by have := hL L h; omega)
    -- behind the loops
    have hend : EvP (fun k => (topo_Check.f k a0 l1 l2 l3).bind fun t286 => (if t286 = 0 then (treelinelaw20_TopoRight.l3 k ((sumN (fun x => ctr (x : Int) l2 + cts (x : Int) l3) a0.toNat : Nat) : Int) 0 a0 l1 l2 l3) else (some true))) (· = true) := by
      by_cases c : v = 0
      · obtain ⟨F, hl⟩ := hv c
        have e : sumN (fun x => ctr (x : Int) l2 + cts (x : Int) l3) a0.toNat = l3.length + ports l1 := by
          rw [sumN_add, sum_ctr, sum_cts, lens_ports l1 l2 hl (fun b h => F.row b (Nat.zero_le _) h)]
          · omega
          · intro s hs
            obtain ⟨j, hj, rfl⟩ := List.getElem_of_mem hs
            have := F.lan j hj
            unfold rd_T59 at this
            rw [Int.toNat_natCast, List.getD_eq_getElem?_getD, List.getElem?_eq_getElem hj] at this
            have this' : 0 ≤ l3[j].f1 ∧ l3[j].f1 < a0 := this
            omega
          · intro L hLm y hy
            obtain ⟨b, hb, rfl⟩ := List.getElem_of_mem hLm
            obtain ⟨t, ht, rfl⟩ := List.getElem_of_mem hy
            have hrow : rd_L9 l2 (b : Int) = l2[b] := by
              unfold rd_L9
              rw [Int.toNat_natCast, List.getD_eq_getElem?_getD, List.getElem?_eq_getElem hb]
              rfl
            have := F.link b (Nat.zero_le _) (by omega) t (by rw [hrow]; exact ht)
            rw [hrow, List.getD_eq_getElem?_getD, List.getElem?_eq_getElem ht] at this
            have this' : 0 ≤ l2[b][t] ∧ l2[b][t] < a0 := this
            omega
        have g := ports_le 20 l1 hP
        have g3 : l1.length * 20 ≤ 20 * 20 := Nat.mul_le_mul_right 20 f1
        obtain ⟨u, hu, e2⟩ := law_l3 a0 l1 l2 l3 hw F (by omega) (by omega) _ 0 ((l3.length + ports l1 : Nat) : Int) (Nat.zero_add _) rfl (by omega)
        refine ⟨u, Ev.bind0 (g := fun t k => if t = 0 then (treelinelaw20_TopoRight.l3 k ((sumN (fun x => ctr (x : Int) l2 + cts (x : Int) l3) a0.toNat : Nat) : Int) 0 a0 l1 l2 l3) else (some true)) (fun k => rfl) ev ?_, e2⟩
        simp only [if_pos c, e]
        exact hu
      · refine ⟨true, Ev.bind0 (g := fun t k => if t = 0 then (treelinelaw20_TopoRight.l3 k ((sumN (fun x => ctr (x : Int) l2 + cts (x : Int) l3) a0.toNat : Nat) : Int) 0 a0 l1 l2 l3) else (some true)) (fun k => rfl) ev ⟨0, fun k _ => ?_⟩, rfl⟩
        simp only [if_neg c]
    obtain ⟨u, hu, rfl⟩ := law_l0 a0 l1 l2 l3 l1 a0 l2 l3 f2 hL f3 f0 (law_l1 a0 l1 l2 l3 _ a0 l2 l3 (by omega) (fun c h => by have := hP c h; omega) hend _ 0 l1 ⟨rfl, fun _ _ => rfl⟩ (Nat.zero_add _)) a0.toNat 0 (Nat.zero_add _) (Nat.zero_le _)
    have hj : Ev (fun k => treelinelaw20_TopoRight.j0 k false a0 l1 l2 l3) true := by
      refine Ev.bind (g := fun bt261 k => (topo_Check.f k bt261.1 bt261.2.1 bt261.2.2.1 bt261.2.2.2).bind fun t272 => ((topo_Check.f k a0 l1 l2 l3).bind fun t273 => (if t272 = t273 then (if (bt261.2.2.1.length : Int) = (l2.length : Int) then (treelinelaw20_TopoRight.j1 k ((bt261.2.1.length : Int) != (l1.length : Int)) a0 l1 l2 l3 bt261.1 bt261.2.1 bt261.2.2.1 bt261.2.2.2) else (treelinelaw20_TopoRight.j1 k true a0 l1 l2 l3 bt261.1 bt261.2.1 bt261.2.2.1 bt261.2.2.2)) else (treelinelaw20_TopoRight.j1 k true a0 l1 l2 l3 bt261.1 bt261.2.1 bt261.2.2.1 bt261.2.2.2)))) (fun k => by rw [treelinelaw20_TopoRight.j0, if_neg (by simp)]) eC ?_
      refine Ev.bind0 (fun k => rfl) ev (Ev.bind0 (fun k => rfl) ev ?_)
      simp only [if_true, bne_self_eq_false]
      refine Ev.step (fun k => ?_) hu
      rw [treelinelaw20_TopoRight.j1, if_neg (by simp)]
      rfl
    obtain ⟨K3, h3⟩ := hj
    refine ⟨K0 + K1 + K3 + 1, ?_⟩
    unfold treelinelaw20_TopoRight.f
    rw [h0 _ (by omega), Option.bind_some, if_pos rfl, h1 _ (by omega), Option.bind_some, hb]
    exact h3 _ (by omega)

theorem TopoRight (W : World) (x : Int × (List S48) × (List (List Int)) × (List S59)) (w0 : (∀ y ∈ x.2.1, (Lit.int .u64 y.f0).wf = true ∧ (Lit.int .u16 y.f1).wf = true) ∧ (∀ y ∈ x.2.2.2, (Lit.int .u64 y.f0).wf = true))
    {A1 : Option Addr} {c1 : Nat} (hC1 : Kd.C k48 W A1 x.2.1.length x.2.1) (hc1 : x.2.1.length ≤ c1) {A2 : Option Addr} {c2 : Nat} (hC2 : Kd.C (Kd.slice 3 (Kd.int .i64)) W A2 x.2.2.1.length x.2.2.1) (hc2 : x.2.2.1.length ≤ c2) {A3 : Option Addr} {c3 : Nat} (hC3 : Kd.C k59 W A3 x.2.2.2.length x.2.2.2) (hc3 : x.2.2.2.length ≤ c3) :
    Calls Try.prog 6 #[.agg #[.int .i64 x.1, .slice A1 x.2.1.length c1, .slice A2 x.2.2.1.length c2, .slice A3 x.2.2.2.length c3]] W fun e w' => e = .returned (.bool true) ∧ Below W.heap.size W w' := by
  obtain ⟨a0, l1, l2, l3⟩ := x
  obtain ⟨k, hk⟩ := topoRight a0 l1 l2 l3 (fun c h => ⟨wf_u64 (w0.1 c h).1, wf_u16 (w0.1 c h).2⟩) (fun c h => wf_u64 (w0.2 c h))
  exact treelinelaw20_TopoRight.calls k a0 A1 c1 l1 A2 c2 l2 A3 c3 l3 true W hC1 hc1 hC2 hc2 hC3 hc3 hk ⟨rfl⟩

end Go.Proofs.Ytkgfpagfmdefgaa.Pure
