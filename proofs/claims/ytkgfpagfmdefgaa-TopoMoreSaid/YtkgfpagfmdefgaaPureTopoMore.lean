/- With one port more that is on LANs that were joined stay so. -/
import Derived.Test.YtkgfpagfmdefgaaOTopoMorex13
import Derived.Test.YtkgfpagfmdefgaaAr
namespace Go.Proofs.Ytkgfpagfmdefgaa.Pure
open Go.RowKit Go.Proofs.Ytkgfpagfmdefgaa.OTopoMore Go.Proofs.YtkgfpagfmdefgaaW.PrintWords Go.Proofs.YtkgfpagfmdefgaaW.PrintLast Go.Proofs.YtkgfpagfmdefgaaW.PrintMore Go.Proofs.Ytkgfpagfmdefgaa.Ar
set_option linter.unusedVariables false
set_option linter.unusedSimpArgs false
/-- From some fuel on it answers v. -/
def Ev {α : Type} (A : Nat → Option α) (v : α) : Prop := ∃ K, ∀ k, K ≤ k → A k = some v
theorem Ev.now {α : Type} {A : Nat → Option α} {v : α} (h : ∀ k, A (k + 1) = some v) : Ev A v := ⟨1, fun k hk => by
  obtain ⟨m, rfl⟩ : ∃ m, k = m + 1 := ⟨k - 1, by omega⟩
  exact h m⟩
theorem Ev.step {α : Type} {A A' : Nat → Option α} {v : α} (h : ∀ k, A (k + 1) = A' k) (e : Ev A' v) : Ev A v := by
  obtain ⟨K, hK⟩ := e
  refine ⟨K + 1, fun k hk => ?_⟩
  obtain ⟨m, rfl⟩ : ∃ m, k = m + 1 := ⟨k - 1, by omega⟩
  rw [h m]
  exact hK m (by omega)
theorem Ev.bind {α β : Type} {A : Nat → Option α} {f : Nat → Option β} {g : β → Nat → Option α} {t : β} {v : α} (h : ∀ k, A (k + 1) = (f k).bind fun t => g t k) (hf : Ev f t) (e : Ev (g t) v) : Ev A v := by
  obtain ⟨K, hK⟩ := e
  obtain ⟨K2, hK2⟩ := hf
  refine ⟨K + K2 + 1, fun k hk => ?_⟩
  obtain ⟨m, rfl⟩ : ∃ m, k = m + 1 := ⟨k - 1, by omega⟩
  rw [h m, hK2 m (by omega)]
  exact hK m (by omega)
/-- Two programs that come to one answer. -/
def Same {α : Type} (A B : Nat → Option α) : Prop := ∃ v, Ev A v ∧ Ev B v

/-- LANs that a chain of bridges joins. -/
inductive Jn (R : Nat → Nat → Prop) : Nat → Nat → Prop where
  | refl (x : Nat) : Jn R x x
  | step {x y z : Nat} : R x y → Jn R y z → Jn R x z
theorem Jn.trans {R : Nat → Nat → Prop} {x y z : Nat} (h : Jn R x y) (h2 : Jn R y z) : Jn R x z := by
  induction h with
  | refl => exact h2
  | step r _ ih => exact .step r (ih h2)
theorem Jn.symm {R : Nat → Nat → Prop} (hs : ∀ x y, R x y → R y x) {x y : Nat} (h : Jn R x y) : Jn R y x := by
  induction h with
  | refl => exact .refl _
  | step r _ ih => exact ih.trans (.step (hs _ _ r) (.refl _))
theorem Jn.mono {R S : Nat → Nat → Prop} (hs : ∀ x y, R x y → S x y) {x y : Nat} (h : Jn R x y) : Jn S x y := by
  induction h with
  | refl => exact .refl _
  | step r _ ih => exact .step (hs _ _ r) ih
theorem Jn.same {α : Type} {R : Nat → Nat → Prop} {p : Nat → α} (hp : ∀ x y, R x y → p x = p y) {x y : Nat} (h : Jn R x y) : p x = p y := by
  induction h with
  | refl => rfl
  | step r _ ih => exact (hp _ _ r).trans ih
theorem Jn.none {R : Nat → Nat → Prop} (hp : ∀ x y, ¬ R x y) {x y : Nat} (h : Jn R x y) : x = y := by
  cases h with
  | refl => rfl
  | step r _ => exact absurd r (hp _ _)
/-- From some fuel on it answers what Φ says. -/
def EvP {α : Type} (A : Nat → Option α) (Φ : α → Prop) : Prop := ∃ v, Ev A v ∧ Φ v
theorem EvP.step {α : Type} {A A' : Nat → Option α} {Φ : α → Prop} (h : ∀ k, A (k + 1) = A' k) (e : EvP A' Φ) : EvP A Φ := by
  obtain ⟨v, hv, hp⟩ := e
  exact ⟨v, Ev.step h hv, hp⟩
theorem EvP.now {α : Type} {A : Nat → Option α} {Φ : α → Prop} {v : α} (h : ∀ k, A (k + 1) = some v) (hp : Φ v) : EvP A Φ := ⟨v, Ev.now h, hp⟩
theorem Ev.bind0 {α β : Type} {A : Nat → Option α} {f : Nat → Option β} {g : β → Nat → Option α} {t : β} {v : α} (h : ∀ k, A k = (f k).bind fun t => g t k) (hf : Ev f t) (e : Ev (g t) v) : Ev A v := by
  obtain ⟨K, hK⟩ := e
  obtain ⟨K2, hK2⟩ := hf
  refine ⟨K + K2, fun k hk => ?_⟩
  rw [h k, hK2 k (by omega)]
  exact hK k (by omega)
def onb (on : List (List Bool)) (b p : Nat) : Bool := (on.getD b []).getD p false
theorem is_eq (on : List (List Bool)) (b p : Nat) : topo_is.f on (b : Int) (p : Int) = some (onb on b p) := by
  unfold topo_is.f onb rd_L11 rdOf
  simp only [Int.toNat_natCast]
  by_cases hb : b < on.length
  · rw [if_pos (by omega), if_pos (by omega)]
    by_cases hp : p < (on.getD b []).length
    · rw [if_pos (by omega), if_pos (by omega)]
    · rw [if_neg (by omega)]
      rw [List.getD_eq_getElem?_getD (l := on.getD b []), List.getElem?_eq_none (by omega)]
      rfl
  · rw [if_neg (by omega)]
    rw [List.getD_eq_getElem?_getD (l := on), List.getElem?_eq_none (by omega)]
    rfl
/-- The LANs x and y are on ports of one bridge that are on. -/
def Nb (n : Nat) (on : List (List Bool)) (l2 : List (List Int)) (x y : Nat) : Prop :=
  ∃ b p q : Nat, b < l2.length ∧ p < (l2.getD b []).length ∧ q < (l2.getD b []).length ∧ onb on b p = true ∧ onb on b q = true ∧ (l2.getD b []).getD p 0 = (x : Int) ∧ (l2.getD b []).getD q 0 = (y : Int) ∧ x < n ∧ y < n
theorem Nb.symm {n : Nat} {on : List (List Bool)} {l2 : List (List Int)} (x y : Nat) (h : Nb n on l2 x y) : Nb n on l2 y x := by
  obtain ⟨b, p, q, h1, h2, h3, h4, h5, h6, h7, h8, h9⟩ := h
  exact ⟨b, q, p, h1, h3, h2, h5, h4, h7, h6, h9, h8⟩
/-- What the parts always are: of each LAN one that is joined to it, and no greater. -/
structure Good (n : Nat) (on : List (List Bool)) (l2 : List (List Int)) (P : List Int) : Prop where
  len : P.length = n
  val : ∀ l, l < n → ∃ m : Nat, m ≤ l ∧ P.getD l 0 = (m : Int) ∧ Jn (Nb n on l2) l m
/-- A port that counts. -/
def Act (n : Nat) (on : List (List Bool)) (b : Nat) (L : List Int) (p : Nat) : Prop := p < L.length ∧ onb on b p = true ∧ 0 ≤ L.getD p 0 ∧ L.getD p 0 < (n : Int)
def Flat (n : Nat) (on : List (List Bool)) (l2 : List (List Int)) (P : List Int) (b : Nat) : Prop :=
  ∀ p q, Act n on b (l2.getD b []) p → Act n on b (l2.getD b []) q → P.getD ((l2.getD b []).getD p 0).toNat 0 = P.getD ((l2.getD b []).getD q 0).toNat 0
/-- What the parts are in the end. -/
structure Fine (n : Nat) (on : List (List Bool)) (l2 : List (List Int)) (P : List Int) : Prop where
  good : Good n on l2 P
  flat : ∀ b, b < l2.length → Flat n on l2 P b
theorem Fine.nb {n : Nat} {on : List (List Bool)} {l2 : List (List Int)} {P : List Int} (h : Fine n on l2 P) (x y : Nat) (r : Nb n on l2 x y) : P.getD x 0 = P.getD y 0 := by
  obtain ⟨b, p, q, h1, h2, h3, h4, h5, h6, h7, h8, h9⟩ := r
  have := h.flat b h1 p q ⟨h2, h4, by omega, by omega⟩ ⟨h3, h5, by omega, by omega⟩
  rw [h6, h7] at this
  simpa using this
theorem Fine.same {n : Nat} {on : List (List Bool)} {l2 : List (List Int)} {P : List Int} (h : Fine n on l2 P) {x y : Nat} (r : Jn (Nb n on l2) x y) : P.getD x 0 = P.getD y 0 := Jn.same (p := fun x => P.getD x 0) h.nb r
/-- Equal parts are joined LANs. -/
theorem Fine.joined {n : Nat} {on : List (List Bool)} {l2 : List (List Int)} {P : List Int} (h : Fine n on l2 P) {x y : Nat} (hx : x < n) (hy : y < n) (e : P.getD x 0 = P.getD y 0) : Jn (Nb n on l2) x y := by
  obtain ⟨m, _, h1, h2⟩ := h.good.val x hx
  obtain ⟨m', _, h3, h4⟩ := h.good.val y hy
  obtain rfl : m = m' := by omega
  exact h2.trans (h4.symm Nb.symm)
def tot : List Int → Nat
  | [] => 0
  | x :: r => x.toNat + tot r
theorem tot_set : ∀ (P : List Int) (i : Nat) (v : Int), i < P.length → 0 ≤ v → v < P.getD i 0 → tot (P.set i v) < tot P
  | [], _, _, h, _, _ => absurd h (by simp)
  | x :: r, 0, v, _, h0, h => by
    simp only [List.getD_cons_zero] at h
    simp only [List.set_cons_zero, tot]
    omega
  | x :: r, i + 1, v, hi, h0, h => by
    simp only [List.getD_cons_succ] at h
    simp only [List.length_cons] at hi
    have := tot_set r i v (by omega) h0 h
    simp only [List.set_cons_succ, tot]
    omega
theorem getD_set (P : List Int) (i j : Nat) (v : Int) (hi : i < P.length) : (P.set i v).getD j 0 = if i = j then v else P.getD j 0 := by
  simp only [List.getD_eq_getElem?_getD, List.getElem?_set]
  by_cases e : i = j
  · subst e
    simp [hi]
  · simp [e]
theorem Good.set {n : Nat} {on : List (List Bool)} {l2 : List (List Int)} {P : List Int} (h : Good n on l2 P) {x y : Nat} (hx : x < n) (hy : y < n) (r : Nb n on l2 x y) (hl : P.getD y 0 < P.getD x 0) : Good n on l2 (P.set x (P.getD y 0)) := by
  refine ⟨by rw [List.length_set]; exact h.len, fun l hl2 => ?_⟩
  rw [getD_set _ _ _ _ (by rw [h.len]; exact hx)]
  by_cases e : x = l
  · subst e
    rw [if_pos rfl]
    obtain ⟨m, h1, h2, h3⟩ := h.val x hx
    obtain ⟨m', h4, h5, h6⟩ := h.val y hy
    exact ⟨m', by omega, h5, .step r h6⟩
  · rw [if_neg e]
    exact h.val l hl2
/-- What 'least' is ahead of port j. -/
def Least (n : Nat) (on : List (List Bool)) (b : Nat) (L P : List Int) (j : Nat) (v : Int) : Prop :=
  (v = -1 ∧ ∀ p, p < j → ¬ Act n on b L p) ∨ ∃ p, p < j ∧ Act n on b L p ∧ P.getD (L.getD p 0).toNat 0 = v ∧ ∀ q, q < j → Act n on b L q → v ≤ P.getD (L.getD q 0).toNat 0
theorem psucc {i : Nat} (h : i ≤ 100000) : wrap64 ((i : Int) + 1) = ((i + 1 : Nat) : Int) := by rw [w64 (by omega) (by omega)]; omega
theorem rdn (L : List Int) (j : Nat) : rd L (j : Int) = L.getD j 0 := by unfold rd; rw [Int.toNat_natCast]

section
variable (n : Nat) (on : List (List Bool)) (a0 : Int) (l1 : List S48) (l2 : List (List Int)) (l3 : List S59)
theorem Act.pos {n : Nat} {on : List (List Bool)} {l2 : List (List Int)} {P : List Int} (h : Good n on l2 P) {b p : Nat} {L : List Int} (a : Act n on b L p) : 0 ≤ P.getD (L.getD p 0).toNat 0 := by
  obtain ⟨m, _, h2, _⟩ := h.val (L.getD p 0).toNat (by have := a.2.2; omega)
  omega
theorem parts_l3 (P : List Int) (hP : Good n on l2 P) (b : Nat) (L : List Int) (hL : L.length ≤ 1000) (Φ : List Int → Prop)
    (hq : ∀ v, Least n on b L P L.length v → EvP (fun k => topo_Parts.l4 k on P (b : Int) v l2 (l2.length : Int) (b : Int) L (L.length : Int) 0 a0 l1 l2 l3) Φ) :
    ∀ m (j : Nat) (v : Int), j + m = L.length → Least n on b L P j v → EvP (fun k => topo_Parts.l3 k on P (b : Int) L v l2 (l2.length : Int) (b : Int) L (L.length : Int) (j : Int) a0 l1 l2 l3) Φ
  | 0, j, v, hj, hv => by
    obtain rfl : j = L.length := by omega
    refine EvP.step (fun k => ?_) (hq v hv)
    rw [topo_Parts.l3, if_neg (by omega)]
  | m + 1, j, v, hj, hv => by
    have ih := parts_l3 P hP b L hL Φ hq m (j + 1)
    have skip : ¬ Act n on b L j → Least n on b L P (j + 1) v := fun hn => by
      rcases hv with ⟨h1, h2⟩ | ⟨p, h1, h2, h3, h4⟩
      · refine .inl ⟨h1, fun p hp => ?_⟩
        by_cases e : p = j
        · subst e; exact hn
        · exact h2 p (by omega)
      · refine .inr ⟨p, by omega, h2, h3, fun q hq ha => ?_⟩
        by_cases e : q = j
        · subst e; exact absurd ha hn
        · exact h4 q (by omega) ha
    have hlen := hP.len
    by_cases c1 : onb on b j = true
    · by_cases c2 : L.getD j 0 ≥ 0
      · by_cases c3 : L.getD j 0 < (P.length : Int)
        · have ha : Act n on b L j := ⟨by omega, c1, c2, by omega⟩
          have take : (v < 0 ∨ P.getD (L.getD j 0).toNat 0 < v) → Least n on b L P (j + 1) (P.getD (L.getD j 0).toNat 0) := fun hlt => by
            refine .inr ⟨j, by omega, ha, rfl, fun q hq haq => ?_⟩
            by_cases e : q = j
            · subst e; exact Int.le_refl _
            · rcases hv with ⟨h1, h2⟩ | ⟨p, h1, h2, h3, h4⟩
              · exact absurd haq (h2 q (by omega))
              · have := h4 q (by omega) haq
                have := h2.pos hP
                omega
          have hrd : rd P (L.getD j 0) = P.getD (L.getD j 0).toNat 0 := rfl
          by_cases c4 : v < 0
          · refine EvP.step (fun k => ?_) (ih _ (by omega) (take (.inl c4)))
            rw [topo_Parts.l3, if_pos (by omega), if_pos (by omega), if_pos (by omega), is_eq, Option.bind_some, rdn, if_pos c1, if_pos c2, if_pos c3, if_pos c4, if_pos (by omega), hrd, psucc (by omega)]
          · by_cases c5 : P.getD (L.getD j 0).toNat 0 < v
            · refine EvP.step (fun k => ?_) (ih _ (by omega) (take (.inr c5)))
              rw [topo_Parts.l3, if_pos (by omega), if_pos (by omega), if_pos (by omega), is_eq, Option.bind_some, rdn, if_pos c1, if_pos c2, if_pos c3, if_neg c4, if_pos (by omega), hrd, if_pos c5, psucc (by omega)]
            · refine EvP.step (fun k => ?_) (ih v (by omega) ?_)
              · rw [topo_Parts.l3, if_pos (by omega), if_pos (by omega), if_pos (by omega), is_eq, Option.bind_some, rdn, if_pos c1, if_pos c2, if_pos c3, if_neg c4, if_pos (by omega), hrd, if_neg c5, psucc (by omega)]
              · rcases hv with ⟨h1, h2⟩ | ⟨p, h1, h2, h3, h4⟩
                · omega
                · refine .inr ⟨p, by omega, h2, h3, fun q hq haq => ?_⟩
                  by_cases e : q = j
                  · subst e; omega
                  · exact h4 q (by omega) haq
        · refine EvP.step (fun k => ?_) (ih v (by omega) (skip fun a => c3 (by have := a.2.2.2; omega)))
          rw [topo_Parts.l3, if_pos (by omega), if_pos (by omega), if_pos (by omega), is_eq, Option.bind_some, rdn, if_pos c1, if_pos c2, if_neg c3, psucc (by omega)]
      · refine EvP.step (fun k => ?_) (ih v (by omega) (skip fun a => c2 a.2.2.1))
        rw [topo_Parts.l3, if_pos (by omega), if_pos (by omega), if_pos (by omega), is_eq, Option.bind_some, rdn, if_pos c1, if_neg c2, psucc (by omega)]
    · refine EvP.step (fun k => ?_) (ih v (by omega) (skip fun a => c1 a.2.1))
      rw [topo_Parts.l3, if_pos (by omega), if_pos (by omega), if_pos (by omega), is_eq, Option.bind_some, if_neg c1, psucc (by omega)]
theorem parts_l4 (P : List Int) (hP : Good n on l2 P) (b : Nat) (hb : b < l2.length) (hn : l2.length ≤ 1000) (L : List Int) (hLe : l2.getD b [] = L) (hL : L.length ≤ 1000) (Φ : List Int → Prop) (v : Int) (hv : Least n on b L P L.length v)
    (again : ∀ P', Good n on l2 P' → tot P' < tot P → EvP (fun k => topo_Parts.l1 k on P' a0 l1 l2 l3) Φ)
    (next : Flat n on l2 P b → EvP (fun k => topo_Parts.l2 k on P l2 (l2.length : Int) ((b + 1 : Nat) : Int) a0 l1 l2 l3) Φ) :
    ∀ m (j : Nat), j + m = L.length → (∀ q, q < j → Act n on b L q → P.getD (L.getD q 0).toNat 0 ≤ v) → EvP (fun k => topo_Parts.l4 k on P (b : Int) v l2 (l2.length : Int) (b : Int) L (L.length : Int) (j : Int) a0 l1 l2 l3) Φ
  | 0, j, hj, hle => by
    obtain rfl : j = L.length := by omega
    refine EvP.step (fun k => ?_) (next ?_)
    · rw [topo_Parts.l4, if_neg (by omega), psucc (by omega)]
    · intro p q hp hq
      rw [hLe] at hp hq ⊢
      rcases hv with ⟨_, h2⟩ | ⟨r, h1, h2, h3, h4⟩
      · exact absurd hp (h2 p hp.1)
      · have := hle p hp.1 hp
        have := hle q hq.1 hq
        have := h4 p hp.1 hp
        have := h4 q hq.1 hq
        omega
  | m + 1, j, hj, hle => by
    have ih := parts_l4 P hP b hb hn L hLe hL Φ v hv again next m (j + 1) (by omega)
    have hlen := hP.len
    have go : (Act n on b L j → P.getD (L.getD j 0).toNat 0 ≤ v) → ∀ q, q < j + 1 → Act n on b L q → P.getD (L.getD q 0).toNat 0 ≤ v := fun h q hq ha => by
      by_cases e : q = j
      · subst e; exact h ha
      · exact hle q (by omega) ha
    by_cases c1 : onb on b j = true
    · by_cases c2 : L.getD j 0 ≥ 0
      · by_cases c3 : L.getD j 0 < (P.length : Int)
        · have ha : Act n on b L j := ⟨by omega, c1, c2, by omega⟩
          have hrd : rd P (L.getD j 0) = P.getD (L.getD j 0).toNat 0 := rfl
          by_cases c4 : P.getD (L.getD j 0).toNat 0 > v
          · obtain ⟨r, h1, h2, h3, h4⟩ : ∃ p, p < L.length ∧ Act n on b L p ∧ P.getD (L.getD p 0).toNat 0 = v ∧ ∀ q, q < L.length → Act n on b L q → v ≤ P.getD (L.getD q 0).toNat 0 := by
              rcases hv with ⟨_, h2⟩ | h
              · exact absurd ha (h2 j (by omega))
              · exact h
            have hv0 := h2.pos hP
            refine EvP.step (fun k => ?_) (again (P.set (L.getD j 0).toNat v) ?_ (tot_set _ _ _ (by omega) (by omega) (by omega)))
            · rw [topo_Parts.l4, if_pos (by omega), if_pos (by omega), if_pos (by omega), is_eq, Option.bind_some, rdn, if_pos c1, if_pos c2, if_pos c3, if_pos (by omega), hrd, if_pos c4]
            · rw [← h3]
              refine hP.set (by omega) (by have := h2.2.2; omega) ⟨b, j, r, hb, by rw [hLe]; omega, by rw [hLe]; exact h1, c1, h2.2.1, ?_, ?_, by omega, by have := h2.2.2; omega⟩ (by omega)
              · rw [hLe]; omega
              · rw [hLe]; have := h2.2.2; omega
          · refine EvP.step (fun k => ?_) (ih (go fun _ => by omega))
            rw [topo_Parts.l4, if_pos (by omega), if_pos (by omega), if_pos (by omega), is_eq, Option.bind_some, rdn, if_pos c1, if_pos c2, if_pos c3, if_pos (by omega), hrd, if_neg c4, psucc (by omega)]
        · refine EvP.step (fun k => ?_) (ih (go fun a => absurd a.2.2.2 (by omega)))
          rw [topo_Parts.l4, if_pos (by omega), if_pos (by omega), if_pos (by omega), is_eq, Option.bind_some, rdn, if_pos c1, if_pos c2, if_neg c3, psucc (by omega)]
      · refine EvP.step (fun k => ?_) (ih (go fun a => absurd a.2.2.1 c2))
        rw [topo_Parts.l4, if_pos (by omega), if_pos (by omega), if_pos (by omega), is_eq, Option.bind_some, rdn, if_pos c1, if_neg c2, psucc (by omega)]
    · refine EvP.step (fun k => ?_) (ih (go fun a => absurd a.2.1 c1))
      rw [topo_Parts.l4, if_pos (by omega), if_pos (by omega), if_pos (by omega), is_eq, Option.bind_some, if_neg c1, psucc (by omega)]
theorem parts_l2 (hn : l2.length ≤ 1000) (hL : ∀ L ∈ l2, L.length ≤ 1000) (P : List Int) (hP : Good n on l2 P) (again : ∀ P', Good n on l2 P' → tot P' < tot P → EvP (fun k => topo_Parts.l1 k on P' a0 l1 l2 l3) (Fine n on l2)) :
    ∀ m (b : Nat), b + m = l2.length → (∀ c, c < b → Flat n on l2 P c) → EvP (fun k => topo_Parts.l2 k on P l2 (l2.length : Int) (b : Int) a0 l1 l2 l3) (Fine n on l2)
  | 0, b, hb, hf => by
    obtain rfl : b = l2.length := by omega
    refine EvP.now (v := P) (fun k => ?_) ⟨hP, hf⟩
    rw [topo_Parts.l2, if_neg (by omega)]
  | m + 1, b, hb, hf => by
    have ih := parts_l2 hn hL P hP again m (b + 1) (by omega)
    have hm : l2.getD b [] ∈ l2 := by
      rw [List.getD_eq_getElem?_getD, List.getElem?_eq_getElem (show b < l2.length by omega)]
      exact List.getElem_mem _
    have hrow : rd_L9 l2 (b : Int) = l2.getD b [] := by unfold rd_L9; rw [Int.toNat_natCast]
    refine EvP.step (fun k => ?_) (parts_l3 n on a0 l1 l2 l3 P hP b (l2.getD b []) (hL _ hm) _ (fun v hv => parts_l4 n on a0 l1 l2 l3 P hP b (by omega) hn _ rfl (hL _ hm) _ v hv again (fun hfl => ih fun c hc => ?_) _ 0 (Nat.zero_add _) (fun q hq => absurd hq (by omega))) _ 0 (-1) (Nat.zero_add _) (.inl ⟨rfl, fun p hp => absurd hp (by omega)⟩))
    · rw [topo_Parts.l2, if_pos (by omega), if_pos (by omega), if_pos (by omega), hrow]
      rfl
    · by_cases e : c = b
      · subst e; exact hfl
      · exact hf c (by omega)
theorem parts_l1 (hn : l2.length ≤ 1000) (hL : ∀ L ∈ l2, L.length ≤ 1000) : ∀ N (P : List Int), tot P < N → Good n on l2 P → EvP (fun k => topo_Parts.l1 k on P a0 l1 l2 l3) (Fine n on l2)
  | 0, _, h, _ => absurd h (by omega)
  | N + 1, P, h, hP => by
    refine EvP.step (fun k => ?_) (parts_l2 n on a0 l1 l2 l3 hn hL P hP (fun P' g' ht => parts_l1 hn hL N P' (by omega) g') _ 0 (Nat.zero_add _) (fun c hc => absurd hc (by omega)))
    rw [topo_Parts.l1]
    rfl
theorem parts_l0 (hn : l2.length ≤ 1000) (hL : ∀ L ∈ l2, L.length ≤ 1000) (hnn : n ≤ 1000) : ∀ m (j : Nat) (P : List Int), j + m = n → P.length = n → (∀ l, l < j → P.getD l 0 = (l : Int)) →
    EvP (fun k => topo_Parts.l0 k on P (n : Int) (j : Int) a0 l1 l2 l3) (Fine n on l2)
  | 0, j, P, hj, hl, hv => by
    obtain rfl : j = n := by omega
    refine EvP.step (fun k => ?_) (parts_l1 j on a0 l1 l2 l3 hn hL _ P (Nat.lt_succ_self _) ⟨hl, fun l h => ⟨l, Nat.le_refl _, hv l h, .refl _⟩⟩)
    rw [topo_Parts.l0, if_neg (by omega)]
  | m + 1, j, P, hj, hl, hv => by
    refine EvP.step (fun k => ?_) (parts_l0 hn hL hnn m (j + 1) (P.set j (j : Int)) (by omega) (by rw [List.length_set]; exact hl) (fun l h => ?_))
    · rw [topo_Parts.l0, if_pos (by omega), if_pos (by omega), if_pos (by omega), psucc (by omega), Int.toNat_natCast]
    · rw [getD_set _ _ _ _ (by omega)]
      by_cases e : j = l
      · subst e; rw [if_pos rfl]
      · rw [if_neg e]; exact hv l (by omega)
end
/-- How many LANs there are. -/
def lans (a0 : Int) : Nat := (mx a0 0).toNat
theorem parts_ok (on : List (List Bool)) (a0 : Int) (l1 : List S48) (l2 : List (List Int)) (l3 : List S59) (h0 : a0 ≤ 1000) (hn : l2.length ≤ 1000) (hL : ∀ L ∈ l2, L.length ≤ 1000) : EvP (fun k => topo_Parts.f k a0 l1 l2 l3 on) (Fine (lans a0) on l2) := by
  have hm : 0 ≤ mx a0 0 := by unfold mx; split <;> omega
  have hm2 : mx a0 0 ≤ 1000 := by unfold mx; split <;> omega
  obtain ⟨v, ⟨K, hK⟩, hf⟩ := parts_l0 (lans a0) on a0 l1 l2 l3 hn hL (by unfold lans; omega) _ 0 (List.replicate (lans a0) 0) (Nat.zero_add _) (List.length_replicate) (fun l h => absurd h (by omega))
  refine ⟨v, ⟨K, fun k hk => ?_⟩, hf⟩
  show topo_Parts.f k a0 l1 l2 l3 on = some v
  unfold topo_Parts.f
  rw [if_pos hm, if_pos (by omega), Option.bind_some, List.length_replicate]
  exact hK k hk

theorem Ev.mono {α : Type} {A : Nat → Option α} {v : α} (hm : ∀ k, LeO (A k) (A (k + 1))) {K : Nat} (h : A K = some v) : Ev A v := ⟨K, fun k hk => by
  obtain ⟨d, rfl⟩ : ∃ d, k = K + d := ⟨k - K, by omega⟩
  clear hk
  induction d with
  | zero => exact h
  | succ d ih => exact hm (K + d) _ ih⟩
theorem awk : Ev (fun k => treelinelaw20_awake.f k) true := Ev.mono (K := 40) treelinelaw20_awake.mono (by kernel_rfl)
theorem few_l1 (a0 : Int) (l1 : List S48) (l2 : List (List Int)) (l3 : List S59) (hn : l2.length ≤ 1000) : ∀ m (j : Nat), j + m = l2.length → (∀ t : Nat, t < j → (rd_L9 l2 (t : Int)).length ≤ 20) →
    ∃ b, Ev (fun k => treelineref20_Few.l1 k (j : Int) a0 l1 l2 l3) b ∧ (b = true → ∀ L ∈ l2, L.length ≤ 20)
  | 0, j, hj, hno => by
    refine ⟨true, Ev.now fun k => by rw [treelineref20_Few.l1, if_neg (by omega)], fun _ L hL => ?_⟩
    obtain ⟨t, ht, rfl⟩ := List.getElem_of_mem hL
    have := hno t (by omega)
    unfold rd_L9 at this
    simpa [List.getD_eq_getElem?_getD, List.getElem?_eq_getElem ht] using this
  | m + 1, j, hj, hno => by
    by_cases c : ((rd_L9 l2 (j : Int)).length : Int) > 20
    · exact ⟨false, Ev.now fun k => by rw [treelineref20_Few.l1, if_pos (by omega), if_pos (by omega), if_pos c], fun h => by cases h⟩
    · obtain ⟨b, h1, h2⟩ := few_l1 a0 l1 l2 l3 hn m (j + 1) (by omega) (fun t ht => by
        by_cases h : t = j
        · subst h; omega
        · exact hno t (by omega))
      exact ⟨b, Ev.step (fun k => by rw [treelineref20_Few.l1, if_pos (by omega), if_pos (by omega), if_neg c, psucc (by omega)]) h1, h2⟩
theorem few_l0 (a0 : Int) (l1 : List S48) (l2 : List (List Int)) (l3 : List S59) (hn : l2.length ≤ 1000) (hn1 : l1.length ≤ 1000) : ∀ m (j : Nat), j + m = l1.length →
    ∃ b, Ev (fun k => treelineref20_Few.l0 k (j : Int) a0 l1 l2 l3) b ∧ (b = true → ∀ L ∈ l2, L.length ≤ 20)
  | 0, j, hj => by
    obtain ⟨b, h1, h2⟩ := few_l1 a0 l1 l2 l3 hn l2.length 0 (Nat.zero_add _) (fun t ht => absurd ht (by omega))
    exact ⟨b, Ev.step (fun k => by rw [treelineref20_Few.l0, if_neg (by omega)]; rfl) h1, h2⟩
  | m + 1, j, hj => by
    by_cases c : (((rd_T48 l1 (j : Int)).f7).length : Int) > 20
    · exact ⟨false, Ev.now fun k => by rw [treelineref20_Few.l0, if_pos (by omega), if_pos (by omega), if_pos c], fun h => by cases h⟩
    · obtain ⟨b, h1, h2⟩ := few_l0 a0 l1 l2 l3 hn hn1 m (j + 1) (by omega)
      exact ⟨b, Ev.step (fun k => by rw [treelineref20_Few.l0, if_pos (by omega), if_pos (by omega), if_neg c, psucc (by omega)]) h1, h2⟩
theorem few (a0 : Int) (l1 : List S48) (l2 : List (List Int)) (l3 : List S59) : ∃ b, Ev (fun k => treelineref20_Few.f k a0 l1 l2 l3) b ∧ (b = true → ∀ L ∈ l2, L.length ≤ 20) := by
  have no : ∃ b, Ev (fun k => treelineref20_Few.j0 k true a0 l1 l2 l3) b ∧ (b = true → ∀ L ∈ l2, L.length ≤ 20) := ⟨false, Ev.now fun k => by rw [treelineref20_Few.j0, if_pos rfl], fun h => by cases h⟩
  by_cases c1 : a0 > 20
  · simp only [treelineref20_Few.f, if_pos c1]; exact no
  · by_cases c2 : (l1.length : Int) > 20
    · simp only [treelineref20_Few.f, if_neg c1, if_pos c2]; exact no
    · by_cases c3 : (l2.length : Int) > 20
      · simp only [treelineref20_Few.f, if_neg c1, if_neg c2, if_pos c3]; exact no
      · by_cases c4 : (l3.length : Int) > 40
        · simp only [treelineref20_Few.f, if_neg c1, if_neg c2, if_neg c3, decide_eq_true c4]; exact no
        · simp only [treelineref20_Few.f, if_neg c1, if_neg c2, if_neg c3, decide_eq_false c4]
          obtain ⟨b, h1, h2⟩ := few_l0 a0 l1 l2 l3 (by omega) (by omega) l1.length 0 (Nat.zero_add _)
          exact ⟨b, Ev.step (fun k => by rw [treelineref20_Few.j0, if_neg (by simp)]; rfl) h1, h2⟩

/-- What is on in the one is on in the other. -/
def Sub (l2 : List (List Int)) (on more : List (List Bool)) : Prop := ∀ b p, b < l2.length → p < (l2.getD b []).length → onb on b p = true → onb more b p = true
theorem Nb.sub {n : Nat} {l2 : List (List Int)} {on more : List (List Bool)} (h : Sub l2 on more) (x y : Nat) (r : Nb n on l2 x y) : Nb n more l2 x y := by
  obtain ⟨b, p, q, h1, h2, h3, h4, h5, h6, h7, h8, h9⟩ := r
  exact ⟨b, p, q, h1, h2, h3, h b p h1 h2 h4, h b q h1 h3 h5, h6, h7, h8, h9⟩
/-- The rows made so far. -/
def RowsUp (l2 : List (List Int)) (on rows : List (List Bool)) (i : Nat) : Prop := rows.length = i ∧ ∀ b p, b < i → p < (l2.getD b []).length → onb on b p = true → onb rows b p = true
/-- The row under way. -/
def RowUp (l2 : List (List Int)) (on : List (List Bool)) (i : Nat) (row : List Bool) (j : Nat) : Prop := row.length = (l2.getD i []).length ∧ ∀ p, p < j → p < (l2.getD i []).length → onb on i p = true → row.getD p false = true
theorem getD_setB (P : List Bool) (i j : Nat) (v : Bool) (hi : i < P.length) : (P.set i v).getD j false = if i = j then v else P.getD j false := by
  simp only [List.getD_eq_getElem?_getD, List.getElem?_set]
  by_cases e : i = j
  · subst e
    simp [hi]
  · simp [e]
theorem RowUp.set {l2 : List (List Int)} {on : List (List Bool)} {i j : Nat} {row : List Bool} (h : RowUp l2 on i row j) (hj : j < row.length) (v : Bool) (hv : onb on i j = true → v = true) : RowUp l2 on i (row.set j v) (j + 1) := by
  refine ⟨by rw [List.length_set]; exact h.1, fun p hp hpl ho => ?_⟩
  rw [getD_setB _ _ _ _ hj]
  by_cases e : j = p
  · subst e; rw [if_pos rfl]; exact hv ho
  · rw [if_neg e]; exact h.2 p (by omega) hpl ho
theorem RowsUp.push {l2 : List (List Int)} {on rows : List (List Bool)} {i : Nat} {row : List Bool} (h : RowsUp l2 on rows i) (hr : RowUp l2 on i row row.length) : RowsUp l2 on (rows ++ [row]) (i + 1) := by
  refine ⟨by simp [h.1], fun b p hb hp ho => ?_⟩
  unfold onb
  by_cases e : b = i
  · subst e
    have : (rows ++ [row]).getD b [] = row := by
      rw [List.getD_eq_getElem?_getD, List.getElem?_append_right (by rw [h.1]; exact Nat.le_refl _), h.1]
      simp
    rw [this]
    exact hr.2 p (by rw [hr.1]; exact hp) hp ho
  · have hlt : b < rows.length := by rw [h.1]; omega
    have : (rows ++ [row]).getD b [] = rows.getD b [] := by
      rw [List.getD_eq_getElem?_getD, List.getD_eq_getElem?_getD, List.getElem?_append_left hlt]
    rw [this]
    exact h.2 b p (by omega) hp ho
theorem on_eq (on : List (List Bool)) (b p : Nat) : treelineref20_On.f on (b : Int) (p : Int) = some (onb on b p) := is_eq on b p
section
variable (on : List (List Bool)) (a0 : Int) (l1 : List S48) (l2 : List (List Int)) (l3 : List S59) (pp xx : Int)
/-- One row of the ports of which one more is on. -/
theorem more_l1 (i : Nat) (hi : i < l2.length) (hn : l2.length ≤ 1000) (rows : List (List Bool)) (hlen : (l2.getD i []).length ≤ 1000) (hr : rows.length ≤ 1000)
    (hq : ∀ row, RowUp l2 on i row row.length → EvP (fun k => treelinelaw20_TopoMore.l0 k on pp xx (rows ++ [row]) ((i + 1 : Nat) : Int) a0 l1 l2 l3) (· = true)) :
    ∀ m (j : Nat) (row : List Bool), j + m = row.length → RowUp l2 on i row j → EvP (fun k => treelinelaw20_TopoMore.l1 k on pp xx rows (i : Int) row (j : Int) a0 l1 l2 l3) (· = true)
  | 0, j, row, hj, hv => by
    obtain rfl : j = row.length := by omega
    refine EvP.step (fun k => ?_) (hq row hv)
    rw [treelinelaw20_TopoMore.l1, if_neg (by omega), if_pos (by omega), psucc (by omega)]
  | m + 1, j, row, hj, hv => by
    have hrl := hv.1
    have ih := fun v hvv => more_l1 i hi hn rows hlen hr hq m (j + 1) (row.set j v) (by rw [List.length_set]; omega) (hv.set (by omega) v hvv)
    by_cases c1 : onb on i j = true
    · refine EvP.step (fun k => ?_) (ih true (fun _ => rfl))
      rw [treelinelaw20_TopoMore.l1, if_pos (by omega), on_eq, Option.bind_some, if_pos c1, if_pos (by omega), psucc (by omega), Int.toNat_natCast]
    · by_cases c2 : (i : Int) = xx
      · refine EvP.step (fun k => ?_) (ih ((j : Int) == Int.tmod (wrap64 pp) (row.length : Int)) (fun h => absurd h c1))
        rw [treelinelaw20_TopoMore.l1, if_pos (by omega), on_eq, Option.bind_some, if_neg c1, if_pos c2, if_neg (by omega), if_pos (by omega), psucc (by omega), Int.toNat_natCast]
      · refine EvP.step (fun k => ?_) (ih false (fun h => absurd h c1))
        rw [treelinelaw20_TopoMore.l1, if_pos (by omega), on_eq, Option.bind_some, if_neg c1, if_neg c2, if_pos (by omega), psucc (by omega), Int.toNat_natCast]
end
/-- All parts against each other. -/
theorem more_l3 (A C N : List Int) (n : Nat) (hn : n ≤ 1000) (hA : A.length = n) (hC : C.length = n) (l : Nat) (hl : l < n) (hs : ∀ k, k < n → A.getD l 0 = A.getD k 0 → C.getD l 0 = C.getD k 0)
    (hq : EvP (fun k => treelinelaw20_TopoMore.l2 k A C N ((l + 1 : Nat) : Int)) (· = true)) :
    ∀ m (j : Nat), j + m = n → EvP (fun k => treelinelaw20_TopoMore.l3 k A C N (l : Int) (j : Int)) (· = true)
  | 0, j, hj => by
    refine EvP.step (fun k => ?_) hq
    rw [treelinelaw20_TopoMore.l3, if_neg (by omega), psucc (by omega)]
  | m + 1, j, hj => by
    have ih := more_l3 A C N n hn hA hC l hl hs hq m (j + 1) (by omega)
    by_cases c : A.getD l 0 = A.getD j 0
    · refine EvP.step (fun k => ?_) ih
      rw [treelinelaw20_TopoMore.l3, if_pos (by omega), if_pos (by omega), if_pos (by omega), if_pos (by omega), rdn, rdn, if_pos c, if_pos (by omega), if_pos (by omega), rdn, rdn, if_pos (hs j (by omega) c), psucc (by omega)]
    · refine EvP.step (fun k => ?_) ih
      rw [treelinelaw20_TopoMore.l3, if_pos (by omega), if_pos (by omega), if_pos (by omega), if_pos (by omega), rdn, rdn, if_neg c, psucc (by omega)]
theorem more_l2 (A C N : List Int) (n : Nat) (hn : n ≤ 1000) (hA : A.length = n) (hC : C.length = n) (hN : N.length = n) (hs : ∀ l k, l < n → k < n → A.getD l 0 = A.getD k 0 → C.getD l 0 = C.getD k 0)
    (hle : ∀ l, l < n → C.getD l 0 ≤ A.getD l 0) (hno : ∀ l, l < n → N.getD l 0 = (l : Int)) :
    ∀ m (j : Nat), j + m = n → EvP (fun k => treelinelaw20_TopoMore.l2 k A C N (j : Int)) (· = true)
  | 0, j, hj => by
    refine EvP.now (v := true) (fun k => ?_) rfl
    rw [treelinelaw20_TopoMore.l2, if_neg (by omega)]
  | m + 1, j, hj => by
    have h3 := more_l3 A C N n hn hA hC j (by omega) (fun k hk => hs j k (by omega) hk) (more_l2 A C N n hn hA hC hN hs hle hno m (j + 1) (by omega)) n 0 (Nat.zero_add _)
    have h4 : EvP (fun k => treelinelaw20_TopoMore.j4 k A C N (j : Int) false) (· = true) := EvP.step (fun k => by rw [treelinelaw20_TopoMore.j4, if_neg (by simp)]; rfl) h3
    refine EvP.step (fun k => ?_) h4
    have h5 : (N.getD j 0 != (j : Int)) = false := by rw [hno j (by omega)]; simp
    have h6 := hle j (by omega)
    rw [treelinelaw20_TopoMore.l2, if_pos (by omega), if_pos (by omega), if_pos (by omega), rdn, rdn, if_neg (by omega), if_pos (by omega), rdn, h5]
theorem more_end (on more : List (List Bool)) (a0 : Int) (l1 : List S48) (l2 : List (List Int)) (l3 : List S59) (h0 : a0 ≤ 1000) (hn : l2.length ≤ 1000) (hL : ∀ L ∈ l2, L.length ≤ 1000) (hsub : Sub l2 on more) :
    EvP (fun k => (topo_Parts.f k a0 l1 l2 l3 on).bind fun t220 => ((topo_Parts.f k a0 l1 l2 l3 more).bind fun t223 => ((topo_Parts.f k a0 l1 l2 l3 ([] : List (List Bool))).bind fun t226 => (treelinelaw20_TopoMore.l2 k t220 t223 t226 0)))) (· = true) := by
  obtain ⟨A, eA, fA⟩ := parts_ok on a0 l1 l2 l3 h0 hn hL
  obtain ⟨C, eC, fC⟩ := parts_ok more a0 l1 l2 l3 h0 hn hL
  obtain ⟨N, eN, fN⟩ := parts_ok [] a0 l1 l2 l3 h0 hn hL
  have hlan : lans a0 ≤ 1000 := by unfold lans mx; split <;> omega
  have hsame : ∀ l k, l < lans a0 → k < lans a0 → A.getD l 0 = A.getD k 0 → C.getD l 0 = C.getD k 0 := fun l k hl hk e => fC.same ((fA.joined hl hk e).mono (Nb.sub hsub))
  obtain ⟨v, hv, rfl⟩ := more_l2 A C N (lans a0) hlan fA.good.len fC.good.len fN.good.len hsame (fun l hl => by
      obtain ⟨m, h1, h2, h3⟩ := fA.good.val l hl
      obtain ⟨m', h4, h5, h6⟩ := fC.good.val m (by omega)
      have := fC.same (h3.mono (Nb.sub hsub))
      omega) (fun l hl => by
      obtain ⟨m, h1, h2, h3⟩ := fN.good.val l hl
      have := Jn.none (fun x y r => by
        obtain ⟨b, p, q, _, _, _, h4, _⟩ := r
        simp [onb] at h4) h3
      rw [h2, this]) _ 0 (Nat.zero_add _)
  exact ⟨true, Ev.bind0 (fun k => rfl) eA (Ev.bind0 (fun k => rfl) eC (Ev.bind0 (fun k => rfl) eN hv)), rfl⟩
theorem more_l0 (on : List (List Bool)) (a0 : Int) (l1 : List S48) (l2 : List (List Int)) (l3 : List S59) (pp xx : Int) (h0 : a0 ≤ 1000) (hn : l2.length ≤ 1000) (hL : ∀ L ∈ l2, L.length ≤ 1000) :
    ∀ m (i : Nat) (rows : List (List Bool)), i + m = l2.length → RowsUp l2 on rows i → EvP (fun k => treelinelaw20_TopoMore.l0 k on pp xx rows (i : Int) a0 l1 l2 l3) (· = true)
  | 0, i, rows, hi, hr => by
    obtain rfl : i = l2.length := by omega
    refine EvP.step (fun k => ?_) (more_end on rows a0 l1 l2 l3 h0 hn hL (fun b p hb hp ho => hr.2 b p hb hp ho))
    rw [treelinelaw20_TopoMore.l0, if_neg (by omega)]
  | m + 1, i, rows, hi, hr => by
    have hm : l2.getD i [] ∈ l2 := by
      rw [List.getD_eq_getElem?_getD, List.getElem?_eq_getElem (show i < l2.length by omega)]
      exact List.getElem_mem _
    have hlen := hL _ hm
    have hrow : rd_L9 l2 (i : Int) = l2.getD i [] := by unfold rd_L9; rw [Int.toNat_natCast]
    refine EvP.step (fun k => ?_) (more_l1 on a0 l1 l2 l3 pp xx i (by omega) hn rows hlen (by rw [hr.1]; omega) (fun row hrow => more_l0 on a0 l1 l2 l3 pp xx h0 hn hL m (i + 1) (rows ++ [row]) (by omega) (hr.push hrow)) _ 0 (List.replicate (l2.getD i []).length false) (Nat.zero_add _) ⟨List.length_replicate, fun p hp => absurd hp (by omega)⟩)
    rw [treelinelaw20_TopoMore.l0, if_pos (by omega), if_pos (by omega), hrow, if_pos (by omega), if_pos (by omega), Int.toNat_natCast]
    rfl
/-- Few LANs at most. -/
theorem few_lans (a0 : Int) (l1 : List S48) (l2 : List (List Int)) (l3 : List S59) {K : Nat} (h : treelineref20_Few.f K a0 l1 l2 l3 = some true) : a0 ≤ 20 ∧ l2.length ≤ 20 := by
  have no : ∀ k, treelineref20_Few.j0 k true a0 l1 l2 l3 ≠ some true := fun k => by
    cases k with
    | zero => simp [treelineref20_Few.j0]
    | succ k => rw [treelineref20_Few.j0, if_pos rfl]; simp
  unfold treelineref20_Few.f at h
  by_cases c1 : a0 > 20
  · rw [if_pos c1] at h; exact absurd h (no _)
  · rw [if_neg c1] at h
    by_cases c2 : (l1.length : Int) > 20
    · rw [if_pos c2] at h; exact absurd h (no _)
    · rw [if_neg c2] at h
      by_cases c3 : (l2.length : Int) > 20
      · rw [if_pos c3] at h; exact absurd h (no _)
      · omega
theorem topoMore (a0 : Int) (l1 : List S48) (l2 : List (List Int)) (l3 : List S59) (on : List (List Bool)) (a2 a3 : Int) : ∃ k, treelinelaw20_TopoMore.f k a0 l1 l2 l3 on a2 a3 = some true := by
  obtain ⟨b, ⟨K1, h1⟩, hL⟩ := few a0 l1 l2 l3
  obtain ⟨K0, h0⟩ := awk
  dsimp only at h0 h1
  have wake : ∃ k, ∀ j, k ≤ j → treelinelaw20_TopoMore.j0 j on a2 a3 true a0 l1 l2 l3 = some true := ⟨K0 + 1, fun j hj => by
    obtain ⟨j, rfl⟩ : ∃ m, j = m + 1 := ⟨j - 1, by omega⟩
    rw [treelinelaw20_TopoMore.j0, if_pos rfl, h0 _ (by omega)]
    rfl⟩
  obtain ⟨K2, h2⟩ := wake
  cases hb : b
  · refine ⟨K0 + K1 + K2 + 1, ?_⟩
    unfold treelinelaw20_TopoMore.f
    rw [h0 _ (by omega), Option.bind_some, if_pos rfl, h1 _ (by omega), Option.bind_some, hb, if_neg (by simp), h2 _ (by omega)]
  · obtain ⟨f1, f2⟩ := few_lans a0 l1 l2 l3 ((h1 K1 (Nat.le_refl _)).trans (by rw [hb]))
    by_cases c1 : (on.length : Int) > 20
    · refine ⟨K0 + K1 + K2 + 1, ?_⟩
      unfold treelinelaw20_TopoMore.f
      rw [h0 _ (by omega), Option.bind_some, if_pos rfl, h1 _ (by omega), Option.bind_some, hb, if_pos rfl, if_pos c1, h2 _ (by omega)]
    · by_cases c2 : l2.length = 0
      · refine ⟨K0 + K1 + K2 + 1, ?_⟩
        unfold treelinelaw20_TopoMore.f
        rw [h0 _ (by omega), Option.bind_some, if_pos rfl, h1 _ (by omega), Option.bind_some, hb, if_pos rfl, if_neg c1, show ((l2.length : Int) == 0) = true by rw [c2]; rfl, h2 _ (by omega)]
      · obtain ⟨v, ⟨K3, h3⟩, rfl⟩ := more_l0 on a0 l1 l2 l3 a3 (Int.tmod (wrap64 a2) (l2.length : Int)) (by omega) (by omega) (fun L h => by have := hL hb L h; omega) _ 0 [] (Nat.zero_add _) ⟨rfl, fun b p hb => absurd hb (by omega)⟩
        refine ⟨K0 + K1 + K3 + 1, ?_⟩
        unfold treelinelaw20_TopoMore.f
        rw [h0 _ (by omega), Option.bind_some, if_pos rfl, h1 _ (by omega), Option.bind_some, hb, if_pos rfl, if_neg c1, show ((l2.length : Int) == 0) = false by simpa using c2]
        rw [treelinelaw20_TopoMore.j0, if_neg (by simp), if_neg (by omega)]
        exact h3 _ (by omega)

theorem TopoMore (W : World) (x : Int × (List S48) × (List (List Int)) × (List S59)) (l : List (List Bool)) (a2 a3 : Int)
    {A1 : Option Addr} {c1 : Nat} (hC1 : Kd.C k48 W A1 x.2.1.length x.2.1) (hc1 : x.2.1.length ≤ c1) {A2 : Option Addr} {c2 : Nat} (hC2 : Kd.C (Kd.slice 3 (Kd.int .i64)) W A2 x.2.2.1.length x.2.2.1) (hc2 : x.2.2.1.length ≤ c2) {A3 : Option Addr} {c3 : Nat} (hC3 : Kd.C k59 W A3 x.2.2.2.length x.2.2.2) (hc3 : x.2.2.2.length ≤ c3)
    {A4 : Option Addr} {c4 : Nat} (hC4 : Kd.C (Kd.slice 4 Kd.bool) W A4 l.length l) (hc4 : l.length ≤ c4) :
    Calls Try.prog 5 #[.agg #[.int .i64 x.1, .slice A1 x.2.1.length c1, .slice A2 x.2.2.1.length c2, .slice A3 x.2.2.2.length c3], .slice A4 l.length c4, .int .u8 a2, .int .u8 a3] W fun e w' => e = .returned (.bool true) ∧ Below W.heap.size W w' := by
  obtain ⟨a0, l1, l2, l3⟩ := x
  obtain ⟨k, hk⟩ := topoMore a0 l1 l2 l3 l a2 a3
  exact treelinelaw20_TopoMore.calls k a0 A1 c1 l1 A2 c2 l2 A3 c3 l3 A4 c4 l a2 a3 true W hC1 hc1 hC2 hc2 hC3 hc3 hC4 hc4 hk ⟨rfl⟩

end Go.Proofs.Ytkgfpagfmdefgaa.Pure
