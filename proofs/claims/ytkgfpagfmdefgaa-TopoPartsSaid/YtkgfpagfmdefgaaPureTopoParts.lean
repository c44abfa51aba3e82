/- Which LANs are joined, by whatever ports that are on, is the document's. -/
import Derived.Test.YtkgfpagfmdefgaaOTopoPartsx14
import Derived.Test.YtkgfpagfmdefgaaAr
namespace Go.Proofs.Ytkgfpagfmdefgaa.Pure
open Go.RowKit Go.Proofs.Ytkgfpagfmdefgaa.OTopoParts Go.Proofs.YtkgfpagfmdefgaaW.PrintWords Go.Proofs.YtkgfpagfmdefgaaW.PrintLast Go.Proofs.YtkgfpagfmdefgaaW.PrintMore Go.Proofs.Ytkgfpagfmdefgaa.Ar
set_option linter.unusedVariables false
set_option linter.unusedSimpArgs false
/-- From some fuel on it answers v. -/
def Ev {α : Type} (A : Nat → Option α) (v : α) : Prop := ∃ K, ∀ k, K ≤ k → A k = some v
theorem Ev.now {α : Type} {A : Nat → Option α} {v : α} (h : ∀ k, A (k + 1) = some v) : Ev A v := ⟨1, fun k hk => by
  obtain ⟨m, rfl⟩ : ∃ m, k = m + 1 := ⟨k - 1, by omega⟩
  exact h m⟩
theorem Ev.step {α : Type} {A A' : Nat → Option α} {v : α} (h : ∀ k, A (k + 1) = A' k) (e : Ev A' v) : Ev A v := by
  obtain ⟨K, hK⟩ := e
  refine ⟨K + 1, fun k hk => ?_⟩
  obtain ⟨m, rfl⟩ : ∃ m, k = m + 1 := ⟨k - 1, by omega⟩
  rw [h m]
  exact hK m (by omega)
theorem Ev.bind {α β : Type} {A : Nat → Option α} {f : Nat → Option β} {g : β → Nat → Option α} {t : β} {v : α} (h : ∀ k, A (k + 1) = (f k).bind fun t => g t k) (hf : Ev f t) (e : Ev (g t) v) : Ev A v := by
  obtain ⟨K, hK⟩ := e
  obtain ⟨K2, hK2⟩ := hf
  refine ⟨K + K2 + 1, fun k hk => ?_⟩
  obtain ⟨m, rfl⟩ : ∃ m, k = m + 1 := ⟨k - 1, by omega⟩
  rw [h m, hK2 m (by omega)]
  exact hK m (by omega)
/-- Two programs that come to one answer. -/
def Same {α : Type} (A B : Nat → Option α) : Prop := ∃ v, Ev A v ∧ Ev B v

/-- LANs that a chain of bridges joins. -/
inductive Jn (R : Nat → Nat → Prop) : Nat → Nat → Prop where
  | refl (x : Nat) : Jn R x x
  | step {x y z : Nat} : R x y → Jn R y z → Jn R x z
theorem Jn.trans {R : Nat → Nat → Prop} {x y z : Nat} (h : Jn R x y) (h2 : Jn R y z) : Jn R x z := by
  induction h with
  | refl => exact h2
  | step r _ ih => exact .step r (ih h2)
theorem Jn.symm {R : Nat → Nat → Prop} (hs : ∀ x y, R x y → R y x) {x y : Nat} (h : Jn R x y) : Jn R y x := by
  induction h with
  | refl => exact .refl _
  | step r _ ih => exact ih.trans (.step (hs _ _ r) (.refl _))
theorem Jn.mono {R S : Nat → Nat → Prop} (hs : ∀ x y, R x y → S x y) {x y : Nat} (h : Jn R x y) : Jn S x y := by
  induction h with
  | refl => exact .refl _
  | step r _ ih => exact .step (hs _ _ r) ih
theorem Jn.same {α : Type} {R : Nat → Nat → Prop} {p : Nat → α} (hp : ∀ x y, R x y → p x = p y) {x y : Nat} (h : Jn R x y) : p x = p y := by
  induction h with
  | refl => rfl
  | step r _ ih => exact (hp _ _ r).trans ih
theorem Jn.none {R : Nat → Nat → Prop} (hp : ∀ x y, ¬ R x y) {x y : Nat} (h : Jn R x y) : x = y := by
  cases h with
  | refl => rfl
  | step r _ => exact absurd r (hp _ _)
/-- From some fuel on it answers what Φ says. -/
def EvP {α : Type} (A : Nat → Option α) (Φ : α → Prop) : Prop := ∃ v, Ev A v ∧ Φ v
theorem EvP.step {α : Type} {A A' : Nat → Option α} {Φ : α → Prop} (h : ∀ k, A (k + 1) = A' k) (e : EvP A' Φ) : EvP A Φ := by
  obtain ⟨v, hv, hp⟩ := e
  exact ⟨v, Ev.step h hv, hp⟩
theorem EvP.now {α : Type} {A : Nat → Option α} {Φ : α → Prop} {v : α} (h : ∀ k, A (k + 1) = some v) (hp : Φ v) : EvP A Φ := ⟨v, Ev.now h, hp⟩
theorem Ev.bind0 {α β : Type} {A : Nat → Option α} {f : Nat → Option β} {g : β → Nat → Option α} {t : β} {v : α} (h : ∀ k, A k = (f k).bind fun t => g t k) (hf : Ev f t) (e : Ev (g t) v) : Ev A v := by
  obtain ⟨K, hK⟩ := e
  obtain ⟨K2, hK2⟩ := hf
  refine ⟨K + K2, fun k hk => ?_⟩
  rw [h k, hK2 k (by omega)]
  exact hK k (by omega)
def onb (on : List (List Bool)) (b p : Nat) : Bool := (on.getD b []).getD p false
theorem is_eq (on : List (List Bool)) (b p : Nat) : topo_is.f on (b : Int) (p : Int) = some (onb on b p) := by
  unfold topo_is.f onb rd_L11 rdOf
  simp only [Int.toNat_natCast]
  by_cases hb : b < on.length
  · rw [if_pos (by omega), if_pos (by omega)]
    by_cases hp : p < (on.getD b []).length
    · rw [if_pos (by omega), if_pos (by omega)]
    · rw [if_neg (by omega)]
      rw [List.getD_eq_getElem?_getD (l := on.getD b []), List.getElem?_eq_none (by omega)]
      rfl
  · rw [if_neg (by omega)]
    rw [List.getD_eq_getElem?_getD (l := on), List.getElem?_eq_none (by omega)]
    rfl
/-- The LANs x and y are on ports of one bridge that are on. -/
def Nb (n : Nat) (on : List (List Bool)) (l2 : List (List Int)) (x y : Nat) : Prop :=
  ∃ b p q : Nat, b < l2.length ∧ p < (l2.getD b []).length ∧ q < (l2.getD b []).length ∧ onb on b p = true ∧ onb on b q = true ∧ (l2.getD b []).getD p 0 = (x : Int) ∧ (l2.getD b []).getD q 0 = (y : Int) ∧ x < n ∧ y < n
theorem Nb.symm {n : Nat} {on : List (List Bool)} {l2 : List (List Int)} (x y : Nat) (h : Nb n on l2 x y) : Nb n on l2 y x := by
  obtain ⟨b, p, q, h1, h2, h3, h4, h5, h6, h7, h8, h9⟩ := h
  exact ⟨b, q, p, h1, h3, h2, h5, h4, h7, h6, h9, h8⟩
/-- What the parts always are: of each LAN one that is joined to it, and no greater. -/
structure Good (n : Nat) (on : List (List Bool)) (l2 : List (List Int)) (P : List Int) : Prop where
  len : P.length = n
  val : ∀ l, l < n → ∃ m : Nat, m ≤ l ∧ P.getD l 0 = (m : Int) ∧ Jn (Nb n on l2) l m
/-- A port that counts. -/
def Act (n : Nat) (on : List (List Bool)) (b : Nat) (L : List Int) (p : Nat) : Prop := p < L.length ∧ onb on b p = true ∧ 0 ≤ L.getD p 0 ∧ L.getD p 0 < (n : Int)
def Flat (n : Nat) (on : List (List Bool)) (l2 : List (List Int)) (P : List Int) (b : Nat) : Prop :=
  ∀ p q, Act n on b (l2.getD b []) p → Act n on b (l2.getD b []) q → P.getD ((l2.getD b []).getD p 0).toNat 0 = P.getD ((l2.getD b []).getD q 0).toNat 0
/-- What the parts are in the end. -/
structure Fine (n : Nat) (on : List (List Bool)) (l2 : List (List Int)) (P : List Int) : Prop where
  good : Good n on l2 P
  flat : ∀ b, b < l2.length → Flat n on l2 P b
theorem Fine.nb {n : Nat} {on : List (List Bool)} {l2 : List (List Int)} {P : List Int} (h : Fine n on l2 P) (x y : Nat) (r : Nb n on l2 x y) : P.getD x 0 = P.getD y 0 := by
  obtain ⟨b, p, q, h1, h2, h3, h4, h5, h6, h7, h8, h9⟩ := r
  have := h.flat b h1 p q ⟨h2, h4, by omega, by omega⟩ ⟨h3, h5, by omega, by omega⟩
  rw [h6, h7] at this
  simpa using this
theorem Fine.same {n : Nat} {on : List (List Bool)} {l2 : List (List Int)} {P : List Int} (h : Fine n on l2 P) {x y : Nat} (r : Jn (Nb n on l2) x y) : P.getD x 0 = P.getD y 0 := Jn.same (p := fun x => P.getD x 0) h.nb r
/-- Equal parts are joined LANs. -/
theorem Fine.joined {n : Nat} {on : List (List Bool)} {l2 : List (List Int)} {P : List Int} (h : Fine n on l2 P) {x y : Nat} (hx : x < n) (hy : y < n) (e : P.getD x 0 = P.getD y 0) : Jn (Nb n on l2) x y := by
  obtain ⟨m, _, h1, h2⟩ := h.good.val x hx
  obtain ⟨m', _, h3, h4⟩ := h.good.val y hy
  obtain rfl : m = m' := by omega
  exact h2.trans (h4.symm Nb.symm)
def tot : List Int → Nat
  | [] => 0
  | x :: r => x.toNat + tot r
theorem tot_set : ∀ (P : List Int) (i : Nat) (v : Int), i < P.length → 0 ≤ v → v < P.getD i 0 → tot (P.set i v) < tot P
  | [], _, _, h, _, _ => absurd h (by simp)
  | x :: r, 0, v, _, h0, h => by
    simp only [List.getD_cons_zero] at h
    simp only [List.set_cons_zero, tot]
    omega
  | x :: r, i + 1, v, hi, h0, h => by
    simp only [List.getD_cons_succ] at h
    simp only [List.length_cons] at hi
    have := tot_set r i v (by omega) h0 h
    simp only [List.set_cons_succ, tot]
    omega
theorem getD_set (P : List Int) (i j : Nat) (v : Int) (hi : i < P.length) : (P.set i v).getD j 0 = if i = j then v else P.getD j 0 := by
  simp only [List.getD_eq_getElem?_getD, List.getElem?_set]
  by_cases e : i = j
  · subst e
    simp [hi]
  · simp [e]
theorem Good.set {n : Nat} {on : List (List Bool)} {l2 : List (List Int)} {P : List Int} (h : Good n on l2 P) {x y : Nat} (hx : x < n) (hy : y < n) (r : Nb n on l2 x y) (hl : P.getD y 0 < P.getD x 0) : Good n on l2 (P.set x (P.getD y 0)) := by
  refine ⟨by rw [List.length_set]; exact h.len, fun l hl2 => ?_⟩
  rw [getD_set _ _ _ _ (by rw [h.len]; exact hx)]
  by_cases e : x = l
  · subst e
    rw [if_pos rfl]
    obtain ⟨m, h1, h2, h3⟩ := h.val x hx
    obtain ⟨m', h4, h5, h6⟩ := h.val y hy
    exact ⟨m', by omega, h5, .step r h6⟩
  · rw [if_neg e]
    exact h.val l hl2
/-- What 'least' is ahead of port j. -/
def Least (n : Nat) (on : List (List Bool)) (b : Nat) (L P : List Int) (j : Nat) (v : Int) : Prop :=
  (v = -1 ∧ ∀ p, p < j → ¬ Act n on b L p) ∨ ∃ p, p < j ∧ Act n on b L p ∧ P.getD (L.getD p 0).toNat 0 = v ∧ ∀ q, q < j → Act n on b L q → v ≤ P.getD (L.getD q 0).toNat 0
theorem psucc {i : Nat} (h : i ≤ 100000) : wrap64 ((i : Int) + 1) = ((i + 1 : Nat) : Int) := by rw [w64 (by omega) (by omega)]; omega
theorem rdn (L : List Int) (j : Nat) : rd L (j : Int) = L.getD j 0 := by unfold rd; rw [Int.toNat_natCast]

section
variable (n : Nat) (on : List (List Bool)) (a0 : Int) (l1 : List S48) (l2 : List (List Int)) (l3 : List S59)
theorem Act.pos {n : Nat} {on : List (List Bool)} {l2 : List (List Int)} {P : List Int} (h : Good n on l2 P) {b p : Nat} {L : List Int} (a : Act n on b L p) : 0 ≤ P.getD (L.getD p 0).toNat 0 := by
  obtain ⟨m, _, h2, _⟩ := h.val (L.getD p 0).toNat (by have := a.2.2; omega)
  omega
theorem parts_l3 (P : List Int) (hP : Good n on l2 P) (b : Nat) (L : List Int) (hL : L.length ≤ 1000) (Φ : List Int → Prop)
    (hq : ∀ v, Least n on b L P L.length v → EvP (fun k => topo_Parts.l4 k on P (b : Int) v l2 (l2.length : Int) (b : Int) L (L.length : Int) 0 a0 l1 l2 l3) Φ) :
    ∀ m (j : Nat) (v : Int), j + m = L.length → Least n on b L P j v → EvP (fun k => topo_Parts.l3 k on P (b : Int) L v l2 (l2.length : Int) (b : Int) L (L.length : Int) (j : Int) a0 l1 l2 l3) Φ
  | 0, j, v, hj, hv => by
    obtain rfl : j = L.length := by omega
    refine EvP.step (fun k => ?_) (hq v hv)
    rw [topo_Parts.l3, if_neg (by omega)]
  | m + 1, j, v, hj, hv => by
    have ih := parts_l3 P hP b L hL Φ hq m (j + 1)
    have skip : ¬ Act n on b L j → Least n on b L P (j + 1) v := fun hn => by
      rcases hv with ⟨h1, h2⟩ | ⟨p, h1, h2, h3, h4⟩
      · refine .inl ⟨h1, fun p hp => ?_⟩
        by_cases e : p = j
        · subst e; exact hn
        · exact h2 p (by omega)
      · refine .inr ⟨p, by omega, h2, h3, fun q hq ha => ?_⟩
        by_cases e : q = j
        · subst e; exact absurd ha hn
        · exact h4 q (by omega) ha
    have hlen := hP.len
    by_cases c1 : onb on b j = true
    · by_cases c2 : L.getD j 0 ≥ 0
      · by_cases c3 : L.getD j 0 < (P.length : Int)
        · have ha : Act n on b L j := ⟨by omega, c1, c2, by omega⟩
          have take : (v < 0 ∨ P.getD (L.getD j 0).toNat 0 < v) → Least n on b L P (j + 1) (P.getD (L.getD j 0).toNat 0) := fun hlt => by
            refine .inr ⟨j, by omega, ha, rfl, fun q hq haq => ?_⟩
            by_cases e : q = j
            · subst e; exact Int.le_refl _
            · rcases hv with ⟨h1, h2⟩ | ⟨p, h1, h2, h3, h4⟩
              · exact absurd haq (h2 q (by omega))
              · have := h4 q (by omega) haq
                have := h2.pos hP
                omega
          have hrd : rd P (L.getD j 0) = P.getD (L.getD j 0).toNat 0 := rfl
          by_cases c4 : v < 0
          · refine EvP.step (fun k => ?_) (ih _ (by omega) (take (.inl c4)))
            rw [topo_Parts.l3, if_pos (by omega), if_pos (by omega), if_pos (by omega), is_eq, Option.bind_some, rdn, if_pos c1, if_pos c2, if_pos c3, if_pos c4, if_pos (by omega), hrd, psucc (by omega)]
          · by_cases c5 : P.getD (L.getD j 0).toNat 0 < v
            · refine EvP.step (fun k => ?_) (ih _ (by omega) (take (.inr c5)))
              rw [topo_Parts.l3, if_pos (by omega), if_pos (by omega), if_pos (by omega), is_eq, Option.bind_some, rdn, if_pos c1, if_pos c2, if_pos c3, if_neg c4, if_pos (by omega), hrd, if_pos c5, psucc (by omega)]
            · refine EvP.step (fun k => ?_) (ih v (by omega) ?_)
              · rw [topo_Parts.l3, if_pos (by omega), if_pos (by omega), if_pos (by omega), is_eq, Option.bind_some, rdn, if_pos c1, if_pos c2, if_pos c3, if_neg c4, if_pos (by omega), hrd, if_neg c5, psucc (by omega)]
              · rcases hv with ⟨h1, h2⟩ | ⟨p, h1, h2, h3, h4⟩
                · omega
                · refine .inr ⟨p, by omega, h2, h3, fun q hq haq => ?_⟩
                  by_cases e : q = j
                  · subst e; omega
                  · exact h4 q (by omega) haq
        · refine EvP.step (fun k => ?_) (ih v (by omega) (skip fun a => c3 (by have := a.2.2.2; omega)))
          rw [topo_Parts.l3, if_pos (by omega), if_pos (by omega), if_pos (by omega), is_eq, Option.bind_some, rdn, if_pos c1, if_pos c2, if_neg c3, psucc (by omega)]
      · refine EvP.step (fun k => ?_) (ih v (by omega) (skip fun a => c2 a.2.2.1))
        rw [topo_Parts.l3, if_pos (by omega), if_pos (by omega), if_pos (by omega), is_eq, Option.bind_some, rdn, if_pos c1, if_neg c2, psucc (by omega)]
    · refine EvP.step (fun k => ?_) (ih v (by omega) (skip fun a => c1 a.2.1))
      rw [topo_Parts.l3, if_pos (by omega), if_pos (by omega), if_pos (by omega), is_eq, Option.bind_some, if_neg c1, psucc (by omega)]
theorem parts_l4 (P : List Int) (hP : Good n on l2 P) (b : Nat) (hb : b < l2.length) (hn : l2.length ≤ 1000) (L : List Int) (hLe : l2.getD b [] = L) (hL : L.length ≤ 1000) (Φ : List Int → Prop) (v : Int) (hv : Least n on b L P L.length v)
    (again : ∀ P', Good n on l2 P' → tot P' < tot P → EvP (fun k => topo_Parts.l1 k on P' a0 l1 l2 l3) Φ)
    (next : Flat n on l2 P b → EvP (fun k => topo_Parts.l2 k on P l2 (l2.length : Int) ((b + 1 : Nat) : Int) a0 l1 l2 l3) Φ) :
    ∀ m (j : Nat), j + m = L.length → (∀ q, q < j → Act n on b L q → P.getD (L.getD q 0).toNat 0 ≤ v) → EvP (fun k => topo_Parts.l4 k on P (b : Int) v l2 (l2.length : Int) (b : Int) L (L.length : Int) (j : Int) a0 l1 l2 l3) Φ
  | 0, j, hj, hle => by
    obtain rfl : j = L.length := by omega
    refine EvP.step (fun k => ?_) (next ?_)
    · rw [topo_Parts.l4, if_neg (by omega), psucc (by omega)]
    · intro p q hp hq
      rw [hLe] at hp hq ⊢
      rcases hv with ⟨_, h2⟩ | ⟨r, h1, h2, h3, h4⟩
      · exact absurd hp (h2 p hp.1)
      · have := hle p hp.1 hp
        have := hle q hq.1 hq
        have := h4 p hp.1 hp
        have := h4 q hq.1 hq
        omega
  | m + 1, j, hj, hle => by
    have ih := parts_l4 P hP b hb hn L hLe hL Φ v hv again next m (j + 1) (by omega)
    have hlen := hP.len
    have go : (Act n on b L j → P.getD (L.getD j 0).toNat 0 ≤ v) → ∀ q, q < j + 1 → Act n on b L q → P.getD (L.getD q 0).toNat 0 ≤ v := fun h q hq ha => by
      by_cases e : q = j
      · subst e; exact h ha
      · exact hle q (by omega) ha
    by_cases c1 : onb on b j = true
    · by_cases c2 : L.getD j 0 ≥ 0
      · by_cases c3 : L.getD j 0 < (P.length : Int)
        · have ha : Act n on b L j := ⟨by omega, c1, c2, by omega⟩
          have hrd : rd P (L.getD j 0) = P.getD (L.getD j 0).toNat 0 := rfl
          by_cases c4 : P.getD (L.getD j 0).toNat 0 > v
          · obtain ⟨r, h1, h2, h3, h4⟩ : ∃ p, p < L.length ∧ Act n on b L p ∧ P.getD (L.getD p 0).toNat 0 = v ∧ ∀ q, q < L.length → Act n on b L q → v ≤ P.getD (L.getD q 0).toNat 0 := by
              rcases hv with ⟨_, h2⟩ | h
              · exact absurd ha (h2 j (by omega))
              · exact h
            have hv0 := h2.pos hP
            refine EvP.step (fun k => ?_) (again (P.set (L.getD j 0).toNat v) ?_ (tot_set _ _ _ (by omega) (by omega) (by omega)))
            · rw [topo_Parts.l4, if_pos (by omega), if_pos (by omega), if_pos (by omega), is_eq, Option.bind_some, rdn, if_pos c1, if_pos c2, if_pos c3, if_pos (by omega), hrd, if_pos c4]
            · rw [← h3]
              refine hP.set (by omega) (by have := h2.2.2; omega) ⟨b, j, r, hb, by rw [hLe]; omega, by rw [hLe]; exact h1, c1, h2.2.1, ?_, ?_, by omega, by have := h2.2.2; omega⟩ (by omega)
              · rw [hLe]; omega
              · rw [hLe]; have := h2.2.2; omega
          · refine EvP.step (fun k => ?_) (ih (go fun _ => by omega))
            rw [topo_Parts.l4, if_pos (by omega), if_pos (by omega), if_pos (by omega), is_eq, Option.bind_some, rdn, if_pos c1, if_pos c2, if_pos c3, if_pos (by omega), hrd, if_neg c4, psucc (by omega)]
        · refine EvP.step (fun k => ?_) (ih (go fun a => absurd a.2.2.2 (by omega)))
          rw [topo_Parts.l4, if_pos (by omega), if_pos (by omega), if_pos (by omega), is_eq, Option.bind_some, rdn, if_pos c1, if_pos c2, if_neg c3, psucc (by omega)]
      · refine EvP.step (fun k => ?_) (ih (go fun a => absurd a.2.2.1 c2))
        rw [topo_Parts.l4, if_pos (by omega), if_pos (by omega), if_pos (by omega), is_eq, Option.bind_some, rdn, if_pos c1, if_neg c2, psucc (by omega)]
    · refine EvP.step (fun k => ?_) (ih (go fun a => absurd a.2.1 c1))
      rw [topo_Parts.l4, if_pos (by omega), if_pos (by omega), if_pos (by omega), is_eq, Option.bind_some, if_neg c1, psucc (by omega)]
theorem parts_l2 (hn : l2.length ≤ 1000) (hL : ∀ L ∈ l2, L.length ≤ 1000) (P : List Int) (hP : Good n on l2 P) (again : ∀ P', Good n on l2 P' → tot P' < tot P → EvP (fun k => topo_Parts.l1 k on P' a0 l1 l2 l3) (Fine n on l2)) :
    ∀ m (b : Nat), b + m = l2.length → (∀ c, c < b → Flat n on l2 P c) → EvP (fun k => topo_Parts.l2 k on P l2 (l2.length : Int) (b : Int) a0 l1 l2 l3) (Fine n on l2)
  | 0, b, hb, hf => by
    obtain rfl : b = l2.length := by omega
    refine EvP.now (v := P) (fun k => ?_) ⟨hP, hf⟩
    rw [topo_Parts.l2, if_neg (by omega)]
  | m + 1, b, hb, hf => by
    have ih := parts_l2 hn hL P hP again m (b + 1) (by omega)
    have hm : l2.getD b [] ∈ l2 := by
      rw [List.getD_eq_getElem?_getD, List.getElem?_eq_getElem (show b < l2.length by omega)]
      exact List.getElem_mem _
    have hrow : rd_L9 l2 (b : Int) = l2.getD b [] := by unfold rd_L9; rw [Int.toNat_natCast]
    refine EvP.step (fun k => ?_) (parts_l3 n on a0 l1 l2 l3 P hP b (l2.getD b []) (hL _ hm) _ (fun v hv => parts_l4 n on a0 l1 l2 l3 P hP b (by omega) hn _ rfl (hL _ hm) _ v hv again (fun hfl => ih fun c hc => ?_) _ 0 (Nat.zero_add _) (fun q hq => absurd hq (by omega))) _ 0 (-1) (Nat.zero_add _) (.inl ⟨rfl, fun p hp => absurd hp (by omega)⟩))
    · rw [topo_Parts.l2, if_pos (by omega), if_pos (by omega), if_pos (by omega), hrow]
      rfl
    · by_cases e : c = b
      · subst e; exact hfl
      · exact hf c (by omega)
theorem parts_l1 (hn : l2.length ≤ 1000) (hL : ∀ L ∈ l2, L.length ≤ 1000) : ∀ N (P : List Int), tot P < N → Good n on l2 P → EvP (fun k => topo_Parts.l1 k on P a0 l1 l2 l3) (Fine n on l2)
  | 0, _, h, _ => absurd h (by omega)
  | N + 1, P, h, hP => by
    refine EvP.step (fun k => ?_) (parts_l2 n on a0 l1 l2 l3 hn hL P hP (fun P' g' ht => parts_l1 hn hL N P' (by omega) g') _ 0 (Nat.zero_add _) (fun c hc => absurd hc (by omega)))
    rw [topo_Parts.l1]
    rfl
theorem parts_l0 (hn : l2.length ≤ 1000) (hL : ∀ L ∈ l2, L.length ≤ 1000) (hnn : n ≤ 1000) : ∀ m (j : Nat) (P : List Int), j + m = n → P.length = n → (∀ l, l < j → P.getD l 0 = (l : Int)) →
    EvP (fun k => topo_Parts.l0 k on P (n : Int) (j : Int) a0 l1 l2 l3) (Fine n on l2)
  | 0, j, P, hj, hl, hv => by
    obtain rfl : j = n := by omega
    refine EvP.step (fun k => ?_) (parts_l1 j on a0 l1 l2 l3 hn hL _ P (Nat.lt_succ_self _) ⟨hl, fun l h => ⟨l, Nat.le_refl _, hv l h, .refl _⟩⟩)
    rw [topo_Parts.l0, if_neg (by omega)]
  | m + 1, j, P, hj, hl, hv => by
    refine EvP.step (fun k => ?_) (parts_l0 hn hL hnn m (j + 1) (P.set j (j : Int)) (by omega) (by rw [List.length_set]; exact hl) (fun l h => ?_))
    · rw [topo_Parts.l0, if_pos (by omega), if_pos (by omega), if_pos (by omega), psucc (by omega), Int.toNat_natCast]
    · rw [getD_set _ _ _ _ (by omega)]
      by_cases e : j = l
      · subst e; rw [if_pos rfl]
      · rw [if_neg e]; exact hv l (by omega)
end
/-- How many LANs there are. -/
def lans (a0 : Int) : Nat := (mx a0 0).toNat
theorem parts_ok (on : List (List Bool)) (a0 : Int) (l1 : List S48) (l2 : List (List Int)) (l3 : List S59) (h0 : a0 ≤ 1000) (hn : l2.length ≤ 1000) (hL : ∀ L ∈ l2, L.length ≤ 1000) : EvP (fun k => topo_Parts.f k a0 l1 l2 l3 on) (Fine (lans a0) on l2) := by
  have hm : 0 ≤ mx a0 0 := by unfold mx; split <;> omega
  have hm2 : mx a0 0 ≤ 1000 := by unfold mx; split <;> omega
  obtain ⟨v, ⟨K, hK⟩, hf⟩ := parts_l0 (lans a0) on a0 l1 l2 l3 hn hL (by unfold lans; omega) _ 0 (List.replicate (lans a0) 0) (Nat.zero_add _) (List.length_replicate) (fun l h => absurd h (by omega))
  refine ⟨v, ⟨K, fun k hk => ?_⟩, hf⟩
  show topo_Parts.f k a0 l1 l2 l3 on = some v
  unfold topo_Parts.f
  rw [if_pos hm, if_pos (by omega), Option.bind_some, List.length_replicate]
  exact hK k hk

theorem Ev.mono {α : Type} {A : Nat → Option α} {v : α} (hm : ∀ k, LeO (A k) (A (k + 1))) {K : Nat} (h : A K = some v) : Ev A v := ⟨K, fun k hk => by
  obtain ⟨d, rfl⟩ : ∃ d, k = K + d := ⟨k - K, by omega⟩
  clear hk
  induction d with
  | zero => exact h
  | succ d ih => exact hm (K + d) _ ih⟩
theorem awk : Ev (fun k => treelinelaw20_awake.f k) true := Ev.mono (K := 40) treelinelaw20_awake.mono (by kernel_rfl)
theorem few_l1 (a0 : Int) (l1 : List S48) (l2 : List (List Int)) (l3 : List S59) (hn : l2.length ≤ 1000) : ∀ m (j : Nat), j + m = l2.length → (∀ t : Nat, t < j → (rd_L9 l2 (t : Int)).length ≤ 20) →
    ∃ b, Ev (fun k => treelineref20_Few.l1 k (j : Int) a0 l1 l2 l3) b ∧ (b = true → ∀ L ∈ l2, L.length ≤ 20)
  | 0, j, hj, hno => by
    refine ⟨true, Ev.now fun k => by rw [treelineref20_Few.l1, if_neg (by omega)], fun _ L hL => ?_⟩
    obtain ⟨t, ht, rfl⟩ := List.getElem_of_mem hL
    have := hno t (by omega)
    unfold rd_L9 at this
    simpa [List.getD_eq_getElem?_getD, List.getElem?_eq_getElem ht] using this
  | m + 1, j, hj, hno => by
    by_cases c : ((rd_L9 l2 (j : Int)).length : Int) > 20
    · exact ⟨false, Ev.now fun k => by rw [treelineref20_Few.l1, if_pos (by omega), if_pos (by omega), if_pos c], fun h => by cases h⟩
    · obtain ⟨b, h1, h2⟩ := few_l1 a0 l1 l2 l3 hn m (j + 1) (by omega) (fun t ht => by
        by_cases h : t = j
        · subst h; omega
        · exact hno t (by omega))
      exact ⟨b, Ev.step (fun k => by rw [treelineref20_Few.l1, if_pos (by omega), if_pos (by omega), if_neg c, psucc (by omega)]) h1, h2⟩
theorem few_l0 (a0 : Int) (l1 : List S48) (l2 : List (List Int)) (l3 : List S59) (hn : l2.length ≤ 1000) (hn1 : l1.length ≤ 1000) : ∀ m (j : Nat), j + m = l1.length →
    ∃ b, Ev (fun k => treelineref20_Few.l0 k (j : Int) a0 l1 l2 l3) b ∧ (b = true → ∀ L ∈ l2, L.length ≤ 20)
  | 0, j, hj => by
    obtain ⟨b, h1, h2⟩ := few_l1 a0 l1 l2 l3 hn l2.length 0 (Nat.zero_add _) (fun t ht => absurd ht (by omega))
    exact ⟨b, Ev.step (fun k => by rw [treelineref20_Few.l0, if_neg (by omega)]; rfl) h1, h2⟩
  | m + 1, j, hj => by
    by_cases c : (((rd_T48 l1 (j : Int)).f7).length : Int) > 20
    · exact ⟨false, Ev.now fun k => by rw [treelineref20_Few.l0, if_pos (by omega), if_pos (by omega), if_pos c], fun h => by cases h⟩
    · obtain ⟨b, h1, h2⟩ := few_l0 a0 l1 l2 l3 hn hn1 m (j + 1) (by omega)
      exact ⟨b, Ev.step (fun k => by rw [treelineref20_Few.l0, if_pos (by omega), if_pos (by omega), if_neg c, psucc (by omega)]) h1, h2⟩
theorem few (a0 : Int) (l1 : List S48) (l2 : List (List Int)) (l3 : List S59) : ∃ b, Ev (fun k => treelineref20_Few.f k a0 l1 l2 l3) b ∧ (b = true → ∀ L ∈ l2, L.length ≤ 20) := by
  have no : ∃ b, Ev (fun k => treelineref20_Few.j0 k true a0 l1 l2 l3) b ∧ (b = true → ∀ L ∈ l2, L.length ≤ 20) := ⟨false, Ev.now fun k => by rw [treelineref20_Few.j0, if_pos rfl], fun h => by cases h⟩
  by_cases c1 : a0 > 20
  · simp only [treelineref20_Few.f, if_pos c1]; exact no
  · by_cases c2 : (l1.length : Int) > 20
    · simp only [treelineref20_Few.f, if_neg c1, if_pos c2]; exact no
    · by_cases c3 : (l2.length : Int) > 20
      · simp only [treelineref20_Few.f, if_neg c1, if_neg c2, if_pos c3]; exact no
      · by_cases c4 : (l3.length : Int) > 40
        · simp only [treelineref20_Few.f, if_neg c1, if_neg c2, if_neg c3, decide_eq_true c4]; exact no
        · simp only [treelineref20_Few.f, if_neg c1, if_neg c2, if_neg c3, decide_eq_false c4]
          obtain ⟨b, h1, h2⟩ := few_l0 a0 l1 l2 l3 (by omega) (by omega) l1.length 0 (Nat.zero_add _)
          exact ⟨b, Ev.step (fun k => by rw [treelineref20_Few.j0, if_neg (by simp)]; rfl) h1, h2⟩

theorem getD_setB (P : List Bool) (i j : Nat) (v : Bool) (hi : i < P.length) : (P.set i v).getD j false = if i = j then v else P.getD j false := by
  simp only [List.getD_eq_getElem?_getD, List.getElem?_set]
  by_cases e : i = j
  · subst e
    simp [hi]
  · simp [e]
theorem on_eq (on : List (List Bool)) (b p : Nat) : treelineref20_On.f on (b : Int) (p : Int) = some (onb on b p) := is_eq on b p
/-- Few LANs at most. -/
theorem few_lans (a0 : Int) (l1 : List S48) (l2 : List (List Int)) (l3 : List S59) {K : Nat} (h : treelineref20_Few.f K a0 l1 l2 l3 = some true) : a0 ≤ 20 ∧ l2.length ≤ 20 := by
  have no : ∀ k, treelineref20_Few.j0 k true a0 l1 l2 l3 ≠ some true := fun k => by
    cases k with
    | zero => simp [treelineref20_Few.j0]
    | succ k => rw [treelineref20_Few.j0, if_pos rfl]; simp
  unfold treelineref20_Few.f at h
  by_cases c1 : a0 > 20
  · rw [if_pos c1] at h; exact absurd h (no _)
  · rw [if_neg c1] at h
    by_cases c2 : (l1.length : Int) > 20
    · rw [if_pos c2] at h; exact absurd h (no _)
    · rw [if_neg c2] at h
      by_cases c3 : (l2.length : Int) > 20
      · rw [if_pos c3] at h; exact absurd h (no _)
      · omega

/-- Floyd and Warshall's relation: ways whose inner places are below k. -/
def Fw (R : Nat → Nat → Prop) : Nat → Nat → Nat → Prop
  | 0, i, j => i = j ∨ R i j
  | k + 1, i, j => Fw R k i j ∨ (Fw R k i k ∧ Fw R k k j)
theorem Fw.comp {R : Nat → Nat → Prop} : ∀ (k i m j : Nat), m < k → Fw R k i m → Fw R k m j → Fw R k i j
  | 0, _, _, _, h, _, _ => absurd h (by omega)
  | k + 1, i, m, j, h, a, b => by
    by_cases e : m = k
    · subst e
      have a' : Fw R m i m := a.elim id And.left
      have b' : Fw R m m j := b.elim id And.right
      exact .inr ⟨a', b'⟩
    · have ih := Fw.comp (R := R) k
      rcases a with a | ⟨a1, a2⟩ <;> rcases b with b | ⟨b1, b2⟩
      · exact .inl (ih _ _ _ (by omega) a b)
      · exact .inr ⟨ih _ _ _ (by omega) a b1, b2⟩
      · exact .inr ⟨a1, ih _ _ _ (by omega) a2 b⟩
      · exact .inr ⟨a1, b2⟩
theorem Fw.base {R : Nat → Nat → Prop} {i j : Nat} (h : Fw R 0 i j) : ∀ k, Fw R k i j
  | 0 => h
  | k + 1 => .inl (Fw.base h k)
theorem Fw.all {R : Nat → Nat → Prop} {n : Nat} (hR : ∀ x y, R x y → x < n ∧ y < n) {x y : Nat} (h : Jn R x y) : Fw R n x y := by
  induction h with
  | refl => exact Fw.base (.inl rfl) n
  | step r _ ih => exact Fw.comp n _ _ _ (hR _ _ r).2 (Fw.base (.inr r) n) ih
def atM (M : List (List Bool)) (i j : Nat) : Bool := (M.getD i []).getD j false
structure Mx (n : Nat) (M : List (List Bool)) : Prop where
  len : M.length = n
  row : ∀ i, i < n → (M.getD i []).length = n
theorem getD_setM (M : List (List Bool)) (i j : Nat) (v : List Bool) (hi : i < M.length) : (M.set i v).getD j [] = if i = j then v else M.getD j [] := by
  simp only [List.getD_eq_getElem?_getD, List.getElem?_set]
  by_cases e : i = j
  · subst e
    simp [hi]
  · simp [e]
def putM (M : List (List Bool)) (i j : Nat) (v : Bool) : List (List Bool) := M.set i ((M.getD i []).set j v)
theorem Mx.put {n : Nat} {M : List (List Bool)} (h : Mx n M) {i j : Nat} (hi : i < n) (v : Bool) : Mx n (putM M i j v) := by
  refine ⟨by unfold putM; rw [List.length_set]; exact h.len, fun x hx => ?_⟩
  unfold putM
  rw [getD_setM _ _ _ _ (by rw [h.len]; exact hi)]
  by_cases e : i = x
  · rw [if_pos e, List.length_set]; exact h.row i hi
  · rw [if_neg e]; exact h.row x hx
theorem Mx.at_put {n : Nat} {M : List (List Bool)} (h : Mx n M) {i j : Nat} (hi : i < n) (hj : j < n) (v : Bool) (x y : Nat) : atM (putM M i j v) x y = if i = x ∧ j = y then v else atM M x y := by
  unfold atM putM
  rw [getD_setM _ _ _ _ (by rw [h.len]; exact hi)]
  by_cases e : i = x
  · subst e
    rw [if_pos rfl, getD_setB _ _ _ _ (by rw [h.row i hi]; exact hj)]
    by_cases e2 : j = y
    · rw [if_pos e2, if_pos ⟨rfl, e2⟩]
    · rw [if_neg e2, if_neg (fun q => e2 q.2)]
  · rw [if_neg e, if_neg (fun q => e q.1)]
/-- A matrix that is sound, and true at each LAN itself. -/
structure Jm (n : Nat) (on : List (List Bool)) (l2 : List (List Int)) (M : List (List Bool)) : Prop where
  mx : Mx n M
  sound : ∀ i j, i < n → j < n → atM M i j = true → Jn (Nb n on l2) i j
  self : ∀ i, i < n → atM M i i = true
def LeM (M M' : List (List Bool)) : Prop := ∀ i j, atM M i j = true → atM M' i j = true
theorem LeM.refl (M : List (List Bool)) : LeM M M := fun _ _ h => h
theorem LeM.trans {A B C : List (List Bool)} (h : LeM A B) (k : LeM B C) : LeM A C := fun i j q => k i j (h i j q)
theorem Jm.put {n : Nat} {on : List (List Bool)} {l2 : List (List Int)} {M : List (List Bool)} (h : Jm n on l2 M) {i j : Nat} (hi : i < n) (hj : j < n) (v : Bool) (hv : v = true → Jn (Nb n on l2) i j) (hk : atM M i j = true → v = true) : Jm n on l2 (putM M i j v) ∧ LeM M (putM M i j v) ∧ (v = true → atM (putM M i j v) i j = true) := by
  have ha := h.mx.at_put hi hj v
  refine ⟨⟨h.mx.put hi v, fun x y hx hy q => ?_, fun x hx => ?_⟩, fun x y q => ?_, fun q => ?_⟩
  · rw [ha] at q
    by_cases e : i = x ∧ j = y
    · obtain ⟨rfl, rfl⟩ := e
      rw [if_pos ⟨rfl, rfl⟩] at q
      exact hv q
    · rw [if_neg e] at q
      exact h.sound x y hx hy q
  · rw [ha]
    by_cases e : i = x ∧ j = x
    · obtain ⟨rfl, rfl⟩ := e
      rw [if_pos ⟨rfl, rfl⟩]
      exact hk (h.self _ hi)
    · rw [if_neg e]; exact h.self x hx
  · rw [ha]
    by_cases e : i = x ∧ j = y
    · obtain ⟨rfl, rfl⟩ := e
      rw [if_pos ⟨rfl, rfl⟩]
      exact hk q
    · rw [if_neg e]; exact q
  · rw [ha, if_pos ⟨rfl, rfl⟩, q]
theorem rdL11 (M : List (List Bool)) (i : Nat) : rd_L11 M (i : Int) = M.getD i [] := by unfold rd_L11; rw [Int.toNat_natCast]
theorem rdAt (M : List (List Bool)) (i j : Nat) : rdOf false (M.getD i []) (j : Int) = atM M i j := by unfold rdOf atM; rw [Int.toNat_natCast]
theorem rdOfM (xs : List Bool) (j : Nat) : rdOf false xs (j : Int) = xs.getD j false := by unfold rdOf; rw [Int.toNat_natCast]
section
variable (n : Nat) (on : List (List Bool)) (l2 : List (List Int))
/-- One row's round of Floyd and Warshall. -/
theorem j_l6 (hnn : n ≤ 1000) (Φ : List (List Bool) → Prop) (M : List (List Bool)) (k i : Nat) (hk : k < n) (hi : i < n)
    (hq : ∀ M', Jm n on l2 M' → LeM M M' → (∀ c, c < n → atM M i k = true → atM M k c = true → atM M' i c = true) → EvP (fun f => treelineref20_Joined.l5 f (n : Int) M' (k : Int) ((i + 1 : Nat) : Int)) Φ) :
    ∀ m (j : Nat) (M1 : List (List Bool)), j + m = n → Jm n on l2 M1 → LeM M M1 → (∀ c, c < j → atM M i k = true → atM M k c = true → atM M1 i c = true) → EvP (fun f => treelineref20_Joined.l6 f (n : Int) M1 (k : Int) (i : Int) (j : Int)) Φ
  | 0, j, M1, hj, h1, h2, h3 => by
    obtain rfl : j = n := by omega
    refine EvP.step (fun f => ?_) (hq M1 h1 h2 h3)
    rw [treelineref20_Joined.l6, if_neg (by omega), psucc (by omega)]
  | m + 1, j, M1, hj, h1, h2, h3 => by
    have hl := h1.mx.len
    have hr := h1.mx.row i hi
    have hr2 := h1.mx.row k hk
    have ih := fun (v : Bool) (hv : v = true → Jn (Nb n on l2) i j) (hkk : atM M1 i j = true → v = true) (hm : atM M i k = true → atM M k j = true → v = true) => by
      obtain ⟨p1, p2, p3⟩ := h1.put hi (show j < n by omega) v hv hkk
      exact j_l6 hnn Φ M k i hk hi hq m (j + 1) (putM M1 i j v) (by omega) p1 (h2.trans p2) (fun c hc q1 q2 => by
        by_cases e : c = j
        · subst e; exact p3 (hm q1 q2)
        · exact p2 _ _ (h3 c (by omega) q1 q2))
    by_cases c1 : atM M1 i j = true
    · refine EvP.step (fun f => ?_) (ih true (fun _ => h1.sound i j hi (by omega) c1) (fun _ => rfl) (fun _ _ => rfl))
      rw [treelineref20_Joined.l6, if_pos (by omega), if_pos (by omega), if_pos (by omega), if_pos (by omega), rdL11, if_pos (by omega), rdAt, if_pos c1, psucc (by omega), Int.toNat_natCast, Int.toNat_natCast]
      rfl
    · by_cases c2 : atM M1 i k = true
      · refine EvP.step (fun f => ?_) (ih (atM M1 k j) (fun q => (h1.sound i k hi hk c2).trans (h1.sound k j hk (by omega) q)) (fun q => absurd q c1) (fun _ q => h2 _ _ q))
        rw [treelineref20_Joined.l6, if_pos (by omega), if_pos (by omega), if_pos (by omega), if_pos (by omega), rdL11, if_pos (by omega), rdAt, if_neg c1, if_pos (by omega), if_pos (by omega), rdAt, if_pos c2, if_pos (by omega), rdL11, if_pos (by omega), rdAt, psucc (by omega), Int.toNat_natCast, Int.toNat_natCast]
        rfl
      · refine EvP.step (fun f => ?_) (ih false (fun q => by cases q) (fun q => absurd q c1) (fun q _ => absurd (h2 _ _ q) c2))
        rw [treelineref20_Joined.l6, if_pos (by omega), if_pos (by omega), if_pos (by omega), if_pos (by omega), rdL11, if_pos (by omega), rdAt, if_neg c1, if_pos (by omega), if_pos (by omega), rdAt, if_neg c2, psucc (by omega), Int.toNat_natCast, Int.toNat_natCast]
        rfl
theorem j_l5 (hnn : n ≤ 1000) (Φ : List (List Bool) → Prop) (M : List (List Bool)) (k : Nat) (hk : k < n)
    (hq : ∀ M', Jm n on l2 M' → LeM M M' → (∀ i c, i < n → c < n → atM M i k = true → atM M k c = true → atM M' i c = true) → EvP (fun f => treelineref20_Joined.l4 f (n : Int) M' ((k + 1 : Nat) : Int)) Φ) :
    ∀ m (i : Nat) (M1 : List (List Bool)), i + m = n → Jm n on l2 M1 → LeM M M1 → (∀ x c, x < i → c < n → atM M x k = true → atM M k c = true → atM M1 x c = true) → EvP (fun f => treelineref20_Joined.l5 f (n : Int) M1 (k : Int) (i : Int)) Φ
  | 0, i, M1, hi, h1, h2, h3 => by
    obtain rfl : i = n := by omega
    refine EvP.step (fun f => ?_) (hq M1 h1 h2 h3)
    rw [treelineref20_Joined.l5, if_neg (by omega), psucc (by omega)]
  | m + 1, i, M1, hi, h1, h2, h3 => by
    refine EvP.step (fun f => ?_) (j_l6 n on l2 hnn Φ M1 k i hk (by omega) (fun M' g1 g2 g3 => j_l5 hnn Φ M k hk hq m (i + 1) M' (by omega) g1 (h2.trans g2) (fun x c hx hc q1 q2 => ?_)) n 0 M1 (Nat.zero_add _) h1 (LeM.refl _) (fun c hc => absurd hc (by omega)))
    · rw [treelineref20_Joined.l5, if_pos (by omega)]
      rfl
    · by_cases e : x = i
      · subst e; exact g3 c hc (h2 _ _ q1) (h2 _ _ q2)
      · exact g2 _ _ (h3 x c (by omega) hc q1 q2)
/-- What the document's matrix is in the end. -/
def Whole (M : List (List Bool)) : Prop := Mx n M ∧ ∀ i j, i < n → j < n → (atM M i j = true ↔ Jn (Nb n on l2) i j)
theorem j_l4 (hnn : n ≤ 1000) : ∀ m (k : Nat) (M : List (List Bool)), k + m = n → Jm n on l2 M → (∀ i j, i < n → j < n → Fw (Nb n on l2) k i j → atM M i j = true) → EvP (fun f => treelineref20_Joined.l4 f (n : Int) M (k : Int)) (Whole n on l2)
  | 0, k, M, hk, h1, h2 => by
    obtain rfl : k = n := by omega
    refine EvP.now (v := M) (fun f => ?_) ⟨h1.mx, fun i j hi hj => ⟨h1.sound i j hi hj, fun q => h2 i j hi hj (Fw.all (fun x y r => ?_) q)⟩⟩
    · rw [treelineref20_Joined.l4, if_neg (by omega)]
    · obtain ⟨b, p, q, _, _, _, _, _, _, _, h8, h9⟩ := r
      exact ⟨h8, h9⟩
  | m + 1, k, M, hk, h1, h2 => by
    refine EvP.step (fun f => ?_) (j_l5 n on l2 hnn _ M k (by omega) (fun M' g1 g2 g3 => j_l4 hnn m (k + 1) M' (by omega) g1 (fun i j hi hj q => ?_)) n 0 M (Nat.zero_add _) h1 (LeM.refl _) (fun x c hx => absurd hx (by omega)))
    · rw [treelineref20_Joined.l4, if_pos (by omega)]
      rfl
    · rcases q with q | ⟨q1, q2⟩
      · exact g2 _ _ (h2 i j hi hj q)
      · exact g3 i j hi hj (h2 i k hi (by omega) q1) (h2 k j (by omega) hj q2)
variable (a0 : Int) (l1 : List S48) (l3 : List S59)
/-- Two ports of one bridge, both of them on. -/
def Edge (b p q : Nat) : Prop := onb on b p = true ∧ onb on b q = true ∧ 0 ≤ (l2.getD b []).getD p 0 ∧ (l2.getD b []).getD p 0 < (n : Int) ∧ 0 ≤ (l2.getD b []).getD q 0 ∧ (l2.getD b []).getD q 0 < (n : Int)
def mark (M : List (List Bool)) (b p q : Nat) : Prop := Edge n on l2 b p q → atM M ((l2.getD b []).getD p 0).toNat ((l2.getD b []).getD q 0).toNat = true
theorem j_l3 (hn : l2.length ≤ 1000) (Φ : List (List Bool) → Prop) (M : List (List Bool)) (b p : Nat) (hb : b < l2.length) (L : List Int) (hL : l2.getD b [] = L) (hLl : L.length ≤ 1000) (hp : p < L.length)
    (hq : ∀ M', Jm n on l2 M' → LeM M M' → (∀ q, q < L.length → mark n on l2 M' b p q) → EvP (fun f => treelineref20_Joined.l2 f on (n : Int) M' (b : Int) ((p + 1 : Nat) : Int) a0 l1 l2 l3) Φ) :
    ∀ m (j : Nat) (M1 : List (List Bool)), j + m = L.length → Jm n on l2 M1 → LeM M M1 → (∀ q, q < j → mark n on l2 M1 b p q) → EvP (fun f => treelineref20_Joined.l3 f on (n : Int) M1 (b : Int) (p : Int) (j : Int) a0 l1 l2 l3) Φ
  | 0, j, M1, hj, h1, h2, h3 => by
    obtain rfl : j = L.length := by omega
    have hrow : rd_L9 l2 (b : Int) = L := by unfold rd_L9; rw [Int.toNat_natCast]; exact hL
    refine EvP.step (fun f => ?_) (hq M1 h1 h2 h3)
    rw [treelineref20_Joined.l3, if_pos (by omega), if_pos (by omega), hrow, if_neg (by omega), psucc (by omega)]
  | m + 1, j, M1, hj, h1, h2, h3 => by
    have hrow : rd_L9 l2 (b : Int) = L := by unfold rd_L9; rw [Int.toNat_natCast]; exact hL
    have hml := h1.mx.len
    have ih := j_l3 hn Φ M b p hb L hL hLl hp hq m (j + 1)
    have skip : ¬ Edge n on l2 b p j → EvP (fun f => treelineref20_Joined.l3 f on (n : Int) M1 (b : Int) (p : Int) ((j + 1 : Nat) : Int) a0 l1 l2 l3) Φ := fun hne =>
      ih M1 (by omega) h1 h2 (fun q hq' => by
        by_cases e : q = j
        · subst e; exact fun he => absurd he hne
        · exact h3 q (by omega))
    by_cases c1 : onb on b p = true
    · by_cases c2 : onb on b j = true
      · by_cases c3 : L.getD p 0 ≥ 0
        · by_cases c4 : L.getD p 0 < (n : Int)
          · by_cases c5 : L.getD j 0 ≥ 0
            · by_cases c6 : L.getD j 0 < (n : Int)
              · obtain ⟨x, hx⟩ := Int.eq_ofNat_of_zero_le c3
                obtain ⟨y, hy⟩ := Int.eq_ofNat_of_zero_le c5
                have hx' : L.getD p 0 = (x : Int) := hx
                have hy' : L.getD j 0 = (y : Int) := hy
                have hxn : x < n := by omega
                have hyn : y < n := by omega
                have hmr := h1.mx.row x hxn
                have hnb : Nb n on l2 x y := ⟨b, p, j, hb, by rw [hL]; omega, by rw [hL]; omega, c1, c2, by rw [hL]; exact hx', by rw [hL]; exact hy', hxn, hyn⟩
                obtain ⟨p1, p2, p3⟩ := h1.put hxn hyn true (fun _ => .step hnb (.refl _)) (fun _ => rfl)
                refine EvP.step (fun f => ?_) (ih (putM M1 x y true) (by omega) p1 (h2.trans p2) (fun q hq' => ?_))
                · rw [treelineref20_Joined.l3, if_pos (by omega), if_pos (by omega), hrow, if_pos (by omega), if_pos (by omega), if_pos (by omega), if_pos (by omega), on_eq, Option.bind_some, if_pos c1, on_eq, Option.bind_some, if_pos c2, rdn, rdn, if_pos c3, if_pos c4, if_pos c5, if_pos c6, if_pos c3, if_pos (by omega), if_pos c5, hx', rdL11, if_pos (by omega), hy', psucc (by omega), Int.toNat_natCast, Int.toNat_natCast]
                  rfl
                · by_cases e : q = j
                  · subst e
                    intro _
                    rw [hL, hx', hy', Int.toNat_natCast, Int.toNat_natCast]
                    exact p3 rfl
                  · intro he
                    exact p2 _ _ (h3 q (by omega) he)
              · refine EvP.step (fun f => ?_) (skip fun e => c6 (by have := e.2.2.2.2.2; rw [hL] at this; exact this))
                rw [treelineref20_Joined.l3, if_pos (by omega), if_pos (by omega), hrow, if_pos (by omega), if_pos (by omega), if_pos (by omega), if_pos (by omega), on_eq, Option.bind_some, if_pos c1, on_eq, Option.bind_some, if_pos c2, rdn, rdn, if_pos c3, if_pos c4, if_pos c5, if_neg c6, psucc (by omega)]
            · refine EvP.step (fun f => ?_) (skip fun e => c5 (by have := e.2.2.2.2.1; rw [hL] at this; exact this))
              rw [treelineref20_Joined.l3, if_pos (by omega), if_pos (by omega), hrow, if_pos (by omega), if_pos (by omega), if_pos (by omega), if_pos (by omega), on_eq, Option.bind_some, if_pos c1, on_eq, Option.bind_some, if_pos c2, rdn, rdn, if_pos c3, if_pos c4, if_neg c5, psucc (by omega)]
          · refine EvP.step (fun f => ?_) (skip fun e => c4 (by have := e.2.2.2.1; rw [hL] at this; exact this))
            rw [treelineref20_Joined.l3, if_pos (by omega), if_pos (by omega), hrow, if_pos (by omega), if_pos (by omega), if_pos (by omega), if_pos (by omega), on_eq, Option.bind_some, if_pos c1, on_eq, Option.bind_some, if_pos c2, rdn, rdn, if_pos c3, if_neg c4, psucc (by omega)]
        · refine EvP.step (fun f => ?_) (skip fun e => c3 (by have := e.2.2.1; rw [hL] at this; exact this))
          rw [treelineref20_Joined.l3, if_pos (by omega), if_pos (by omega), hrow, if_pos (by omega), if_pos (by omega), if_pos (by omega), if_pos (by omega), on_eq, Option.bind_some, if_pos c1, on_eq, Option.bind_some, if_pos c2, rdn, rdn, if_neg c3, psucc (by omega)]
      · refine EvP.step (fun f => ?_) (skip fun e => c2 e.2.1)
        rw [treelineref20_Joined.l3, if_pos (by omega), if_pos (by omega), hrow, if_pos (by omega), if_pos (by omega), if_pos (by omega), if_pos (by omega), on_eq, Option.bind_some, if_pos c1, on_eq, Option.bind_some, if_neg c2, psucc (by omega)]
    · refine EvP.step (fun f => ?_) (skip fun e => c1 e.1)
      rw [treelineref20_Joined.l3, if_pos (by omega), if_pos (by omega), hrow, if_pos (by omega), if_pos (by omega), if_pos (by omega), if_pos (by omega), on_eq, Option.bind_some, if_neg c1, psucc (by omega)]
theorem j_l2 (hn : l2.length ≤ 1000) (Φ : List (List Bool) → Prop) (M : List (List Bool)) (b : Nat) (hb : b < l2.length) (L : List Int) (hL : l2.getD b [] = L) (hLl : L.length ≤ 1000)
    (hq : ∀ M', Jm n on l2 M' → LeM M M' → (∀ p q, p < L.length → q < L.length → mark n on l2 M' b p q) → EvP (fun f => treelineref20_Joined.l1 f on (n : Int) M' ((b + 1 : Nat) : Int) a0 l1 l2 l3) Φ) :
    ∀ m (p : Nat) (M1 : List (List Bool)), p + m = L.length → Jm n on l2 M1 → LeM M M1 → (∀ x q, x < p → q < L.length → mark n on l2 M1 b x q) → EvP (fun f => treelineref20_Joined.l2 f on (n : Int) M1 (b : Int) (p : Int) a0 l1 l2 l3) Φ
  | 0, p, M1, hp, h1, h2, h3 => by
    obtain rfl : p = L.length := by omega
    have hrow : rd_L9 l2 (b : Int) = L := by unfold rd_L9; rw [Int.toNat_natCast]; exact hL
    refine EvP.step (fun f => ?_) (hq M1 h1 h2 h3)
    rw [treelineref20_Joined.l2, if_pos (by omega), if_pos (by omega), hrow, if_neg (by omega), psucc (by omega)]
  | m + 1, p, M1, hp, h1, h2, h3 => by
    have hrow : rd_L9 l2 (b : Int) = L := by unfold rd_L9; rw [Int.toNat_natCast]; exact hL
    refine EvP.step (fun f => ?_) (j_l3 n on l2 a0 l1 l3 hn Φ M1 b p hb L hL hLl (by omega) (fun M' g1 g2 g3 => j_l2 hn Φ M b hb L hL hLl hq m (p + 1) M' (by omega) g1 (h2.trans g2) (fun x q hx hq' => ?_)) _ 0 M1 (Nat.zero_add _) h1 (LeM.refl _) (fun q hq' => absurd hq' (by omega)))
    · rw [treelineref20_Joined.l2, if_pos (by omega), if_pos (by omega), hrow, if_pos (by omega)]
      rfl
    · by_cases e : x = p
      · subst e; exact g3 q hq'
      · exact fun he => g2 _ _ (h3 x q (by omega) hq' he)
theorem j_l1 (hnn : n ≤ 1000) (hn : l2.length ≤ 1000) (hL : ∀ L ∈ l2, L.length ≤ 1000) :
    ∀ m (b : Nat) (M : List (List Bool)), b + m = l2.length → Jm n on l2 M → (∀ x p q, x < b → p < (l2.getD x []).length → q < (l2.getD x []).length → mark n on l2 M x p q) → EvP (fun f => treelineref20_Joined.l1 f on (n : Int) M (b : Int) a0 l1 l2 l3) (Whole n on l2)
  | 0, b, M, hb, h1, h2 => by
    obtain rfl : b = l2.length := by omega
    refine EvP.step (fun f => ?_) (j_l4 n on l2 hnn _ 0 M (Nat.zero_add _) h1 (fun i j hi hj q => ?_))
    · rw [treelineref20_Joined.l1, if_neg (by omega)]
      rfl
    · rcases q with rfl | ⟨b, p, q, g1, g2, g3, g4, g5, g6, g7, g8, g9⟩
      · exact h1.self _ hi
      · have := h2 b p q g1 g2 g3 ⟨g4, g5, by omega, by omega, by omega, by omega⟩
        rw [g6, g7, Int.toNat_natCast, Int.toNat_natCast] at this
        exact this
  | m + 1, b, M, hb, h1, h2 => by
    have hm : l2.getD b [] ∈ l2 := by
      rw [List.getD_eq_getElem?_getD, List.getElem?_eq_getElem (show b < l2.length by omega)]
      exact List.getElem_mem _
    refine EvP.step (fun f => ?_) (j_l2 n on l2 a0 l1 l3 hn _ M b (by omega) _ rfl (hL _ hm) (fun M' g1 g2 g3 => j_l1 hnn hn hL m (b + 1) M' (by omega) g1 (fun x p q hx hp hq => ?_)) _ 0 M (Nat.zero_add _) h1 (LeM.refl _) (fun x q hx => absurd hx (by omega)))
    · rw [treelineref20_Joined.l1, if_pos (by omega)]
      rfl
    · by_cases e : x = b
      · subst e; exact g3 p q hp hq
      · exact fun he => g2 _ _ (h2 x p q (by omega) hp hq he)
theorem j_l0 (hnn : n ≤ 1000) (hn : l2.length ≤ 1000) (hL : ∀ L ∈ l2, L.length ≤ 1000) :
    ∀ m (i : Nat) (M : List (List Bool)), i + m = n → M.length = i → (∀ x, x < i → (M.getD x []).length = n ∧ ∀ y, ((M.getD x []).getD y false = true ↔ (y = x))) → EvP (fun f => treelineref20_Joined.l0 f on (n : Int) M (i : Int) a0 l1 l2 l3) (Whole n on l2)
  | 0, i, M, hi, h1, h2 => by
    obtain rfl : i = n := by omega
    refine EvP.step (fun f => ?_) (j_l1 i on l2 a0 l1 l3 hnn hn hL _ 0 M (Nat.zero_add _) ⟨⟨h1, fun x hx => (h2 x hx).1⟩, fun x y hx hy q => ?_, fun x hx => ((h2 x hx).2 x).2 rfl⟩ (fun x p q hx => absurd hx (by omega)))
    · rw [treelineref20_Joined.l0, if_neg (by omega)]
      rfl
    · have := ((h2 x hx).2 y).1 q
      subst this
      exact .refl _
  | m + 1, i, M, hi, h1, h2 => by
    refine EvP.step (fun f => ?_) (j_l0 hnn hn hL m (i + 1) (M ++ [(List.replicate n false).set i true]) (by omega) (by simp [h1]) (fun x hx => ?_))
    · rw [treelineref20_Joined.l0, if_pos (by omega), if_pos (by omega), if_pos (by omega), Option.bind_some, if_pos (by omega), if_pos (by rw [List.length_replicate]; omega), if_pos (by omega), psucc (by omega), Int.toNat_natCast, Int.toNat_natCast]
    · by_cases e : x = i
      · subst e
        have : (M ++ [(List.replicate n false).set x true]).getD x [] = (List.replicate n false).set x true := by
          rw [List.getD_eq_getElem?_getD, List.getElem?_append_right (by omega), h1]
          simp
        rw [this]
        refine ⟨by simp, fun y => ?_⟩
        rw [getD_setB _ _ _ _ (by rw [List.length_replicate]; omega)]
        by_cases e : x = y
        · subst e; simp
        · rw [if_neg e]
          constructor
          · intro q
            rw [List.getD_eq_getElem?_getD] at q
            by_cases hy : y < n
            · simp [List.getElem?_replicate, hy] at q
            · simp [List.getElem?_replicate, hy] at q
          · intro q; exact absurd q.symm e
      · have : (M ++ [(List.replicate n false).set i true]).getD x [] = M.getD x [] := by
          rw [List.getD_eq_getElem?_getD, List.getD_eq_getElem?_getD, List.getElem?_append_left (by omega)]
        rw [this]
        exact h2 x (by omega)
end
theorem joined_ok (on : List (List Bool)) (a0 : Int) (l1 : List S48) (l2 : List (List Int)) (l3 : List S59) (h0 : a0 ≤ 1000) (hn : l2.length ≤ 1000) (hL : ∀ L ∈ l2, L.length ≤ 1000) : EvP (fun k => treelineref20_Joined.f k a0 l1 l2 l3 on) (Whole (lans a0) on l2) := by
  have hm : 0 ≤ mx a0 0 := by unfold mx; split <;> omega
  have hm2 : mx a0 0 ≤ 1000 := by unfold mx; split <;> omega
  have he : ((lans a0 : Nat) : Int) = mx a0 0 := by unfold lans; omega
  obtain ⟨v, ⟨K, hK⟩, hf⟩ := j_l0 (lans a0) on l2 a0 l1 l3 (by omega) hn hL _ 0 [] (Nat.zero_add _) rfl (fun x hx => absurd hx (by omega))
  refine ⟨v, ⟨K, fun k hk => ?_⟩, hf⟩
  show treelineref20_Joined.f k a0 l1 l2 l3 on = some v
  unfold treelineref20_Joined.f
  rw [← he]
  exact hK k hk

section
variable (n : Nat) (on : List (List Bool)) (a0 : Int) (l1 : List S48) (l2 : List (List Int)) (l3 : List S59) (P : List Int) (M : List (List Bool))
/-- The least LAN that the matrix joins is the part. -/
theorem law_l1 (hnn : n ≤ 1000) (hP : Fine n on l2 P) (hM : Whole n on l2 M) (Φ : Bool → Prop) (l : Nat) (hl : l < n) (all : Bool)
    (hq : EvP (fun k => treelinelaw20_TopoParts.l0 k on P M (if all = true then (P.getD l 0 == 0) else false) ((l + 1 : Nat) : Int) a0 l1 l2 l3) Φ) :
    ∀ (c : Nat) (v : Nat), c ≤ n → P.getD l 0 ≤ (v : Int) → (v = l ∨ Jn (Nb n on l2) l v) → v < n → (∀ y, c ≤ y → y < n → Jn (Nb n on l2) l y → v ≤ y) → EvP (fun k => treelinelaw20_TopoParts.l1 k on P M all (l : Int) (v : Int) ((c : Int) - 1) a0 l1 l2 l3) Φ
  | 0, v, hc, h1, h2, h3, h4 => by
    obtain ⟨m, g1, g2, g3⟩ := hP.good.val l hl
    have := h4 m (Nat.zero_le _) (by omega) g3
    have hv : P.getD l 0 = (v : Int) := by omega
    have hpl := hP.good.len
    have hml := hM.1.len
    cases all
    · refine EvP.step (fun k => ?_) hq
      rw [treelinelaw20_TopoParts.l1, if_neg (by omega), if_pos (by omega), if_pos (by omega), rdn, if_pos hv, if_neg (by simp), psucc (by omega)]
      rfl
    · refine EvP.step (fun k => ?_) hq
      rw [treelinelaw20_TopoParts.l1, if_neg (by omega), if_pos (by omega), if_pos (by omega), rdn, if_pos hv, if_pos rfl, psucc (by omega), hv]
      rfl
  | c + 1, v, hc, h1, h2, h3, h4 => by
    have hml := hM.1.len
    have hmr := hM.1.row l hl
    have ih := law_l1 hnn hP hM Φ l hl all hq c
    have hx : (((c + 1 : Nat) : Int) - 1) = (c : Int) := by omega
    have hm := hM.2 l c hl (by omega)
    by_cases c1 : atM M l c = true
    · have hj := hm.1 c1
      by_cases c2 : c < v
      · refine EvP.step (fun k => ?_) (ih c (by omega) ?_ (.inr hj) (by omega) (fun y hy hyn hjy => hy))
        · rw [treelinelaw20_TopoParts.l1, if_pos (by omega), if_pos (by omega), if_pos (by omega), if_pos (by omega), hx, rdL11, if_pos (by omega), rdAt, if_pos c1, if_pos (by omega), w64 (by omega) (by omega)]
        · obtain ⟨m, g1, g2, g3⟩ := hP.good.val c (by omega)
          have := hP.same hj
          omega
      · refine EvP.step (fun k => ?_) (ih v (by omega) h1 h2 h3 (fun y hy hyn hjy => ?_))
        · rw [treelinelaw20_TopoParts.l1, if_pos (by omega), if_pos (by omega), if_pos (by omega), if_pos (by omega), hx, rdL11, if_pos (by omega), rdAt, if_pos c1, if_neg (by omega), w64 (by omega) (by omega)]
        · by_cases e : y = c
          · subst e; omega
          · exact h4 y (by omega) hyn hjy
    · refine EvP.step (fun k => ?_) (ih v (by omega) h1 h2 h3 (fun y hy hyn hjy => ?_))
      · rw [treelinelaw20_TopoParts.l1, if_pos (by omega), if_pos (by omega), if_pos (by omega), if_pos (by omega), hx, rdL11, if_pos (by omega), rdAt, if_neg c1, w64 (by omega) (by omega)]
      · by_cases e : y = c
        · subst e; exact absurd (hm.2 hjy) c1
        · exact h4 y (by omega) hyn hjy
end
theorem joined_l0 (P : List Int) (hn : P.length ≤ 1000) : ∀ m (j : Nat), j + m = P.length → (∀ y, y < j → P.getD y 0 = 0) → EvP (fun k => topo_Joined.l0 k P (P.length : Int) (j : Int)) (fun r => r = true ↔ ∀ y, y < P.length → P.getD y 0 = 0)
  | 0, j, hj, h => by
    obtain rfl : j = P.length := by omega
    refine EvP.now (v := true) (fun k => ?_) ⟨fun _ => h, fun _ => rfl⟩
    rw [topo_Joined.l0, if_neg (by omega)]
  | m + 1, j, hj, h => by
    by_cases c : P.getD j 0 = 0
    · refine EvP.step (fun k => ?_) (joined_l0 P hn m (j + 1) (by omega) (fun y hy => ?_))
      · rw [topo_Joined.l0, if_pos (by omega), if_pos (by omega), if_pos (by omega), rdn, if_pos c, psucc (by omega)]
      · by_cases e : y = j
        · subst e; exact c
        · exact h y (by omega)
    · refine EvP.now (v := false) (fun k => ?_) ⟨fun q => (by cases q), fun q => absurd (q j (by omega)) c⟩
      rw [topo_Joined.l0, if_pos (by omega), if_pos (by omega), if_pos (by omega), rdn, if_neg c]
theorem law_l0 (n : Nat) (on : List (List Bool)) (a0 : Int) (l1 : List S48) (l2 : List (List Int)) (l3 : List S59) (P : List Int) (M : List (List Bool)) (hnn : n ≤ 1000) (hP : Fine n on l2 P) (hM : Whole n on l2 M) (eP : Ev (fun k => topo_Parts.f k a0 l1 l2 l3 on) P) :
    ∀ m (l : Nat) (all : Bool), l + m = n → (all = true ↔ ∀ y, y < l → P.getD y 0 = 0) → EvP (fun k => treelinelaw20_TopoParts.l0 k on P M all (l : Int) a0 l1 l2 l3) (· = true)
  | 0, l, all, hl, ha => by
    obtain rfl : l = n := by omega
    have hpl := hP.good.len
    obtain ⟨r, er, hr⟩ := joined_l0 P (by omega) _ 0 (Nat.zero_add _) (fun y hy => absurd hy (by omega))
    have e : (r == all) = true := by
      rw [hpl] at hr
      have : (r = true) ↔ (all = true) := hr.trans ha.symm
      cases r <;> cases all <;> simp_all
    refine ⟨true, Ev.bind (g := fun r' k => some (r' == all)) (fun k => ?_) (Ev.bind0 (g := fun P k => topo_Joined.l0 k P (P.length : Int) 0) (fun k => rfl) eP er) ⟨0, fun k _ => by rw [e]⟩, rfl⟩
    rw [treelinelaw20_TopoParts.l0, if_neg (by omega)]
    rfl
  | m + 1, l, all, hl, ha => by
    have hpl := hP.good.len
    obtain ⟨q, g1, g2, g3⟩ := hP.good.val l (by omega)
    refine EvP.step (fun k => ?_) (law_l1 n on a0 l1 l2 l3 P M hnn hP hM _ l (by omega) all (law_l0 n on a0 l1 l2 l3 P M hnn hP hM eP m (l + 1) _ (by omega) ?_) n l (Nat.le_refl _) (by omega) (.inl rfl) (by omega) (fun y hy hyn => absurd hyn (by omega)))
    · rw [treelinelaw20_TopoParts.l0, if_pos (by omega), w64 (by omega) (by omega), hpl]
    · cases all
      · simp only [Bool.false_eq_true, if_false, false_iff]
        intro h
        have : ∀ y, y < l → P.getD y 0 = 0 := fun y hy => h y (by omega)
        exact absurd (ha.2 this) (by simp)
      · rw [if_pos rfl]
        have h0 := ha.1 rfl
        constructor
        · intro e y hy
          by_cases c : y = l
          · subst c; simpa using e
          · exact h0 y (by omega)
        · intro h
          rw [h l (by omega)]
          rfl
theorem topoParts (a0 : Int) (l1 : List S48) (l2 : List (List Int)) (l3 : List S59) (on : List (List Bool)) : ∃ k, treelinelaw20_TopoParts.f k a0 l1 l2 l3 on = some true := by
  obtain ⟨b, ⟨K1, h1⟩, hL⟩ := few a0 l1 l2 l3
  obtain ⟨K0, h0⟩ := awk
  dsimp only at h0 h1
  have wake : ∃ k, ∀ j, k ≤ j → treelinelaw20_TopoParts.j0 j on true a0 l1 l2 l3 = some true := ⟨K0 + 1, fun j hj => by
    obtain ⟨j, rfl⟩ : ∃ m, j = m + 1 := ⟨j - 1, by omega⟩
    rw [treelinelaw20_TopoParts.j0, if_pos rfl, h0 _ (by omega)]
    rfl⟩
  obtain ⟨K2, h2⟩ := wake
  cases hb : b
  · refine ⟨K0 + K1 + K2 + 1, ?_⟩
    unfold treelinelaw20_TopoParts.f
    rw [h0 _ (by omega), Option.bind_some, if_pos rfl, h1 _ (by omega), Option.bind_some, hb, if_neg (by simp), h2 _ (by omega)]
  · obtain ⟨f1, f2⟩ := few_lans a0 l1 l2 l3 ((h1 K1 (Nat.le_refl _)).trans (by rw [hb]))
    have hLL : ∀ L ∈ l2, L.length ≤ 1000 := fun L h => by have := hL hb L h; omega
    by_cases c1 : (on.length : Int) > 100
    · refine ⟨K0 + K1 + K2 + 1, ?_⟩
      unfold treelinelaw20_TopoParts.f
      rw [h0 _ (by omega), Option.bind_some, if_pos rfl, h1 _ (by omega), Option.bind_some, hb, if_pos rfl, decide_eq_true c1, h2 _ (by omega)]
    · obtain ⟨P, eP, fP⟩ := parts_ok on a0 l1 l2 l3 (by omega) (by omega) hLL
      obtain ⟨M, eM, fM⟩ := joined_ok on a0 l1 l2 l3 (by omega) (by omega) hLL
      have hlan : lans a0 ≤ 1000 := by unfold lans mx; split <;> omega
      obtain ⟨v, hv, rfl⟩ := law_l0 (lans a0) on a0 l1 l2 l3 P M hlan fP fM eP _ 0 true (Nat.zero_add _) ⟨fun _ y hy => absurd hy (by omega), fun _ => rfl⟩
      have hev : Ev (fun k => treelinelaw20_TopoParts.j0 k on false a0 l1 l2 l3) true := by
        refine Ev.bind (g := fun t k => (treelineref20_Joined.f k a0 l1 l2 l3 on).bind fun t249 => (if (t.length : Int) = (t249.length : Int) then (treelinelaw20_TopoParts.l0 k on t t249 true 0 a0 l1 l2 l3) else (some false))) (fun k => by rw [treelinelaw20_TopoParts.j0, if_neg (by simp)]) eP (Ev.bind0 (fun k => rfl) eM ?_)
        have e : (P.length : Int) = (M.length : Int) := by rw [fP.good.len, fM.1.len]
        simp only [if_pos e]
        exact hv
      obtain ⟨K3, h3⟩ := hev
      refine ⟨K0 + K1 + K3 + 1, ?_⟩
      unfold treelinelaw20_TopoParts.f
      rw [h0 _ (by omega), Option.bind_some, if_pos rfl, h1 _ (by omega), Option.bind_some, hb, if_pos rfl, decide_eq_false c1]
      exact h3 _ (by omega)

theorem TopoParts (W : World) (x : Int × (List S48) × (List (List Int)) × (List S59)) (l : List (List Bool))
    {A1 : Option Addr} {c1 : Nat} (hC1 : Kd.C k48 W A1 x.2.1.length x.2.1) (hc1 : x.2.1.length ≤ c1) {A2 : Option Addr} {c2 : Nat} (hC2 : Kd.C (Kd.slice 3 (Kd.int .i64)) W A2 x.2.2.1.length x.2.2.1) (hc2 : x.2.2.1.length ≤ c2) {A3 : Option Addr} {c3 : Nat} (hC3 : Kd.C k59 W A3 x.2.2.2.length x.2.2.2) (hc3 : x.2.2.2.length ≤ c3)
    {A4 : Option Addr} {c4 : Nat} (hC4 : Kd.C (Kd.slice 4 Kd.bool) W A4 l.length l) (hc4 : l.length ≤ c4) :
    Calls Try.prog 4 #[.agg #[.int .i64 x.1, .slice A1 x.2.1.length c1, .slice A2 x.2.2.1.length c2, .slice A3 x.2.2.2.length c3], .slice A4 l.length c4] W fun e w' => e = .returned (.bool true) ∧ Below W.heap.size W w' := by
  obtain ⟨a0, l1, l2, l3⟩ := x
  obtain ⟨k, hk⟩ := topoParts a0 l1 l2 l3 l
  exact treelinelaw20_TopoParts.calls k a0 A1 c1 l1 A2 c2 l2 A3 c3 l3 A4 c4 l true W hC1 hc1 hC2 hc2 hC3 hc3 hC4 hc4 hk ⟨rfl⟩

end Go.Proofs.Ytkgfpagfmdefgaa.Pure
