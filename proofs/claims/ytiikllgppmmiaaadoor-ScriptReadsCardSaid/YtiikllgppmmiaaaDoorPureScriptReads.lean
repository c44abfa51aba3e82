/- What is proved: any bytes tell the document's network and ops (ScriptReads). For every byte slice; no further condition. -/
import Derived.Test.YtiikllgppmmiaaaDoorOScriptReadsx21
import Derived.Test.YtiikllgppmmiaaaDoorAr
namespace Go.Proofs.YtiikllgppmmiaaaDoor.Pure
open Go.RowKit Go.Proofs.YtiikllgppmmiaaaDoor.OScriptReads Go.Proofs.YtiikllgppmmiaaaDoorW.PrintWords Go.Proofs.YtiikllgppmmiaaaDoorW.PrintLast Go.Proofs.YtiikllgppmmiaaaDoorW.PrintMore Go.Proofs.YtiikllgppmmiaaaDoor.Ar
set_option linter.unusedVariables false
set_option linter.unusedSimpArgs false
/-- From some fuel on it answers v. -/
def Ev {α : Type} (A : Nat → Option α) (v : α) : Prop := ∃ K, ∀ k, K ≤ k → A k = some v
theorem Ev.now {α : Type} {A : Nat → Option α} {v : α} (h : ∀ k, A (k + 1) = some v) : Ev A v := ⟨1, fun k hk => by
  obtain ⟨m, rfl⟩ : ∃ m, k = m + 1 := ⟨k - 1, by omega⟩
  exact h m⟩
theorem Ev.step {α : Type} {A A' : Nat → Option α} {v : α} (h : ∀ k, A (k + 1) = A' k) (e : Ev A' v) : Ev A v := by
  obtain ⟨K, hK⟩ := e
  refine ⟨K + 1, fun k hk => ?_⟩
  obtain ⟨m, rfl⟩ : ∃ m, k = m + 1 := ⟨k - 1, by omega⟩
  rw [h m]
  exact hK m (by omega)
theorem Ev.bind {α β : Type} {A : Nat → Option α} {f : Nat → Option β} {g : β → Nat → Option α} {t : β} {v : α} (h : ∀ k, A (k + 1) = (f k).bind fun t => g t k) (hf : Ev f t) (e : Ev (g t) v) : Ev A v := by
  obtain ⟨K, hK⟩ := e
  obtain ⟨K2, hK2⟩ := hf
  refine ⟨K + K2 + 1, fun k hk => ?_⟩
  obtain ⟨m, rfl⟩ : ∃ m, k = m + 1 := ⟨k - 1, by omega⟩
  rw [h m, hK2 m (by omega)]
  exact hK m (by omega)
/-- Two programs that come to one answer. -/
def Same {α : Type} (A B : Nat → Option α) : Prop := ∃ v, Ev A v ∧ Ev B v

/-- From some fuel on it answers what Φ says. -/
def EvP {α : Type} (A : Nat → Option α) (Φ : α → Prop) : Prop := ∃ v, Ev A v ∧ Φ v
theorem EvP.step {α : Type} {A A' : Nat → Option α} {Φ : α → Prop} (h : ∀ k, A (k + 1) = A' k) (e : EvP A' Φ) : EvP A Φ := by
  obtain ⟨v, hv, hp⟩ := e
  exact ⟨v, Ev.step h hv, hp⟩
theorem EvP.now {α : Type} {A : Nat → Option α} {Φ : α → Prop} {v : α} (h : ∀ k, A (k + 1) = some v) (hp : Φ v) : EvP A Φ := ⟨v, Ev.now h, hp⟩
theorem Ev.bind0 {α β : Type} {A : Nat → Option α} {f : Nat → Option β} {g : β → Nat → Option α} {t : β} {v : α} (h : ∀ k, A k = (f k).bind fun t => g t k) (hf : Ev f t) (e : Ev (g t) v) : Ev A v := by
  obtain ⟨K, hK⟩ := e
  obtain ⟨K2, hK2⟩ := hf
  refine ⟨K + K2, fun k hk => ?_⟩
  rw [h k, hK2 k (by omega)]
  exact hK k (by omega)
theorem psucc {i : Nat} (h : i ≤ 100000) : wrap64 ((i : Int) + 1) = ((i + 1 : Nat) : Int) := by rw [w64 (by omega) (by omega)]; omega
theorem rdn (L : List Int) (j : Nat) : rd L (j : Int) = L.getD j 0 := by unfold rd; rw [Int.toNat_natCast]

def goodTimes (m h d : Int) : Bool := decide (6 ≤ m ∧ m ≤ 40 ∧ 1 ≤ h ∧ h ≤ 10 ∧ 4 ≤ d ∧ d ≤ 30 ∧ m ≤ 2 * (d - 1) ∧ 2 * (h + 1) ≤ m)
theorem rd40_mem {l : List S63} {i : Int} (h0 : 0 ≤ i) (h1 : i < l.length) : rd_T63 l i ∈ l := by
  have h : i.toNat < l.length := by omega
  unfold rd_T63
  rw [List.getD_eq_getElem?_getD, List.getElem?_eq_getElem h]
  exact List.getElem_mem h

def rightA (a : Int) : Bool := decide (0 < a ∧ a < 281474976710656 ∧ a / 1099511627776 % 2 = 0)
/-- What is wrong with a configuration first. -/
def checkA (a m h d g t : Int) (l : List S63) : Int :=
  if rightA a = false then 1 else if (goodTimes m h d && decide (10 ≤ g ∧ g ≤ 1000000) && decide (0 ≤ t ∧ t ≤ 64)) = false then 3 else if l.length = 0 then 8 else if l.length > 4 then 4 else
    if l.all (fun p => decide (1 ≤ p.f1 ∧ p.f1 ≤ 65535)) then 0 else 3
theorem drop_cons51 {l : List S63} {i : Int} (h0 : 0 ≤ i) (h1 : i < l.length) : l.drop i.toNat = rd_T63 l i :: l.drop (i + 1).toNat := by
  have h : i.toNat < l.length := by omega
  rw [List.drop_eq_getElem_cons h, show (i + 1).toNat = i.toNat + 1 from by omega]
  congr 1
  unfold rd_T63
  rw [List.getD_eq_getElem?_getD, List.getElem?_eq_getElem h]; rfl

/-- What a network that was read is like. -/
structure OkT (a0 : Int) (br : List S51) (lk : List (List Int)) (st : List S66) : Prop where
  lo : 1 ≤ a0 ∧ a0 ≤ 5
  n1 : 1 ≤ br.length ∧ br.length ≤ 4
  n2 : lk.length = br.length
  n3 : st.length ≤ 3
  cf : ∀ j : Nat, j < br.length → (rd_T51 br (j : Int)).f0 = 257 + (j : Int) ∧ checkA (rd_T51 br (j : Int)).f0 (rd_T51 br (j : Int)).f2 (rd_T51 br (j : Int)).f3 (rd_T51 br (j : Int)).f4 (rd_T51 br (j : Int)).f5 (rd_T51 br (j : Int)).f6 (rd_T51 br (j : Int)).f7 = 0
  ln : ∀ j : Nat, j < br.length → (rd_L9 lk (j : Int)).length = (rd_T51 br (j : Int)).f7.length ∧ (rd_L9 lk (j : Int)).length ≤ 3 ∧ ∀ t, t < (rd_L9 lk (j : Int)).length → 0 ≤ (rd_L9 lk (j : Int)).getD t 0 ∧ (rd_L9 lk (j : Int)).getD t 0 < a0
  sn : ∀ s : Nat, s < st.length → (rd_T66 st (s : Int)).f0 = 513 + (s : Int) ∧ 0 ≤ (rd_T66 st (s : Int)).f1 ∧ (rd_T66 st (s : Int)).f1 < a0

def Bytes (b : List Int) : Prop := (∀ x ∈ b, 0 ≤ x ∧ x < 256) ∧ b.length ≤ 41000
/-- The next byte, and where one stands then. -/
theorem next_ok {b : List Int} (hb : Bytes b) (i : Nat) (hi : i ≤ b.length) : ∃ (v : Int) (i' : Nat), script_reader_next.f b (i : Int) = some (v, (i' : Int)) ∧ 0 ≤ v ∧ v < 256 ∧ i ≤ i' ∧ i' ≤ b.length ∧ (i < b.length → i + 1 ≤ i') := by
  have hl := hb.2
  unfold script_reader_next.f
  by_cases c : i < b.length
  · have h1 : wrap64 ((i : Int) + 1) = (i : Int) + 1 := w64 (by omega) (by omega)
    have h2 : wrap64 ((i : Int) + 1 - 1) = (i : Int) := by rw [w64 (by omega) (by omega)]; omega
    have hm : b.getD i 0 ∈ b := by
      rw [List.getD_eq_getElem?_getD, List.getElem?_eq_getElem c]
      exact List.getElem_mem _
    have hv := hb.1 _ hm
    refine ⟨b.getD i 0, i + 1, ?_, hv.1, hv.2, by omega, by omega, fun _ => Nat.le_refl _⟩
    rw [if_neg (by omega), h1, h2, if_pos (by omega), if_pos (by omega), rdn, w64 (by omega) (by omega)]
    rfl
  · exact ⟨0, i, by rw [if_pos (by omega)], by omega, by omega, Nat.le_refl _, hi, fun h => absurd h c⟩
theorem addr_eq (a : Int) (j : Nat) (ha : 0 ≤ a ∧ a ≤ 10) (hj : j ≤ 1000) : script_address.f a (j : Int) = some (256 * a + (j : Int) + 1) := by
  unfold script_address.f
  rw [w64 (x := 256 * a) (by omega) (by omega), w64 (x := 256 * a + (j : Int)) (by omega) (by omega), w64 (x := 256 * a + (j : Int) + 1) (by omega) (by omega), wu64 (by omega) (by omega)]
/-- Ports' costs. -/
def Costs (l : List S63) : Prop := ∀ p ∈ l, 1 ≤ p.f1 ∧ p.f1 ≤ 65535
theorem conf_l0 {b : List Int} (hb : Bytes b) (a p m h d g t : Int) (n : Nat) (hn : n ≤ 3) : ∀ q (c i : Nat) (ports : List S63), c + q = n → i ≤ b.length → ports.length = c → Costs ports →
    EvP (fun k => script_reader_conf.l0 k (n : Int) (c : Int) b (i : Int) a p m h d g t ports) (fun r => ∃ (i' : Nat) (ps : List S63), r = (a, p, m, h, d, g, t, ps, (i' : Int)) ∧ i ≤ i' ∧ i' ≤ b.length ∧ ps.length = n ∧ Costs ps)
  | 0, c, i, ports, hc, hi, hp, hs => by
    refine EvP.now (v := (a, p, m, h, d, g, t, ports, (i : Int))) (fun k => ?_) ⟨i, ports, rfl, Nat.le_refl _, hi, by omega, hs⟩
    rw [script_reader_conf.l0, if_neg (by omega)]
  | q + 1, c, i, ports, hc, hi, hp, hs => by
    obtain ⟨v, i', hx, v0, v1, h1, h2, _⟩ := next_ok hb i hi
    have hcost : wrap64 (1 + Int.tmod v 50) % 4294967296 = 1 + v % 50 := by
      rw [tmod_nn v0, w64 (by omega) (by omega)]
      omega
    obtain ⟨r, hr, i2, ps, e, g1, g2, g3, g4⟩ := conf_l0 hb a p m h d g t n hn q (c + 1) i' (ports ++ [⟨128, 1 + v % 50, decide (v < 230)⟩]) (by omega) h2 (by simp [hp]) (fun x hx => by
      rcases List.mem_append.1 hx with h | h
      · exact hs x h
      · simp only [List.mem_singleton] at h
        subst h
        show 1 ≤ 1 + v % 50 ∧ 1 + v % 50 ≤ 65535
        omega)
    refine ⟨r, Ev.step (fun k => ?_) hr, i2, ps, e, by omega, g2, g3, g4⟩
    rw [script_reader_conf.l0, if_pos (by omega), hx, Option.bind_some, if_pos (by omega), psucc (by omega), hcost]
/-- A configuration that was read. -/
def CfgOk (j : Nat) (a m h d g t : Int) (l : List S63) : Prop := a = 257 + (j : Int) ∧ checkA a m h d g t l = 0 ∧ l.length ≤ 3
theorem conf_ok {b : List Int} (hb : Bytes b) (i j : Nat) (hi : i ≤ b.length) (hj : j ≤ 100) :
    EvP (fun k => script_reader_conf.f k b (i : Int) (j : Int)) (fun r => ∃ (i' : Nat) (p : Int), r.2.1 = p ∧ r.2.2.2.2.2.2.2.2 = (i' : Int) ∧ i ≤ i' ∧ i' ≤ b.length ∧ CfgOk j r.1 r.2.2.1 r.2.2.2.1 r.2.2.2.2.1 r.2.2.2.2.2.1 r.2.2.2.2.2.2.1 r.2.2.2.2.2.2.2.1) := by
  obtain ⟨v1, i1, e1, a1, b1, c1, d1, _⟩ := next_ok hb i hi
  obtain ⟨v2, i2, e2, a2, b2, c2, d2, _⟩ := next_ok hb i1 d1
  obtain ⟨v3, i3, e3, a3, b3, c3, d3, _⟩ := next_ok hb i2 d2
  obtain ⟨v4, i4, e4, a4, b4, c4, d4, _⟩ := next_ok hb i3 d3
  obtain ⟨v5, i5, e5, a5, b5, c5, d5, _⟩ := next_ok hb i4 d4
  obtain ⟨v6, i6, e6, a6, b6, c6, d6, _⟩ := next_ok hb i5 d5
  obtain ⟨v7, i7, e7, a7, b7, c7, d7, _⟩ := next_ok hb i6 d6
  have eh : wrap64 (1 + Int.tmod v2 2) = 1 + v2 % 2 := by rw [tmod_nn a2, w64 (by omega) (by omega)]
  have em0 : wrap64 (wrap64 (wrap64 (2 * wrap64 (wrap64 (1 + Int.tmod v2 2) + 1)) + 2) + Int.tmod v5 16) = 2 * (1 + v2 % 2 + 1) + 2 + v5 % 16 := by
    rw [eh, tmod_nn a5, w64 (x := 1 + v2 % 2 + 1) (by omega) (by omega), w64 (x := 2 * (1 + v2 % 2 + 1)) (by omega) (by omega), w64 (x := 2 * (1 + v2 % 2 + 1) + 2) (by omega) (by omega), w64 (by omega) (by omega)]
  obtain ⟨M, hM⟩ : ∃ M, 2 * (1 + v2 % 2 + 1) + 2 + v5 % 16 = M := ⟨_, rfl⟩
  have hM2 : 2 * (1 + v2 % 2 + 1) + 2 ≤ M ∧ M ≤ 23 := by omega
  rw [hM] at em0
  have ed0 : wrap64 (wrap64 (wrap64 (Int.tdiv (wrap64 (M + 1)) 2) + 1) + Int.tmod v6 4) = (M + 1) / 2 + 1 + v6 % 4 := by
    rw [w64 (x := M + 1) (by omega) (by omega), tdiv_nn (by omega), w64 (x := (M + 1) / 2) (by omega) (by omega), w64 (x := (M + 1) / 2 + 1) (by omega) (by omega), tmod_nn a6, w64 (by omega) (by omega)]
  have eg : wrap64 (10 + Int.tmod v3 20) = 10 + v3 % 20 := by rw [tmod_nn a3, w64 (by omega) (by omega)]
  have et : Int.tmod v4 9 = v4 % 9 := tmod_nn a4
  obtain ⟨n, hn⟩ := Int.eq_ofNat_of_zero_le (show 0 ≤ 1 + v7 % 3 by omega)
  have en : wrap64 (1 + Int.tmod v7 3) = (n : Int) := by rw [tmod_nn a7, w64 (by omega) (by omega)]; exact hn
  have hn' : 1 + v7 % 3 = (n : Int) := hn
  obtain ⟨r, hr, i8, ps, hre, g1, g2, g3, g4⟩ := conf_l0 hb (257 + (j : Int)) (IntKind.u16.wrap (wrap64 ((Int.tmod v1 4) * 4096))) (mx M 6) (1 + v2 % 2) (mx ((M + 1) / 2 + 1 + v6 % 4) 4) (10 + v3 % 20) (v4 % 9) n (by omega) n 0 i7 [] (Nat.zero_add _) d7 rfl (fun p h => by cases h)
  have E : Ev (fun k => script_reader_conf.f k b (i : Int) (j : Int)) r := by
    obtain ⟨K, hK⟩ := hr
    refine ⟨K, fun k hk => ?_⟩
    show script_reader_conf.f k b (i : Int) (j : Int) = _
    unfold script_reader_conf.f
    rw [addr_eq 1 j (by omega) (by omega), Option.bind_some, e1, Option.bind_some, e2, Option.bind_some, e3, Option.bind_some, e4, Option.bind_some, e5, Option.bind_some, e6, Option.bind_some, e7, Option.bind_some]
    simp only [em0]
    simp only [ed0, eh, eg, et, en]
    have ea : 256 * (1 : Int) + (j : Int) + 1 = 257 + (j : Int) := by omega
    rw [ea]
    exact hK k hk
  subst hre
  refine ⟨_, E, i8, _, rfl, rfl, by omega, g2, rfl, ?_, by show ps.length ≤ 3; omega⟩
  · have hr : rightA (257 + (j : Int)) = true := by unfold rightA; rw [decide_eq_true (by omega)]
    have ht : goodTimes (mx M 6) (1 + v2 % 2) (mx ((M + 1) / 2 + 1 + v6 % 4) 4) = true := by
      unfold goodTimes mx
      refine decide_eq_true ?_
      split <;> split <;> omega
    have hall : ps.all (fun p => decide (1 ≤ p.f1 ∧ p.f1 ≤ 65535)) = true := List.all_eq_true.2 fun p hp => decide_eq_true (g4 p hp)
    show checkA (257 + (j : Int)) (mx M 6) (1 + v2 % 2) (mx ((M + 1) / 2 + 1 + v6 % 4) 4) (10 + v3 % 20) (v4 % 9) ps = 0
    unfold checkA
    rw [if_neg (by rw [hr]; simp), ht, decide_eq_true (by omega), decide_eq_true (by omega), if_neg (by simp), if_neg (by omega), if_neg (by omega), if_pos hall]

theorem rd51_app (br : List S51) (c : S51) (j : Nat) : rd_T51 (br ++ [c]) (j : Int) = if j = br.length then c else rd_T51 br (j : Int) := by
  unfold rd_T51
  rw [Int.toNat_natCast, List.getD_eq_getElem?_getD, List.getD_eq_getElem?_getD]
  by_cases e : j = br.length
  · subst e
    rw [if_pos rfl, List.getElem?_append_right (Nat.le_refl _)]
    simp
  · rw [if_neg e]
    by_cases h : j < br.length
    · rw [List.getElem?_append_left h]
    · rw [List.getElem?_eq_none (by simp; omega), List.getElem?_eq_none (by omega)]
theorem rdL9_app (lk : List (List Int)) (c : List Int) (j : Nat) : rd_L9 (lk ++ [c]) (j : Int) = if j = lk.length then c else rd_L9 lk (j : Int) := by
  unfold rd_L9
  rw [Int.toNat_natCast, List.getD_eq_getElem?_getD, List.getD_eq_getElem?_getD]
  by_cases e : j = lk.length
  · subst e
    rw [if_pos rfl, List.getElem?_append_right (Nat.le_refl _)]
    simp
  · rw [if_neg e]
    by_cases h : j < lk.length
    · rw [List.getElem?_append_left h]
    · rw [List.getElem?_eq_none (by simp; omega), List.getElem?_eq_none (by omega)]
theorem rd66_app (st : List S66) (c : S66) (j : Nat) : rd_T66 (st ++ [c]) (j : Int) = if j = st.length then c else rd_T66 st (j : Int) := by
  unfold rd_T66
  rw [Int.toNat_natCast, List.getD_eq_getElem?_getD, List.getD_eq_getElem?_getD]
  by_cases e : j = st.length
  · subst e
    rw [if_pos rfl, List.getElem?_append_right (Nat.le_refl _)]
    simp
  · rw [if_neg e]
    by_cases h : j < st.length
    · rw [List.getElem?_append_left h]
    · rw [List.getElem?_eq_none (by simp; omega), List.getElem?_eq_none (by omega)]
/-- The bridges and links so far. -/
structure Half (lans : Nat) (br : List S51) (lk : List (List Int)) : Prop where
  n2 : lk.length = br.length
  cf : ∀ j : Nat, j < br.length → (rd_T51 br (j : Int)).f0 = 257 + (j : Int) ∧ checkA (rd_T51 br (j : Int)).f0 (rd_T51 br (j : Int)).f2 (rd_T51 br (j : Int)).f3 (rd_T51 br (j : Int)).f4 (rd_T51 br (j : Int)).f5 (rd_T51 br (j : Int)).f6 (rd_T51 br (j : Int)).f7 = 0
  ln : ∀ j : Nat, j < br.length → (rd_L9 lk (j : Int)).length = (rd_T51 br (j : Int)).f7.length ∧ (rd_L9 lk (j : Int)).length ≤ 3 ∧ ∀ t, t < (rd_L9 lk (j : Int)).length → 0 ≤ (rd_L9 lk (j : Int)).getD t 0 ∧ (rd_L9 lk (j : Int)).getD t 0 < (lans : Int)
def Within (lans : Nat) (L : List Int) : Prop := ∀ y ∈ L, 0 ≤ y ∧ y < (lans : Int)
theorem Half.push {lans : Nat} {br : List S51} {lk : List (List Int)} (h : Half lans br lk) {c : S51} {L : List Int} (hc : CfgOk br.length c.f0 c.f2 c.f3 c.f4 c.f5 c.f6 c.f7) (hl : L.length = c.f7.length) (hw : Within lans L) : Half lans (br ++ [c]) (lk ++ [L]) := by
  refine ⟨by simp [h.n2], fun j hj => ?_, fun j hj => ?_⟩
  · rw [rd51_app]
    by_cases e : j = br.length
    · rw [if_pos e, e]; exact ⟨hc.1, hc.2.1⟩
    · rw [if_neg e]
      exact h.cf j (by simp at hj; omega)
  · rw [rd51_app, rdL9_app, h.n2]
    by_cases e : j = br.length
    · rw [if_pos e, if_pos e]
      refine ⟨hl, by have := hc.2.2; omega, fun t ht => hw _ ?_⟩
      rw [List.getD_eq_getElem?_getD, List.getElem?_eq_getElem ht]
      exact List.getElem_mem _
    · rw [if_neg e, if_neg e]
      exact h.ln j (by simp at hj; omega)
/-- What topo answers. -/
def TopoAns (b : List Int) (i : Nat) (r : Int × List S51 × List (List Int) × List S66 × Int) : Prop := OkT r.1 r.2.1 r.2.2.1 r.2.2.2.1 ∧ ∃ i' : Nat, r.2.2.2.2 = (i' : Int) ∧ i ≤ i' ∧ i' ≤ b.length
section
variable {b : List Int} (hb : Bytes b) (lans : Nat) (hlans : 1 ≤ lans ∧ lans ≤ 5)
include hb hlans
theorem topo_l2 (br : List S51) (lk : List (List Int)) (H : Half lans br lk) (hn : 1 ≤ br.length ∧ br.length ≤ 4) (n : Nat) (hn3 : n ≤ 3) (i0 : Nat) : ∀ q (c i : Nat) (st : List S66), c + q = n → i0 ≤ i → i ≤ b.length → st.length = c →
    (∀ s : Nat, s < c → (rd_T66 st (s : Int)).f0 = 513 + (s : Int) ∧ 0 ≤ (rd_T66 st (s : Int)).f1 ∧ (rd_T66 st (s : Int)).f1 < (lans : Int)) →
    EvP (fun k => script_reader_topo.l2 k (n : Int) (c : Int) b (i : Int) (lans : Int) br lk st) (TopoAns b i0)
  | 0, c, i, st, hc, h0, hi, hs, hst => by
    refine EvP.now (v := ((lans : Int), br, lk, st, (i : Int))) (fun k => ?_) ⟨⟨by show 1 ≤ (lans : Int) ∧ (lans : Int) ≤ 5; omega, hn, H.n2, by show st.length ≤ 3; omega, H.cf, H.ln, fun s h => hst s (by have h' : s < st.length := h; omega)⟩, i, rfl, h0, hi⟩
    rw [script_reader_topo.l2, if_neg (by omega)]
  | q + 1, c, i, st, hc, h0, hi, hs, hst => by
    obtain ⟨v, i', hx, v0, v1, h1, h2, _⟩ := next_ok hb i hi
    have hm : Int.tmod v (lans : Int) = v % (lans : Int) := tmod_nn v0
    have hm1 := Int.emod_nonneg v (show (lans : Int) ≠ 0 by omega)
    have hm2 := Int.emod_lt_of_pos v (show (0 : Int) < (lans : Int) by omega)
    obtain ⟨z, hz⟩ : ∃ z, v % (lans : Int) = z := ⟨_, rfl⟩
    rw [hz] at hm hm1 hm2
    clear hz
    refine EvP.step (fun k => ?_) (topo_l2 br lk H hn n hn3 i0 q (c + 1) i' (st ++ [⟨513 + (c : Int), z⟩]) (by omega) (by omega) h2 (by simp [hs]) (fun s h => ?_))
    · rw [script_reader_topo.l2, if_pos (by omega), addr_eq 2 c (by omega) (by omega), Option.bind_some, hx, Option.bind_some, if_neg (by omega), Option.bind_some, if_pos (by simp; omega), psucc (by omega), hm, show 256 * (2 : Int) + (c : Int) + 1 = 513 + (c : Int) by omega]
    · rw [rd66_app]
      by_cases e : s = st.length
      · rw [if_pos e]
        exact ⟨by show 513 + (c : Int) = 513 + (s : Int); omega, hm1, hm2⟩
      · rw [if_neg e]
        exact hst s (by omega)
theorem topo_l1 (br : List S51) (lk : List (List Int)) (hn : br.length ≤ 4) (hlk : lk.length = br.length) (nb j : Nat) (hj : j ≤ 100) (a p m h d g t : Int) (ps : List S63) (hps : ps.length ≤ 3) (Φ : Int × List S51 × List (List Int) × List S66 × Int → Prop) (i0 : Nat)
    (hq : ∀ (L : List Int) (i : Nat), L.length = ps.length → Within lans L → i0 ≤ i → i ≤ b.length → EvP (fun k => script_reader_topo.l0 k (nb : Int) ((j + 1 : Nat) : Int) b (i : Int) (lans : Int) (br ++ [⟨a, p, m, h, d, g, t, ps⟩]) (lk ++ [L])) Φ) :
    ∀ q (c i : Nat) (L : List Int), c + q = ps.length → i0 ≤ i → i ≤ b.length → L.length = c → Within lans L →
    EvP (fun k => script_reader_topo.l1 k L (nb : Int) (j : Int) (ps.length : Int) (c : Int) b (i : Int) (lans : Int) br lk a p m h d g t ps) Φ
  | 0, c, i, L, hc, h0, hi, hl, hw => by
    refine EvP.step (fun k => ?_) (hq L i (by omega) hw h0 hi)
    rw [script_reader_topo.l1, if_neg (by omega), Option.bind_some, if_pos (by simp; omega), Option.bind_some, if_pos (by simp; omega), psucc (by omega)]
  | q + 1, c, i, L, hc, h0, hi, hl, hw => by
    obtain ⟨v, i', hx, v0, v1, h1, h2, _⟩ := next_ok hb i hi
    have hm : Int.tmod v (lans : Int) = v % (lans : Int) := tmod_nn v0
    have hm1 := Int.emod_nonneg v (show (lans : Int) ≠ 0 by omega)
    have hm2 := Int.emod_lt_of_pos v (show (0 : Int) < (lans : Int) by omega)
    obtain ⟨z, hz⟩ : ∃ z, v % (lans : Int) = z := ⟨_, rfl⟩
    rw [hz] at hm hm1 hm2
    clear hz
    refine EvP.step (fun k => ?_) (topo_l1 br lk hn hlk nb j hj a p m h d g t ps hps Φ i0 hq q (c + 1) i' (L ++ [z]) (by omega) (by omega) h2 (by simp [hl]) (fun y hy => ?_))
    · rw [script_reader_topo.l1, if_pos (by omega), hx, Option.bind_some, if_neg (by omega), Option.bind_some, if_pos (by simp; omega), psucc (by omega), hm]
    · rcases List.mem_append.1 hy with h' | h'
      · exact hw y h'
      · simp only [List.mem_singleton] at h'
        subst h'
        exact ⟨hm1, hm2⟩
theorem topo_l0 (nb : Nat) (hnb : 1 ≤ nb ∧ nb ≤ 4) (i0 : Nat) : ∀ q (j i : Nat) (br : List S51) (lk : List (List Int)), j + q = nb → i0 ≤ i → i ≤ b.length → br.length = j → Half lans br lk →
    EvP (fun k => script_reader_topo.l0 k (nb : Int) (j : Int) b (i : Int) (lans : Int) br lk) (TopoAns b i0)
  | 0, j, i, br, lk, hj, h0, hi, hl, H => by
    obtain ⟨v, i', hx, v0, v1, h1, h2, _⟩ := next_ok hb i hi
    obtain ⟨n, hn⟩ := Int.eq_ofNat_of_zero_le (show 0 ≤ v % 4 by omega)
    have hn' : Int.tmod v 4 = (n : Int) := (tmod_nn v0).trans hn
    have hn2 : n ≤ 3 := by have : v % 4 = (n : Int) := hn; omega
    refine EvP.step (fun k => ?_) (topo_l2 hb lans hlans br lk H (by omega) n hn2 i0 n 0 i' [] (Nat.zero_add _) (by omega) h2 rfl (fun s h => absurd h (by omega)))
    rw [script_reader_topo.l0, if_neg (by omega), hx, Option.bind_some, hn']
    rfl
  | q + 1, j, i, br, lk, hj, h0, hi, hl, H => by
    obtain ⟨r, hr, i1, p, e1, e2, g1, g2, g3⟩ := conf_ok hb i j hi (by omega)
    obtain ⟨a, p', m, h, d, g, t, ps, ii⟩ := r
    obtain ⟨v, hv, hp⟩ := topo_l1 hb lans hlans br lk (by omega) H.n2 nb j (by omega) a p' m h d g t ps g3.2.2 (TopoAns b i0) i0 (fun L i hL hW hi0 hib => topo_l0 nb hnb i0 q (j + 1) i _ _ (by omega) hi0 hib (by simp [hl]) (H.push (by rw [hl]; exact g3) hL hW)) _ 0 i1 [] (Nat.zero_add _) (by omega) g2 rfl (fun y hy => by cases hy)
    refine ⟨v, Ev.bind (g := fun bt130 k => script_reader_topo.l1 k ([] : List Int) (nb : Int) (j : Int) (bt130.2.2.2.2.2.2.2.1.length : Int) 0 b bt130.2.2.2.2.2.2.2.2 (lans : Int) br lk bt130.1 bt130.2.1 bt130.2.2.1 bt130.2.2.2.1 bt130.2.2.2.2.1 bt130.2.2.2.2.2.1 bt130.2.2.2.2.2.2.1 bt130.2.2.2.2.2.2.2.1) (fun k => by rw [script_reader_topo.l0, if_pos (by omega)]) hr ?_, hp⟩
    have e2' : ii = (i1 : Int) := e2
    subst e2'
    exact hv
end
theorem topo_ok {b : List Int} (hb : Bytes b) (i : Nat) (hi : i ≤ b.length) : EvP (fun k => script_reader_topo.f k b (i : Int)) (TopoAns b i) := by
  obtain ⟨v1, i1, e1, a1, b1, c1, d1, _⟩ := next_ok hb i hi
  obtain ⟨v2, i2, e2, a2, b2, c2, d2, _⟩ := next_ok hb i1 d1
  obtain ⟨l, hl⟩ := Int.eq_ofNat_of_zero_le (show 0 ≤ 1 + v1 % 5 by omega)
  obtain ⟨n, hn⟩ := Int.eq_ofNat_of_zero_le (show 0 ≤ 1 + v2 % 4 by omega)
  have hl' : 1 + v1 % 5 = (l : Int) := hl
  have hn' : 1 + v2 % 4 = (n : Int) := hn
  have el : wrap64 (1 + Int.tmod v1 5) = (l : Int) := by rw [tmod_nn a1, w64 (by omega) (by omega)]; exact hl
  have en : wrap64 (1 + Int.tmod v2 4) = (n : Int) := by rw [tmod_nn a2, w64 (by omega) (by omega)]; exact hn
  obtain ⟨r, ⟨K, hK⟩, hp⟩ := topo_l0 hb l (by omega) n (by omega) i n 0 i2 [] [] (Nat.zero_add _) (by omega) d2 rfl ⟨rfl, fun j h => absurd h (by simp), fun j h => absurd h (by simp)⟩
  refine ⟨r, ⟨K, fun k hk => ?_⟩, hp⟩
  show script_reader_topo.f k b (i : Int) = _
  unfold script_reader_topo.f
  rw [e1, Option.bind_some, e2, Option.bind_some]
  simp only [el, en]
  exact hK k hk

theorem put_eq (a : Int) (k : Nat) : ids_Put.f (k + 7) a = some [a / 1099511627776 % 256, a / 4294967296 % 256, a / 16777216 % 256, a / 65536 % 256, a / 256 % 256, a % 256] := by
  simp [ids_Put.f, ids_Put.l0, wrap64, List.replicate, shr, IntKind.bits]

def chk (a b kd n : Int) : Int := if a ≥ 281474976710656 ∨ b ≥ 281474976710656 then 1 else if n > 1500 then 4 else if kd > 1500 ∧ kd < 1536 then 3 else if kd ≤ 1500 ∧ kd ≠ n then 3 else 0
theorem check_eq (k : Nat) (a b kd : Int) (l : List Int) (h : 0 ≤ kd ∧ kd < 65536) : frame_Check.f (k + 2) a b kd l = some (chk a b kd (l.length : Int)) := by
  have e : wrap64 kd = kd := w64 (by omega) (by omega)
  have B : ∀ (c d : Bool), (some (if c = true then (1 : Int) else if d = true then 3 else 0)) = some (if c then 1 else if d then 3 else 0) := fun _ _ => rfl
  unfold frame_Check.f chk
  by_cases ha : a ≥ 281474976710656
  · rw [if_pos ha, if_pos (.inl ha)]
    simp only [frame_Check.j0, if_true]
  · rw [if_neg ha]
    by_cases hb : b ≥ 281474976710656
    · rw [decide_eq_true hb, if_pos (.inr hb)]
      simp only [frame_Check.j0, if_true]
    · rw [decide_eq_false hb, if_neg (by omega)]
      simp only [frame_Check.j0, Bool.false_eq_true, if_false]
      by_cases c : (l.length : Int) > 1500
      · rw [if_pos c, if_pos c]
      · rw [if_neg c, if_neg c]
        by_cases d : kd > 1500
        · rw [if_pos d]
          simp only [frame_Check.j1, e]
          by_cases f : kd < 1536
          · rw [decide_eq_true f, if_pos rfl, if_pos ⟨d, f⟩]
          · rw [decide_eq_false f]
            simp only [Bool.false_eq_true, if_false]
            repeat' split
            all_goals first | rfl | (exfalso; omega)
        · rw [if_neg d]
          simp only [frame_Check.j1, Bool.false_eq_true, if_false, e]
          repeat' split
          all_goals first | rfl | (exfalso; omega)
theorem wput16_eq (k : Nat) (l : List Int) (a : Int) (h : 0 ≤ a ∧ a < 65536) (hl : l.length < 1000000) : wire_Put_uint16.f (k + 3) l a 2 = some (l ++ [a / 256 % 256, a % 256]) := by
  have e : IntKind.u64.wrap a = a := wu64 (by omega) (by omega)
  unfold wire_Put_uint16.f
  simp only [Option.bind_some, List.nil_append, List.length_nil, Nat.zero_add]
  rw [if_pos (by omega)]
  simp only [wire_Put_uint16.l0, e]
  have g1 : wrap64 ((2 : Int) - 1) = 1 := by simp [wrap64]
  have g0 : wrap64 ((1 : Int) - 1) = 0 := by simp [wrap64]
  have g8 : wrap64 ((8 : Int) * 1) = 8 := by simp [wrap64]
  have g9 : wrap64 ((8 : Int) * 0) = 0 := by simp [wrap64]
  have e0 : IntKind.u64.wrap a = a := wu64 (by omega) (by omega)
  simp only [g1, g0, g8, g9]
  rw [if_pos (by decide), if_pos (by decide), if_pos (by decide), if_pos (by omega), if_pos (by decide), if_pos (by decide), if_pos (by decide), if_pos (by simp; omega), if_neg (by decide)]
  rw [List.append_assoc]
  simp [shr, IntKind.bits]
def fbytes (a b kd : Int) (l : List Int) : List Int := [a / 1099511627776 % 256, a / 4294967296 % 256, a / 16777216 % 256, a / 65536 % 256, a / 256 % 256, a % 256, b / 1099511627776 % 256, b / 4294967296 % 256, b / 16777216 % 256, b / 65536 % 256, b / 256 % 256, b % 256, kd / 256 % 256, kd % 256] ++ l
theorem fput_eq (k : Nat) (a b kd : Int) (l : List Int) (h : 0 ≤ kd ∧ kd < 65536) (hl : l.length ≤ 100000) :
    frame_Put.f (k + 7) a b kd l = if chk a b kd (l.length : Int) = 0 then some (fbytes a b kd l, 0) else some ([], chk a b kd (l.length : Int)) := by
  unfold frame_Put.f
  rw [check_eq (k + 5) a b kd l h]
  simp only [Option.bind_some]
  by_cases c : chk a b kd (l.length : Int) = 0
  · rw [if_pos c, if_pos c, put_eq a k, put_eq b k]
    simp only [Option.bind_some]
    rw [if_pos (by simp), wput16_eq (k + 4) _ kd h (by simp)]
    simp only [Option.bind_some]
    rw [if_pos (by simp; omega)]
    simp [fbytes]
  · rw [if_neg c, if_neg c]

theorem chk_len (a b kd : Int) (l : List Int) : (fbytes a b kd l).length = 14 + l.length := by simp [fbytes]; omega
theorem some_l0 {b : List Int} (hb : Bytes b) (n : Nat) (hn : n ≤ 60) (i0 : Nat) : ∀ q (c i : Nat) (out : List Int), c + q = n → i0 ≤ i → i ≤ b.length → out.length = c →
    EvP (fun k => script_reader_some.l0 k out (n : Int) (c : Int) b (i : Int)) (fun r => r.1.length = n ∧ ∃ i' : Nat, r.2 = (i' : Int) ∧ i0 ≤ i' ∧ i' ≤ b.length)
  | 0, c, i, out, hc, h0, hi, hl => by
    refine EvP.now (v := (out, (i : Int))) (fun k => ?_) ⟨by show out.length = n; omega, i, rfl, h0, hi⟩
    rw [script_reader_some.l0, if_neg (by omega)]
  | q + 1, c, i, out, hc, h0, hi, hl => by
    obtain ⟨v, i', hx, v0, v1, h1, h2, _⟩ := next_ok hb i hi
    refine EvP.step (fun k => ?_) (some_l0 hb n hn i0 q (c + 1) i' (out ++ [v % 256]) (by omega) (by omega) h2 (by simp [hl]))
    rw [script_reader_some.l0, if_pos (by omega), hx, Option.bind_some, if_pos (by omega), psucc (by omega)]
theorem some_ok {b : List Int} (hb : Bytes b) (n : Nat) (hn : n ≤ 60) (i : Nat) (hi : i ≤ b.length) : EvP (fun k => script_reader_some.f k b (i : Int) (n : Int)) (fun r => r.1.length = n ∧ ∃ i' : Nat, r.2 = (i' : Int) ∧ i ≤ i' ∧ i' ≤ b.length) :=
  some_l0 hb n hn i n 0 i [] (Nat.zero_add _) (Nat.le_refl _) hi rfl
/-- What an op answers. -/
def OpAns (b : List Int) (i : Nat) (r : Int × Int × Int × Bool × Int × List Int × Int) : Prop := (0 ≤ r.1 ∧ r.1 ≤ 6) ∧ 0 ≤ r.2.1 ∧ r.2.2.2.2.2.1.length ≤ 76 ∧ ∃ i' : Nat, r.2.2.2.2.2.2 = (i' : Int) ∧ i ≤ i' ∧ i' ≤ b.length
theorem tmod_ok {v m : Int} (h : 0 ≤ v) (hm : 0 < m) : 0 ≤ Int.tmod v m ∧ Int.tmod v m < m := by
  rw [tmod_nn h]
  exact ⟨Int.emod_nonneg v (by omega), Int.emod_lt_of_pos v hm⟩
theorem to_ok (v : Int) (h : 0 ≤ v) : ∃ t, script_to.f v = some t := by
  unfold script_to.f
  by_cases c : Int.tmod v 5 = 4
  · exact ⟨_, by rw [if_pos c]⟩
  · obtain ⟨z, hz⟩ := Int.eq_ofNat_of_zero_le (tmod_ok (m := 5) h (by decide)).1
    have h2 := (tmod_ok (m := 5) h (by decide)).2
    have hz' : Int.tmod v 5 = (z : Int) := hz
    exact ⟨_, by rw [if_neg c, hz', addr_eq 2 z (by omega) (by omega), Option.bind_some]⟩
section
variable {b : List Int} (hb : Bytes b) (lans : Nat) (hlans : 1 ≤ lans ∧ lans ≤ 5) (br : List S51) (hbr : 1 ≤ br.length ∧ br.length ≤ 4) (lk : List (List Int)) (st : List S66)
include hb hlans hbr
theorem op_j1 (n kd : Int) (hkd : 0 ≤ kd ∧ kd ≤ 6) (i : Nat) (hi : i ≤ b.length) (fl : Bool) : EvP (fun k => script_reader_op.j1 k n kd fl b (i : Int) (lans : Int) br lk st kd 0 0 false 0) (OpAns b i) := by
  have hbr_ := hbr
  obtain ⟨v1, i1, e1, a1, b1, c1, d1, _⟩ := next_ok hb i hi
  have m1 := tmod_ok (m := (lans : Int)) a1 (by omega)
  have hz : ¬ ((lans : Int) = 0) := by omega
  cases fl
  · by_cases k3 : kd = 3
    · obtain ⟨v2, i2, e2, a2, b2, c2, d2, _⟩ := next_ok hb i1 d1
      obtain ⟨z, hzz⟩ := Int.eq_ofNat_of_zero_le (tmod_ok (m := 60) a2 (by decide)).1
      have hz2 := (tmod_ok (m := 60) a2 (by decide)).2
      have hzz' : Int.tmod v2 60 = (z : Int) := hzz
      obtain ⟨r, hr, g1, i3, g2, g3, g4⟩ := some_ok hb z (by omega) i2 d2
      obtain ⟨dat, p3⟩ := r
      have g1' : dat.length = z := g1
      have g2' : p3 = (i3 : Int) := g2
      subst g2'
      by_cases cn : n < 128
      · have hput : Ev (fun k => frame_Put.f k 1652522221568 769 (((([66, 66, 3] : List Int) ++ dat).length : Nat) : Int) ([66, 66, 3] ++ dat)) (if chk 1652522221568 769 (((([66, 66, 3] : List Int) ++ dat).length : Nat) : Int) (((([66, 66, 3] : List Int) ++ dat).length : Nat) : Int) = 0 then (fbytes 1652522221568 769 (((([66, 66, 3] : List Int) ++ dat).length : Nat) : Int) ([66, 66, 3] ++ dat), 0) else ([], chk 1652522221568 769 (((([66, 66, 3] : List Int) ++ dat).length : Nat) : Int) (((([66, 66, 3] : List Int) ++ dat).length : Nat) : Int))) := ⟨7, fun k hk => by
          obtain ⟨t, rfl⟩ : ∃ t, k = t + 7 := ⟨k - 7, by omega⟩
          show frame_Put.f (t + 7) _ _ _ _ = _
          rw [fput_eq t _ _ _ _ (by simp; omega) (by simp; omega)]
          split <;> rfl⟩
        obtain ⟨pr, hpr⟩ : ∃ pr, (if chk 1652522221568 769 (((([66, 66, 3] : List Int) ++ dat).length : Nat) : Int) (((([66, 66, 3] : List Int) ++ dat).length : Nat) : Int) = 0 then (fbytes 1652522221568 769 (((([66, 66, 3] : List Int) ++ dat).length : Nat) : Int) ([66, 66, 3] ++ dat), (0 : Int)) else ([], chk 1652522221568 769 (((([66, 66, 3] : List Int) ++ dat).length : Nat) : Int) (((([66, 66, 3] : List Int) ++ dat).length : Nat) : Int))) = pr := ⟨_, rfl⟩
        rw [hpr] at hput
        have hlen : pr.1.length ≤ 76 := by
          rw [← hpr]
          split
          · show (fbytes _ _ _ _).length ≤ 76
            rw [chk_len]
            simp
            omega
          · simp
        have hW : frame_Wrap.f 769 dat = some (1652522221568, 769, (((([66, 66, 3] : List Int) ++ dat).length : Nat) : Int), [66, 66, 3] ++ dat) := by
          unfold frame_Wrap.f
          rw [if_pos (by omega)]
        refine ⟨(kd, Int.tmod v1 (lans : Int), 0, false, 0, pr.1, (i3 : Int)), ?_, hkd, m1.1, hlen, i3, rfl, by omega, g4⟩
        refine Ev.bind (g := fun bt236 k => if n < 128 then ((script_address.f 3 0).bind fun t240 => ((frame_Wrap.f t240 bt236.1).bind fun bt241 => ((frame_Put.f k bt241.1 bt241.2.1 bt241.2.2.1 bt241.2.2.2).bind fun bt247 => (some (kd, Int.tmod v1 (lans : Int), 0, false, 0, bt247.1, bt236.2))))) else (some (kd, Int.tmod v1 (lans : Int), 0, false, 0, bt236.1, bt236.2))) (fun k => by rw [script_reader_op.j1, if_neg (by simp), if_pos k3, e1, Option.bind_some, if_neg hz, e2, Option.bind_some, hzz']) hr ?_
        simp only [if_pos cn]
        refine Ev.bind0 (g := fun bt247 k => some (kd, Int.tmod v1 (lans : Int), 0, false, 0, bt247.1, (i3 : Int))) (fun k => ?_) hput ⟨0, fun _ _ => rfl⟩
        rw [show (0 : Int) = ((0 : Nat) : Int) from rfl, addr_eq 3 0 (by omega) (by omega), Option.bind_some, show 256 * (3 : Int) + ((0 : Nat) : Int) + 1 = 769 by omega, hW, Option.bind_some]
      · refine ⟨(kd, Int.tmod v1 (lans : Int), 0, false, 0, dat, (i3 : Int)), ?_, hkd, m1.1, by show dat.length ≤ 76; omega, i3, rfl, by omega, g4⟩
        refine Ev.bind (g := fun bt236 k => if n < 128 then ((script_address.f 3 0).bind fun t240 => ((frame_Wrap.f t240 bt236.1).bind fun bt241 => ((frame_Put.f k bt241.1 bt241.2.1 bt241.2.2.1 bt241.2.2.2).bind fun bt247 => (some (kd, Int.tmod v1 (lans : Int), 0, false, 0, bt247.1, bt236.2))))) else (some (kd, Int.tmod v1 (lans : Int), 0, false, 0, bt236.1, bt236.2))) (fun k => by rw [script_reader_op.j1, if_neg (by simp), if_pos k3, e1, Option.bind_some, if_neg hz, e2, Option.bind_some, hzz']) hr ?_
        simp only [if_neg cn]
        exact ⟨0, fun _ _ => rfl⟩
    · by_cases k6 : kd = 6
      · obtain ⟨v2, i2, e2, a2, b2, c2, d2, _⟩ := next_ok hb i1 d1
        obtain ⟨v3, i3, e3, a3, b3, c3, d3, _⟩ := next_ok hb i2 d2
        obtain ⟨t, ht⟩ := to_ok v2 a2
        obtain ⟨z, hzz⟩ := Int.eq_ofNat_of_zero_le (tmod_ok (m := 3) a3 (by decide)).1
        have hz2 := (tmod_ok (m := 3) a3 (by decide)).2
        have hzz' : Int.tmod v3 3 = (z : Int) := hzz
        obtain ⟨r, hr, g1, i4, g2, g3, g4⟩ := some_ok hb z (by omega) i3 d3
        obtain ⟨dat, p3⟩ := r
        have g1' : dat.length = z := g1
        have g2' : p3 = (i4 : Int) := g2
        subst g2'
        refine ⟨(kd, Int.tmod v1 4, 0, false, t, dat, (i4 : Int)), ?_, hkd, (tmod_ok (m := 4) a1 (by decide)).1, by show dat.length ≤ 76; omega, i4, rfl, by omega, g4⟩
        exact Ev.bind (g := fun bt258 k => some (kd, Int.tmod v1 4, 0, false, t, bt258.1, bt258.2)) (fun k => by rw [script_reader_op.j1, if_neg (by simp), if_neg k3, if_pos k6, e1, Option.bind_some, e2, Option.bind_some, ht, Option.bind_some, e3, Option.bind_some, hzz']) hr ⟨0, fun _ _ => rfl⟩
      · refine EvP.now (v := (kd, 0, 0, false, 0, [], (i : Int))) (fun k => ?_) ⟨hkd, by show (0 : Int) ≤ 0; omega, by simp, i, rfl, Nat.le_refl _, hi⟩
        rw [script_reader_op.j1, if_neg (by simp), if_neg k3, if_neg k6]
  · obtain ⟨v2, i2, e2, a2, b2, c2, d2, _⟩ := next_ok hb i1 d1
    refine EvP.now (v := (kd, Int.tmod v1 (lans : Int), v2, false, 0, [], (i2 : Int))) (fun k => ?_) ⟨hkd, m1.1, by simp, i2, rfl, by omega, d2⟩
    rw [script_reader_op.j1, if_pos rfl, e1, Option.bind_some, if_neg hz, e2, Option.bind_some]
theorem op_j0 (n kd : Int) (hkd : 0 ≤ kd ∧ kd ≤ 6) (i : Nat) (hi : i ≤ b.length) (fl : Bool) : EvP (fun k => script_reader_op.j0 k n kd fl b (i : Int) (lans : Int) br lk st kd 0 0 false 0) (OpAns b i) := by
  obtain ⟨v1, i1, e1, a1, b1, c1, d1, _⟩ := next_ok hb i hi
  have m1 := tmod_ok (m := (br.length : Int)) a1 (by omega)
  have hz : ¬ ((br.length : Int) = 0) := by omega
  cases fl
  · by_cases k5 : kd = 5
    · obtain ⟨v2, i2, e2, a2, b2, c2, d2, _⟩ := next_ok hb i1 d1
      refine EvP.now (v := (kd, Int.tmod v1 (br.length : Int), Int.tmod v2 3, decide (n < 128), 0, [], (i2 : Int))) (fun k => ?_) ⟨hkd, m1.1, by simp, i2, rfl, by omega, d2⟩
      rw [script_reader_op.j0, if_neg (by simp), if_pos k5, e1, Option.bind_some, if_neg hz, e2, Option.bind_some]
    · by_cases k1 : kd = 1
      · refine EvP.step (fun k => ?_) (op_j1 hb lans hlans br hbr lk st n kd hkd i hi (kd == 1))
        rw [script_reader_op.j0, if_neg (by simp), if_neg k5, if_pos k1]
      · refine EvP.step (fun k => ?_) (op_j1 hb lans hlans br hbr lk st n kd hkd i hi (kd == 2))
        rw [script_reader_op.j0, if_neg (by simp), if_neg k5, if_neg k1]
  · refine EvP.now (v := (kd, Int.tmod v1 (br.length : Int), 0, false, 0, [], (i1 : Int))) (fun k => ?_) ⟨hkd, m1.1, by simp, i1, rfl, by omega, d1⟩
    rw [script_reader_op.j0, if_pos rfl, e1, Option.bind_some, if_neg hz]
/-- An op that was read, and that something was read. -/
theorem op_ok (i : Nat) (hi : i < b.length) : EvP (fun k => script_reader_op.f k b (i : Int) (lans : Int) br lk st) (OpAns b (i + 1)) := by
  obtain ⟨v1, i1, e1, a1, b1, c1, d1, h1⟩ := next_ok hb i (by omega)
  have hk := tmod_ok (m := 7) a1 (by decide)
  have h2 := h1 hi
  by_cases c : Int.tmod v1 7 = 0
  · obtain ⟨r, ⟨K, hK⟩, p1, p2, p3, i2, p4, p5, p6⟩ := op_j0 hb lans hlans br hbr lk st v1 (Int.tmod v1 7) (by omega) i1 d1 (Int.tmod v1 7 == 0)
    refine ⟨r, ⟨K, fun k hk => ?_⟩, p1, p2, p3, i2, p4, by omega, p6⟩
    show script_reader_op.f k b (i : Int) (lans : Int) br lk st = some r
    unfold script_reader_op.f
    rw [e1, Option.bind_some]
    simp only [if_pos c]
    exact hK k hk
  · obtain ⟨r, ⟨K, hK⟩, p1, p2, p3, i2, p4, p5, p6⟩ := op_j0 hb lans hlans br hbr lk st v1 (Int.tmod v1 7) (by omega) i1 d1 (Int.tmod v1 7 == 4)
    refine ⟨r, ⟨K, fun k hk => ?_⟩, p1, p2, p3, i2, p4, by omega, p6⟩
    show script_reader_op.f k b (i : Int) (lans : Int) br lk st = some r
    unfold script_reader_op.f
    rw [e1, Option.bind_some]
    simp only [if_neg c]
    exact hK k hk
end

/-- Ops as the law asks. -/
def OpsOk (l : List S39) : Prop := ∀ o ∈ l, 0 ≤ o.f0 ∧ o.f0 ≤ 6 ∧ 0 ≤ o.f1 ∧ o.f5.length ≤ 76
theorem read_l0 {b : List Int} (hb : Bytes b) (lans : Nat) (hlans : 1 ≤ lans ∧ lans ≤ 5) (br : List S51) (hbr : 1 ≤ br.length ∧ br.length ≤ 4) (lk : List (List Int)) (st : List S66) : ∀ q (i : Nat) (l : List S39), b.length - i ≤ q → i ≤ b.length → l.length ≤ i → l.length ≤ 8000 → OpsOk l →
    EvP (fun k => script_Read.l0 k b l b (i : Int) (lans : Int) br lk st) (fun r => ∃ l', r = ((lans : Int), br, lk, st, l') ∧ OpsOk l' ∧ l'.length ≤ 8000 ∧ l'.length ≤ b.length)
  | 0, i, l, hq, hi, hl, hl2, ho => by
    refine EvP.now (v := ((lans : Int), br, lk, st, l)) (fun k => ?_) ⟨l, rfl, ho, hl2, by omega⟩
    rw [script_Read.l0, if_neg (by omega)]
  | q + 1, i, l, hq, hi, hl, hl2, ho => by
    by_cases c : i < b.length
    · by_cases c2 : l.length < 8000
      · obtain ⟨r, hr, p1, p2, p3, i2, p4, p5, p6⟩ := op_ok hb lans hlans br hbr lk st i c
        obtain ⟨r1, r2, r3, r4, r5, r6, r7⟩ := r
        have p4' : r7 = (i2 : Int) := p4
        subst p4'
        obtain ⟨v, hv, hp⟩ := read_l0 hb lans hlans br hbr lk st q i2 (l ++ [⟨r1, r2, r3, r4, r5, r6⟩]) (by omega) p6 (by simp; omega) (by simp; omega) (fun o h => by
          rcases List.mem_append.1 h with h | h
          · exact ho o h
          · simp only [List.mem_singleton] at h
            subst h
            exact ⟨p1.1, p1.2, p2, p3⟩)
        refine ⟨v, Ev.bind (g := fun bt279 k => if l.length < 2199023255552 then (script_Read.l0 k b (l ++ [(⟨bt279.1, bt279.2.1, bt279.2.2.1, bt279.2.2.2.1, bt279.2.2.2.2.1, bt279.2.2.2.2.2.1⟩ : S39)]) b bt279.2.2.2.2.2.2 (lans : Int) br lk st) else none) (fun k => by rw [script_Read.l0, if_pos (by omega), if_pos (by omega)]) hr ?_, hp⟩
        simp only [if_pos (show l.length < 2199023255552 by omega)]
        exact hv
      · refine EvP.now (v := ((lans : Int), br, lk, st, l)) (fun k => ?_) ⟨l, rfl, ho, hl2, by omega⟩
        rw [script_Read.l0, if_pos (by omega), if_neg (by omega)]
    · refine EvP.now (v := ((lans : Int), br, lk, st, l)) (fun k => ?_) ⟨l, rfl, ho, hl2, by omega⟩
      rw [script_Read.l0, if_neg (by omega)]
/-- What is read of any bytes. -/
def ReadAns (b : List Int) (r : Int × List S51 × List (List Int) × List S66 × List S39) : Prop := OkT r.1 r.2.1 r.2.2.1 r.2.2.2.1 ∧ OpsOk r.2.2.2.2 ∧ r.2.2.2.2.length ≤ 8000 ∧ r.2.2.2.2.length ≤ b.length
theorem read_ok {b : List Int} (hb : Bytes b) : EvP (fun k => script_Read.f k b) (ReadAns b) := by
  obtain ⟨t, ht, hT, i, e, h0, h1⟩ := topo_ok hb 0 (Nat.zero_le _)
  obtain ⟨a, br, lk, st, ii⟩ := t
  have e' : ii = (i : Int) := e
  subst e'
  have ha := hT.lo
  have hn := hT.n1
  obtain ⟨l, hl⟩ := Int.eq_ofNat_of_zero_le (show 0 ≤ a by have : 1 ≤ a := ha.1; omega)
  have hl' : a = (l : Int) := hl
  subst hl'
  have ha' : 1 ≤ (l : Int) ∧ (l : Int) ≤ 5 := ha
  obtain ⟨v, hv, l', rfl, g1, g2, g3⟩ := read_l0 hb l (by omega) br hn lk st b.length i [] (by omega) h1 (Nat.zero_le _) (by simp) (fun o h => by cases h)
  refine ⟨((l : Int), br, lk, st, l'), ?_, hT, g1, g2, g3⟩
  refine Ev.bind0 (g := fun bt267 k => script_Read.l0 k b ([] : List S39) b bt267.2.2.2.2 bt267.1 bt267.2.1 bt267.2.2.1 bt267.2.2.2.1) (fun k => ?_) ht hv
  unfold script_Read.f treelinelaw24_ScriptTells.f
  rw [Option.bind_some]
  rfl

theorem same_l0 (l : List S39) (hl : l.length ≤ 10000) : ∀ m (j : Nat), j + m = l.length → Ev (fun k => treelineref24_SameOps.l0 k l l (j : Int)) true
  | 0, j, hj => by
    refine Ev.now fun k => ?_
    rw [treelineref24_SameOps.l0, if_neg (by omega)]
  | m + 1, j, hj => by
    refine Ev.step (fun k => ?_) (same_l0 l hl m (j + 1) (by omega))
    rw [treelineref24_SameOps.l0, if_pos (by omega), if_pos (by omega), if_pos (by omega), if_pos rfl, if_pos rfl, if_pos rfl, if_neg (by simp), if_pos rfl, if_pos rfl, psucc (by omega)]
theorem same_ok (l : List S39) (hl : l.length ≤ 10000) : Ev (fun k => treelineref24_SameOps.f k l l) true := by
  obtain ⟨K, hK⟩ := same_l0 l hl _ 0 (Nat.zero_add _)
  refine ⟨K, fun k hk => ?_⟩
  show treelineref24_SameOps.f k l l = some true
  unfold treelineref24_SameOps.f
  rw [if_pos rfl]
  exact hK k hk
theorem Ev.mono {α : Type} {A : Nat → Option α} {v : α} (hm : ∀ k, LeO (A k) (A (k + 1))) {K : Nat} (h : A K = some v) : Ev A v := ⟨K, fun k hk => by
  obtain ⟨d, rfl⟩ : ∃ d, k = K + d := ⟨k - K, by omega⟩
  clear hk
  induction d with
  | zero => exact h
  | succ d ih => exact hm (K + d) _ ih⟩
theorem awk : Ev (fun k => treelinelaw24_awake.f k) true := Ev.mono (K := 40) treelinelaw24_awake.mono (by kernel_rfl)
/-- What SameTopo needs of a network: as many rows of links as bridges, each as long as the bridge's ports. -/
structure Fit (br : List S51) (lk : List (List Int)) (st : List S66) : Prop where
  n1 : br.length ≤ 1000
  n2 : lk.length = br.length
  n3 : st.length ≤ 1000
  ln : ∀ j : Nat, j < br.length → (rd_L9 lk (j : Int)).length = (rd_T51 br (j : Int)).f7.length ∧ (rd_L9 lk (j : Int)).length ≤ 1000
theorem stopo_l2 (a : Int) (br : List S51) (lk : List (List Int)) (st : List S66) (h : st.length ≤ 1000) : ∀ m (j : Nat), j + m = st.length → Ev (fun k => treelineref24_SameTopo.l2 k (j : Int) a br lk st a br lk st) true
  | 0, j, hj => by
    refine Ev.now fun k => ?_
    rw [treelineref24_SameTopo.l2, if_neg (by omega)]
  | m + 1, j, hj => by
    refine Ev.step (fun k => ?_) (stopo_l2 a br lk st h m (j + 1) (by omega))
    rw [treelineref24_SameTopo.l2, if_pos (by omega), if_pos (by omega), if_pos (by omega), if_neg (by simp), psucc (by omega)]
theorem stopo_l1 (a : Int) (br : List S51) (lk : List (List Int)) (st : List S66) (h : Fit br lk st) (i : Nat) (hi : i < br.length) {x0 x1 x2 x3 x4 x5 x6 : Int} {ps : List S63} (hp : ps.length = (rd_T51 br (i : Int)).f7.length) (e : Ev (fun k => treelineref24_SameTopo.l0 k ((i + 1 : Nat) : Int) a br lk st a br lk st) true) : ∀ m (j : Nat), j + m = ps.length →
    Ev (fun k => treelineref24_SameTopo.l1 k (i : Int) (j : Int) a br lk st a br lk st x0 x1 x2 x3 x4 x5 x6 ps x0 x1 x2 x3 x4 x5 x6 ps) true
  | 0, j, hj => by
    have h1 := h.n1
    refine Ev.step (fun k => ?_) e
    rw [treelineref24_SameTopo.l1, if_neg (by omega), psucc (by omega)]
  | m + 1, j, hj => by
    have h1 := h.n1
    have h2 := h.n2
    obtain ⟨h3, h4⟩ := h.ln i hi
    refine Ev.step (fun k => ?_) (stopo_l1 a br lk st h i hi (x0 := x0) (x1 := x1) (x2 := x2) (x3 := x3) (x4 := x4) (x5 := x5) (x6 := x6) hp e m (j + 1) (by omega))
    rw [treelineref24_SameTopo.l1, if_pos (by omega), if_pos (by omega), if_pos (by omega), if_neg (by simp), if_pos (by omega), if_pos (by omega), if_pos (by omega), if_pos (by omega), if_pos (by omega), if_pos rfl, psucc (by omega)]
theorem stopo_l0 (a : Int) (br : List S51) (lk : List (List Int)) (st : List S66) (h : Fit br lk st) : ∀ m (i : Nat), i + m = br.length → Ev (fun k => treelineref24_SameTopo.l0 k (i : Int) a br lk st a br lk st) true
  | 0, i, hi => by
    refine Ev.step (fun k => ?_) (stopo_l2 a br lk st h.n3 _ 0 (Nat.zero_add _))
    rw [treelineref24_SameTopo.l0, if_neg (by omega)]
    rfl
  | m + 1, i, hi => by
    have h1 := h.n1
    have h2 := h.n2
    obtain ⟨h3, h4⟩ := h.ln i (by omega)
    have e1 := stopo_l1 a br lk st h i (by omega) (x0 := (rd_T51 br (i : Int)).f0) (x1 := (rd_T51 br (i : Int)).f1) (x2 := (rd_T51 br (i : Int)).f2) (x3 := (rd_T51 br (i : Int)).f3) (x4 := (rd_T51 br (i : Int)).f4) (x5 := (rd_T51 br (i : Int)).f5) (x6 := (rd_T51 br (i : Int)).f6) rfl (stopo_l0 a br lk st h m (i + 1) (by omega)) _ 0 (Nat.zero_add _)
    refine Ev.step (fun k => ?_) (Ev.step (A := fun k => treelineref24_SameTopo.j2 k (i : Int) false a br lk st a br lk st (rd_T51 br (i : Int)).f0 (rd_T51 br (i : Int)).f1 (rd_T51 br (i : Int)).f2 (rd_T51 br (i : Int)).f3 (rd_T51 br (i : Int)).f4 (rd_T51 br (i : Int)).f5 (rd_T51 br (i : Int)).f6 (rd_T51 br (i : Int)).f7 (rd_T51 br (i : Int)).f0 (rd_T51 br (i : Int)).f1 (rd_T51 br (i : Int)).f2 (rd_T51 br (i : Int)).f3 (rd_T51 br (i : Int)).f4 (rd_T51 br (i : Int)).f5 (rd_T51 br (i : Int)).f6 (rd_T51 br (i : Int)).f7) (fun k => ?_) e1)
    · rw [treelineref24_SameTopo.l0, if_pos (by omega), if_pos (by omega), if_pos (by omega), if_pos rfl, if_pos rfl, if_pos rfl, if_pos rfl, if_pos rfl, if_pos rfl, if_pos rfl, if_pos rfl, if_pos (by omega), if_pos (by omega), bne_self_eq_false]
    · show treelineref24_SameTopo.j2 (k + 1) _ _ _ _ _ _ _ _ _ _ _ _ _ _ _ _ _ _ _ _ _ _ _ _ _ _ = _
      rw [treelineref24_SameTopo.j2, if_neg (by simp)]
      rfl
theorem topo_same (a : Int) (br : List S51) (lk : List (List Int)) (st : List S66) (h : Fit br lk st) : Ev (fun k => treelineref24_SameTopo.f k a br lk st a br lk st) true := by
  have e0 := stopo_l0 a br lk st h _ 0 (Nat.zero_add _)
  refine Ev.step (A := fun k => treelineref24_SameTopo.f k a br lk st a br lk st) (fun k => ?_) e0
  show treelineref24_SameTopo.f (k + 1) a br lk st a br lk st = _
  unfold treelineref24_SameTopo.f treelineref24_SameTopo.g
  rw [if_pos ⟨rfl, rfl, rfl, rfl⟩, if_pos rfl, if_pos rfl, if_pos rfl, bne_self_eq_false, treelineref24_SameTopo.j0, if_neg (by simp)]
  rfl

theorem by_of {b : List Int} (hb : Bytes b) (i : Nat) (hi : i ≤ b.length) (n : Int) (hn : n ≠ 0) {v : Int} {i' : Nat} (h : script_reader_next.f b (i : Int) = some (v, (i' : Int))) : treelineref24_At_by.f b (i : Int) n = some (Int.tmod v n, (i' : Int)) := by
  have hl := hb.2
  unfold script_reader_next.f at h
  unfold treelineref24_At_by.f
  by_cases c : i < b.length
  · have h1 : wrap64 ((i : Int) + 1) = (i : Int) + 1 := w64 (by omega) (by omega)
    have h2 : wrap64 ((i : Int) + 1 - 1) = (i : Int) := by rw [w64 (by omega) (by omega)]; omega
    rw [if_neg (by omega), h1, h2, if_pos (by omega), if_pos (by omega)] at h
    have h3 := Option.some.inj h
    simp only [Prod.mk.injEq] at h3
    rw [if_pos (by omega), if_pos (by omega), if_neg hn, h3.1, h1, h3.2]
  · rw [if_pos (by omega)] at h
    have h3 := Option.some.inj h
    simp only [Prod.mk.injEq] at h3
    rw [if_neg (by omega), if_neg hn, ← h3.1, ← h3.2]
    simp
theorem t256 {v : Int} (h0 : 0 ≤ v) (h1 : v < 256) : Int.tmod v 256 = v := by rw [tmod_nn h0]; omega
section
variable {b : List Int} (hb : Bytes b) (nb : Int) (la : Int) (br : List S51) (lk : List (List Int)) (st : List S66) (l : List S39)
include hb
theorem r5 (n o0 o1 o2 : Int) (o3 : Bool) (o4 : Int) (m : Nat) (hm : m ≤ 60) : ∀ (k q i : Nat) (out : List Int) (s : List Int × Int), q ≤ m → i ≤ b.length → script_reader_some.l0 k out (m : Int) (q : Int) b (i : Int) = some s →
    ∃ i' : Nat, s.2 = (i' : Int) ∧ i' ≤ b.length ∧ ∀ R, Ev (fun k => treelineref24_Read.l5 k b nb l n (m : Int) (m : Int) b (i' : Int) la br lk st o0 o1 o2 o3 o4 s.1) R → Ev (fun k => treelineref24_Read.l5 k b nb l n (m : Int) (q : Int) b (i : Int) la br lk st o0 o1 o2 o3 o4 out) R
  | 0, _, _, _, _, _, _, h => by simp [script_reader_some.l0] at h
  | k + 1, q, i, out, s, hq, hi, h => by
    rw [script_reader_some.l0] at h
    by_cases c : q < m
    · rw [if_pos (by omega)] at h
      obtain ⟨v, i1, e1, v0, v1, g1, d1, _⟩ := next_ok hb i hi
      rw [e1, Option.bind_some] at h
      by_cases c2 : out.length < 140737488355328
      · rw [if_pos c2, psucc (by omega)] at h
        obtain ⟨i', p1, p2, p3⟩ := r5 n o0 o1 o2 o3 o4 m hm k (q + 1) i1 _ s (by omega) d1 h
        refine ⟨i', p1, p2, fun R hR => Ev.step (fun k => ?_) (p3 R hR)⟩
        rw [treelineref24_Read.l5, if_pos (by omega), by_of hb i hi 256 (by decide) e1, Option.bind_some, if_pos c2, psucc (by omega), t256 v0 v1]
      · rw [if_neg c2] at h; cases h
    · rw [if_neg (by omega)] at h
      cases h
      have e : q = m := by omega
      subst e
      exact ⟨i, rfl, hi, fun R hR => hR⟩
theorem r6 (o0 o1 o2 : Int) (o3 : Bool) (o4 : Int) (m : Nat) (hm : m ≤ 60) : ∀ (k q i : Nat) (out : List Int) (s : List Int × Int), q ≤ m → i ≤ b.length → script_reader_some.l0 k out (m : Int) (q : Int) b (i : Int) = some s →
    ∃ i' : Nat, s.2 = (i' : Int) ∧ i' ≤ b.length ∧ ∀ R, Ev (fun k => treelineref24_Read.l6 k b nb l (m : Int) (m : Int) b (i' : Int) la br lk st o0 o1 o2 o3 o4 s.1) R → Ev (fun k => treelineref24_Read.l6 k b nb l (m : Int) (q : Int) b (i : Int) la br lk st o0 o1 o2 o3 o4 out) R
  | 0, _, _, _, _, _, _, h => by simp [script_reader_some.l0] at h
  | k + 1, q, i, out, s, hq, hi, h => by
    rw [script_reader_some.l0] at h
    by_cases c : q < m
    · rw [if_pos (by omega)] at h
      obtain ⟨v, i1, e1, v0, v1, g1, d1, _⟩ := next_ok hb i hi
      rw [e1, Option.bind_some] at h
      by_cases c2 : out.length < 140737488355328
      · rw [if_pos c2, psucc (by omega)] at h
        obtain ⟨i', p1, p2, p3⟩ := r6 o0 o1 o2 o3 o4 m hm k (q + 1) i1 _ s (by omega) d1 h
        refine ⟨i', p1, p2, fun R hR => Ev.step (fun k => ?_) (p3 R hR)⟩
        rw [treelineref24_Read.l6, if_pos (by omega), by_of hb i hi 256 (by decide) e1, Option.bind_some, if_pos c2, psucc (by omega), t256 v0 v1]
      · rw [if_neg c2] at h; cases h
    · rw [if_neg (by omega)] at h
      cases h
      have e : q = m := by omega
      subst e
      exact ⟨i, rfl, hi, fun R hR => hR⟩
/-- The ports of a bridge. -/
theorem r1 (x7 : Int) (a p m hh d g t : Int) (n : Nat) (hn : n ≤ 10) : ∀ (k q i : Nat) (ps : List S63) (r : Int × Int × Int × Int × Int × Int × Int × List S63 × Int), q ≤ n → ps.length = q → i ≤ b.length → script_reader_conf.l0 k (n : Int) (q : Int) b (i : Int) a p m hh d g t ps = some r →
    ∃ (i' : Nat) (ps' : List S63), r = (a, p, m, hh, d, g, t, ps', (i' : Int)) ∧ ps'.length = n ∧ i' ≤ b.length ∧ ∀ R, Ev (fun k => treelineref24_Read.l1 k b nb x7 (n : Int) (n : Int) b (i' : Int) la br lk a p m hh d g t ps') R → Ev (fun k => treelineref24_Read.l1 k b nb x7 (n : Int) (q : Int) b (i : Int) la br lk a p m hh d g t ps) R
  | 0, _, _, _, _, _, _, _, h => by simp [script_reader_conf.l0] at h
  | k + 1, q, i, ps, r, hq, hp, hi, h => by
    rw [script_reader_conf.l0] at h
    by_cases c : q < n
    · rw [if_pos (by omega)] at h
      obtain ⟨v, i1, e1, v0, v1, g1, d1, _⟩ := next_ok hb i hi
      rw [e1, Option.bind_some] at h
      rw [if_pos (by omega), psucc (by omega)] at h
      obtain ⟨i', ps', p1, p2, p3, p4⟩ := r1 x7 a p m hh d g t n hn k (q + 1) i1 _ r (by omega) (by simp [hp]) d1 h
      refine ⟨i', ps', p1, p2, p3, fun R hR => Ev.step (fun k => ?_) (p4 R hR)⟩
      rw [treelineref24_Read.l1, if_pos (by omega), by_of hb i hi 256 (by decide) e1, Option.bind_some, if_pos (by omega), psucc (by omega), t256 v0 v1]
    · rw [if_neg (by omega)] at h
      cases h
      have e : q = n := by omega
      subst e
      exact ⟨i, ps, rfl, hp, hi, fun R hR => hR⟩
/-- The stations. -/
theorem r3 (n : Nat) (hn : n ≤ 10) : ∀ (k q i : Nat) (st : List S66) (r : Int × List S51 × List (List Int) × List S66 × Int), q ≤ n → i ≤ b.length → script_reader_topo.l2 k (n : Int) (q : Int) b (i : Int) la br lk st = some r →
    ∃ i' : Nat, r.2.2.2.2 = (i' : Int) ∧ i' ≤ b.length ∧ (r.1 = la ∧ r.2.1 = br) ∧ ∀ R, Ev (fun k => treelineref24_Read.l4 k b nb [] b (i' : Int) r.1 r.2.1 r.2.2.1 r.2.2.2.1) R → Ev (fun k => treelineref24_Read.l3 k b nb (n : Int) (q : Int) b (i : Int) la br lk st) R
  | 0, _, _, _, _, _, _, h => by simp [script_reader_topo.l2] at h
  | k + 1, q, i, st, r, hq, hi, h => by
    rw [script_reader_topo.l2] at h
    by_cases c : q < n
    · have cq : (q : Int) < (n : Int) := by omega
      have cp : q ≤ 100000 := by omega
      rw [if_pos cq] at h
      obtain ⟨ad, had, h⟩ := Option.bind_eq_some_iff.1 h
      rw [addr_eq 2 q (by omega) (by omega)] at had
      have had := Option.some.inj had
      have e2 : IntKind.u64.wrap (wrap64 (513 + (q : Int))) = ad := by rw [w64 (by omega) (by omega), wu64 (by omega) (by omega)]; omega
      obtain ⟨v, i1, e1, v0, v1, g1, d1, _⟩ := next_ok hb i hi
      rw [e1, Option.bind_some] at h
      have cn : q + 1 ≤ n := by omega
      by_cases hz : la = 0
      · rw [if_pos hz] at h; cases h
      · rw [if_neg hz, Option.bind_some] at h
        by_cases c2 : st.length + ([(⟨ad, Int.tmod v la⟩ : S66)] : List S66).length < 8796093022208
        · rw [if_pos c2, psucc cp] at h
          obtain ⟨i', p1, p2, p0, p3⟩ := r3 n hn k (q + 1) i1 _ r cn d1 h
          refine ⟨i', p1, p2, p0, fun R hR => Ev.step (fun k => ?_) (p3 R hR)⟩
          have c3 : st.length < 8796093022208 := Nat.lt_of_le_of_lt (Nat.le_add_right _ _) c2
          rw [treelineref24_Read.l3, if_pos cq, by_of hb i hi la hz e1, Option.bind_some, if_pos c3, psucc cp, e2]
        · rw [if_neg c2] at h; cases h
    · rw [if_neg (by omega)] at h
      cases h
      refine ⟨i, rfl, hi, ⟨rfl, rfl⟩, fun R hR => Ev.step (fun k => ?_) hR⟩
      rw [treelineref24_Read.l3, if_neg (by omega)]
mutual
theorem rT0 (n : Nat) (hn : n ≤ 10) : ∀ (k q i : Nat) (br : List S51) (lk : List (List Int)) (r : Int × List S51 × List (List Int) × List S66 × Int), q ≤ n → i ≤ b.length → script_reader_topo.l0 k (n : Int) (q : Int) b (i : Int) la br lk = some r →
    ∃ i' : Nat, r.2.2.2.2 = (i' : Int) ∧ i' ≤ b.length ∧ (br.length = q → r.1 = la ∧ r.2.1.length = n) ∧ ∀ R, Ev (fun k => treelineref24_Read.l4 k b (n : Int) [] b (i' : Int) r.1 r.2.1 r.2.2.1 r.2.2.2.1) R → Ev (fun k => treelineref24_Read.l0 k b (n : Int) (q : Int) b (i : Int) la br lk) R
  | 0, _, _, _, _, _, _, _, h => by simp [script_reader_topo.l0] at h
  | k + 1, q, i, br, lk, r, hq, hi, h => by
    rw [script_reader_topo.l0] at h
    by_cases c : q < n
    · have cq : (q : Int) < (n : Int) := by omega
      have cp1 : q ≤ 1000 := by omega
      have ea : IntKind.u64.wrap (wrap64 (257 + (q : Int))) = 256 * 1 + (q : Int) + 1 := by rw [w64 (by omega) (by omega), wu64 (by omega) (by omega)]; omega
      rw [if_pos cq] at h
      obtain ⟨s, hs, h⟩ := Option.bind_eq_some_iff.1 h
      unfold script_reader_conf.f at hs
      obtain ⟨v1, i1, e1, a1, b1, g1, d1, _⟩ := next_ok hb i hi
      obtain ⟨v2, i2, e2, a2, b2, g2, d2, _⟩ := next_ok hb i1 d1
      obtain ⟨v3, i3, e3, a3, b3, g3, d3, _⟩ := next_ok hb i2 d2
      obtain ⟨v4, i4, e4, a4, b4, g4, d4, _⟩ := next_ok hb i3 d3
      obtain ⟨v5, i5, e5, a5, b5, g5, d5, _⟩ := next_ok hb i4 d4
      obtain ⟨v6, i6, e6, a6, b6, g6, d6, _⟩ := next_ok hb i5 d5
      obtain ⟨v7, i7, e7, a7, b7, g7, d7, _⟩ := next_ok hb i6 d6
      rw [addr_eq 1 q (by decide) cp1, Option.bind_some, e1, Option.bind_some, e2, Option.bind_some, e3, Option.bind_some, e4, Option.bind_some, e5, Option.bind_some, e6, Option.bind_some, e7, Option.bind_some] at hs
      obtain ⟨z, hz⟩ := Int.eq_ofNat_of_zero_le (tmod_ok (m := 3) a7 (by decide)).1
      have hz2 := (tmod_ok (m := 3) a7 (by decide)).2
      have hz' : Int.tmod v7 3 = (z : Int) := hz
      have zb : z + 1 ≤ 10 := by clear hs h; omega
      have hw : wrap64 (1 + (z : Int)) = ((z + 1 : Nat) : Int) := by clear hs h; rw [w64 (by omega) (by omega)]; omega
      dsimp only at hs
      rw [hz', hw] at hs
      obtain ⟨i8, ps', p1, p2, p3, p4⟩ := r1 hb (n : Int) la br lk (q : Int) _ _ _ _ _ _ _ (z + 1) zb k 0 i7 [] s (Nat.zero_le _) rfl d7 hs
      subst p1
      dsimp only at h
      rw [p2] at h
      obtain ⟨i', q1, q2, q0, q3⟩ := rT1 n hn k [] q (z + 1) 0 i8 br lk _ _ _ _ _ _ _ _ r c (Nat.zero_le _) zb p3 h
      refine ⟨i', q1, q2, q0, fun R hR => Ev.step (fun k => ?_) (p4 R (Ev.step (fun k => ?_) (q3 R hR)))⟩
      · rw [treelineref24_Read.l0, if_pos cq, by_of hb i hi 4 (by decide) e1, Option.bind_some, by_of hb i1 d1 2 (by decide) e2, Option.bind_some, by_of hb i2 d2 20 (by decide) e3, Option.bind_some, by_of hb i3 d3 9 (by decide) e4, Option.bind_some, by_of hb i4 d4 16 (by decide) e5, Option.bind_some, by_of hb i5 d5 4 (by decide) e6, Option.bind_some, by_of hb i6 d6 3 (by decide) e7, Option.bind_some]
        dsimp only
        rw [hz', hw, ea, Int.mul_comm 4096]
        rfl
      · rw [treelineref24_Read.l1, if_neg (Int.lt_irrefl _)]
        rfl
    · have cq : ¬ ((q : Int) < (n : Int)) := by omega
      rw [if_neg cq] at h
      obtain ⟨v, i1, e1, a1, b1, g1, d1, _⟩ := next_ok hb i hi
      rw [e1, Option.bind_some] at h
      obtain ⟨z, hz⟩ := Int.eq_ofNat_of_zero_le (tmod_ok (m := 4) a1 (by decide)).1
      have hz2 := (tmod_ok (m := 4) a1 (by decide)).2
      have hz' : Int.tmod v 4 = (z : Int) := hz
      have zb : z ≤ 10 := by clear h; omega
      dsimp only at h
      rw [hz'] at h
      obtain ⟨i', q1, q2, q0, q3⟩ := r3 hb (n : Int) la br lk z zb k 0 i1 [] r (Nat.zero_le _) d1 h
      have hqn : q = n := by clear h; omega
      refine ⟨i', q1, q2, fun e => ⟨q0.1, by rw [q0.2, e, hqn]⟩, fun R hR => Ev.step (fun k => ?_) (q3 R hR)⟩
      rw [treelineref24_Read.l0, if_neg cq, by_of hb i hi 4 (by decide) e1, Option.bind_some]
      dsimp only
      rw [hz']
      rfl
theorem rT1 (n : Nat) (hn : n ≤ 10) : ∀ (k : Nat) (L : List Int) (q z x i : Nat) (br : List S51) (lk : List (List Int)) (a p m hh d g t : Int) (ps : List S63) (r : Int × List S51 × List (List Int) × List S66 × Int), q < n → x ≤ z → z ≤ 10 → i ≤ b.length → script_reader_topo.l1 k L (n : Int) (q : Int) (z : Int) (x : Int) b (i : Int) la br lk a p m hh d g t ps = some r →
    ∃ i' : Nat, r.2.2.2.2 = (i' : Int) ∧ i' ≤ b.length ∧ (br.length = q → r.1 = la ∧ r.2.1.length = n) ∧ ∀ R, Ev (fun k => treelineref24_Read.l4 k b (n : Int) [] b (i' : Int) r.1 r.2.1 r.2.2.1 r.2.2.2.1) R → Ev (fun k => treelineref24_Read.l2 k b (n : Int) (q : Int) (z : Int) L (x : Int) b (i : Int) la br lk a p m hh d g t ps) R
  | 0, _, _, _, _, _, _, _, _, _, _, _, _, _, _, _, _, _, _, _, _, h => by simp [script_reader_topo.l1] at h
  | k + 1, L, q, z, x, i, br, lk, a, p, m, hh, d, g, t, ps, r, hq, hx, hz10, hi, h => by
    rw [script_reader_topo.l1] at h
    have cp : x ≤ 100000 := by omega
    have cqp : q ≤ 100000 := by omega
    have cq1 : q + 1 ≤ n := by omega
    by_cases c1 : x < z
    · have cx : (x : Int) < (z : Int) := by omega
      have cx1 : x + 1 ≤ z := by omega
      rw [if_pos cx] at h
      obtain ⟨v, i1, e1, a1, b1, g1, d1, _⟩ := next_ok hb i hi
      rw [e1, Option.bind_some] at h
      by_cases hz : la = 0
      · rw [if_pos hz] at h; cases h
      · rw [if_neg hz, Option.bind_some] at h
        by_cases c2 : L.length + ([Int.tmod v la] : List Int).length < 17592186044416
        · rw [if_pos c2, psucc cp] at h
          obtain ⟨i', p1, p2, p0, p3⟩ := rT1 n hn k _ q z (x + 1) i1 br lk _ _ _ _ _ _ _ _ r hq cx1 hz10 d1 h
          refine ⟨i', p1, p2, p0, fun R hR => Ev.step (fun k => ?_) (p3 R hR)⟩
          have c3 : L.length < 17592186044416 := Nat.lt_of_le_of_lt (Nat.le_add_right _ _) c2
          rw [treelineref24_Read.l2, if_pos cx, by_of hb i hi la hz e1, Option.bind_some, if_pos c3, psucc cp]
        · rw [if_neg c2] at h; cases h
    · have cx : ¬ ((x : Int) < (z : Int)) := by omega
      rw [if_neg cx, Option.bind_some] at h
      by_cases c2 : br.length + ([(⟨a, p, m, hh, d, g, t, ps⟩ : S51)] : List S51).length < 1759218604441
      · rw [if_pos c2, Option.bind_some] at h
        by_cases c3 : lk.length + ([L] : List (List Int)).length < 5864062014805
        · rw [if_pos c3, psucc cqp] at h
          obtain ⟨i', p1, p2, p0, p3⟩ := rT0 n hn k (q + 1) i _ _ r cq1 hi h
          refine ⟨i', p1, p2, fun e => p0 (by rw [List.length_append, e]; rfl), fun R hR => Ev.step (fun k => ?_) (p3 R hR)⟩
          have c4 : br.length < 1759218604441 := Nat.lt_of_le_of_lt (Nat.le_add_right _ _) c2
          have c5 : lk.length < 5864062014805 := Nat.lt_of_le_of_lt (Nat.le_add_right _ _) c3
          rw [treelineref24_Read.l2, if_neg cx, if_pos c4, if_pos c5, psucc cqp]
        · rw [if_neg c3] at h; cases h
      · rw [if_neg c2] at h; cases h
end
end

theorem some_len {b : List Int} : ∀ (k : Nat) (q m : Nat) (out : List Int) (p : Int) (s : List Int × Int), q ≤ m → out.length = q → script_reader_some.l0 k out (m : Int) (q : Int) b p = some s → m ≤ 60 → s.1.length = m
  | 0, _, _, _, _, _, _, _, h, _ => by simp [script_reader_some.l0] at h
  | k + 1, q, m, out, p, s, hq, ho, h, hm => by
    rw [script_reader_some.l0] at h
    by_cases c : q < m
    · have c' : (q : Int) < (m : Int) := by omega
      have cp : q ≤ 100000 := by omega
      rw [if_pos c'] at h
      obtain ⟨t, ht, h⟩ := Option.bind_eq_some_iff.1 h
      by_cases c2 : out.length < 140737488355328
      · rw [if_pos c2, psucc cp] at h
        exact some_len k (q + 1) m _ _ s c (by simp [ho]) h hm
      · rw [if_neg c2] at h; cases h
    · have c' : ¬ ((q : Int) < (m : Int)) := by omega
      rw [if_neg c'] at h
      cases h
      show out.length = m
      omega
theorem leO_up {α : Type} {A : Nat → Option α} (hm : ∀ k, LeO (A k) (A (k + 1))) {k : Nat} {v : α} (h : A k = some v) : ∀ d, A (k + d) = some v
  | 0 => h
  | d + 1 => hm (k + d) v (leO_up hm h d)
theorem refput (y : List Int) (hy : y.length ≤ 200) : Ev (fun k => treelineref04_Put.f k 1652522221568 769 (IntKind.u16.wrap (y.length : Int)) y) (fbytes 1652522221568 769 (y.length : Int) y) := by
  obtain ⟨K1, h1⟩ : Ev (fun k => treelineref01_Put.f k 1652522221568) [1, 128, 194, 0, 0, 0] := Ev.mono (K := 20) (treelineref01_Put.mono _) (by kernel_rfl)
  obtain ⟨K2, h2⟩ : Ev (fun k => treelineref01_Put.f k 769) [0, 0, 0, 0, 3, 1] := Ev.mono (K := 20) (treelineref01_Put.mono _) (by kernel_rfl)
  dsimp only at h1 h2
  have e1 : IntKind.u16.wrap (y.length : Int) = (y.length : Int) := by rw [IntKind.wrap_u16]; omega
  have e2 : Int.tdiv (y.length : Int) 256 = 0 := by rw [Int.tdiv_eq_ediv_of_nonneg (by omega)]; omega
  have e3 : Int.tmod (y.length : Int) 256 = (y.length : Int) := by rw [tmod_nn (by omega)]; omega
  have e4 : (IntKind.u16.wrap 0) = 0 := by decide
  have e5 : (y.length : Int) / 256 % 256 = 0 := by omega
  refine ⟨K1 + K2, fun k hk => ?_⟩
  show treelineref04_Put.f k _ _ _ _ = _
  unfold treelineref04_Put.f
  rw [h1 k (by omega), Option.bind_some, h2 k (by omega), Option.bind_some, if_pos (by decide), Option.bind_some, Option.bind_some, if_pos (by simp), Option.bind_some, if_pos (by simp; omega), e1, e2, e3, e4]
  unfold fbytes
  rw [e5]
  rfl
section
variable {b : List Int} {nb la : Int} {br : List S51} {lk : List (List Int)} {st : List S66} {l : List S39} {i K o1 o2 o4 n : Int} {o3 : Bool} {d : List Int} {R : Int × List S51 × List (List Int) × List S66 × List S39}
theorem q14 (h6 : ¬ K = 6) (hl : l.length < 2199023255552) (e : Ev (fun k => treelineref24_Read.l4 k b nb (l ++ [(⟨K, o1, o2, o3, o4, d⟩ : S39)]) b i la br lk st) R) : Ev (fun k => treelineref24_Read.j14 k b nb l b i la br lk st K o1 o2 o3 o4 d) R :=
  Ev.step (fun k => by rw [treelineref24_Read.j14, if_neg h6, if_pos hl]) e
theorem q12 (h3 : ¬ K = 3) (e : Ev (fun k => treelineref24_Read.j14 k b nb l b i la br lk st K o1 o2 o3 o4 []) R) : Ev (fun k => treelineref24_Read.j12 k b nb l n b i la br lk st K o1 o2 o3 o4) R :=
  Ev.step (fun k => by rw [treelineref24_Read.j12, if_neg h3]) e
theorem q11 (e : Ev (fun k => treelineref24_Read.j12 k b nb l n b i la br lk st K o1 o2 o3 o4) R) : Ev (fun k => treelineref24_Read.j11 k b nb l n false b i la br lk st K o1 o2 o3 o4) R :=
  Ev.step (fun k => by rw [treelineref24_Read.j11, if_neg Bool.false_ne_true]) e
theorem q10 (h1 : ¬ K = 1) (h2 : (K == 2) = false) (e : Ev (fun k => treelineref24_Read.j12 k b nb l n b i la br lk st K o1 o2 o3 o4) R) : Ev (fun k => treelineref24_Read.j10 k b nb l n b i la br lk st K o1 o2 o3 o4) R :=
  Ev.step (fun k => by rw [treelineref24_Read.j10, if_neg h1, h2]) (q11 e)
theorem q9 (e : Ev (fun k => treelineref24_Read.j10 k b nb l n b i la br lk st K o1 o2 o3 o4) R) : Ev (fun k => treelineref24_Read.j9 k b nb l n false b i la br lk st K o1 o2 o3 o4) R :=
  Ev.step (fun k => by rw [treelineref24_Read.j9, if_neg Bool.false_ne_true]) e
theorem q8 (h : K = 0 ∨ 4 ≤ K) (e : Ev (fun k => treelineref24_Read.j10 k b nb l n b i la br lk st K o1 o2 o3 o4) R) : Ev (fun k => treelineref24_Read.j8 k b nb l n b i la br lk st K o1 o2 o3 o4) R :=
  Ev.step (fun k => by
    rw [treelineref24_Read.j8]
    by_cases c : K ≥ 1
    · rw [if_pos c, decide_eq_false (by omega)]
    · rw [if_neg c]) (q9 e)
theorem q8t (h : 1 ≤ K ∧ K ≤ 3) (e : Ev (fun k => treelineref24_Read.j9 k b nb l n true b i la br lk st K o1 o2 o3 o4) R) : Ev (fun k => treelineref24_Read.j8 k b nb l n b i la br lk st K o1 o2 o3 o4) R :=
  Ev.step (fun k => by rw [treelineref24_Read.j8, if_pos h.1, decide_eq_true h.2]) e
theorem q7 (h5 : ¬ K = 5) (e : Ev (fun k => treelineref24_Read.j8 k b nb l n b i la br lk st K o1 o2 o3 o4) R) : Ev (fun k => treelineref24_Read.j7 k b nb l n b i la br lk st K o1 o2 o3 o4) R :=
  Ev.step (fun k => by rw [treelineref24_Read.j7, if_neg h5]) e
theorem q6 (e : Ev (fun k => treelineref24_Read.j7 k b nb l n b i la br lk st K o1 o2 o3 o4) R) : Ev (fun k => treelineref24_Read.j6 k b nb l n false b i la br lk st K o1 o2 o3 o4) R :=
  Ev.step (fun k => by rw [treelineref24_Read.j6, if_neg Bool.false_ne_true]) e
/-- From 'which port of which bridge' on, of kinds that have nothing more. -/
theorem qT (h : K = 0 ∨ K = 4 ∨ K = 5) (hl : l.length < 2199023255552) (e : Ev (fun k => treelineref24_Read.l4 k b nb (l ++ [(⟨K, o1, o2, o3, o4, []⟩ : S39)]) b i la br lk st) R) : Ev (fun k => treelineref24_Read.j8 k b nb l n b i la br lk st K o1 o2 o3 o4) R :=
  q8 (by omega) (q10 (by omega) (by rcases h with h | h | h <;> subst h <;> rfl) (q12 (by omega) (q14 (by omega) hl e)))
end
section
variable {b : List Int} (hb : Bytes b) {la : Int} {br : List S51} {lk : List (List Int)} {st : List S66} {l : List S39} (hla : la ≠ 0) (hl : l.length < 2199023255552)
include hb hla hl
theorem ref_op (k i : Nat) (hi : i ≤ b.length) (s : Int × Int × Int × Bool × Int × List Int × Int) (h : script_reader_op.f k b (i : Int) la br lk st = some s) :
    ∃ i' : Nat, s.2.2.2.2.2.2 = (i' : Int) ∧ i' ≤ b.length ∧ ∀ R, Ev (fun k => treelineref24_Read.l4 k b (br.length : Int) (l ++ [(⟨s.1, s.2.1, s.2.2.1, s.2.2.2.1, s.2.2.2.2.1, s.2.2.2.2.2.1⟩ : S39)]) b (i' : Int) la br lk st) R → Ev (fun k => treelineref24_Read.j5 k b (br.length : Int) l true b (i : Int) la br lk st) R := by
  unfold script_reader_op.f at h
  obtain ⟨v, i1, e1, a1, b1, g1, d1, _⟩ := next_ok hb i hi
  rw [e1, Option.bind_some] at h
  have y1 := by_of hb i hi 256 (by decide) e1
  rw [t256 a1 b1] at y1
  obtain ⟨K, hK⟩ : ∃ K, Int.tmod v 7 = K := ⟨_, rfl⟩
  have hK0 := (tmod_ok (m := 7) a1 (by decide)).1
  have hK7 := (tmod_ok (m := 7) a1 (by decide)).2
  rw [hK] at hK0 hK7
  dsimp only at h
  rw [hK] at h
  obtain ⟨v2, i2, e2, a2, b2, g2, d2, _⟩ := next_ok hb i1 d1
  obtain ⟨v3, i3, e3, a3, b3, g3, d3, _⟩ := next_ok hb i2 d2
  cases k with
  | zero => 
    split at h <;> simp [script_reader_op.j0] at h
  | succ k =>
  by_cases k04 : K = 0 ∨ K = 4
  · -- a tick, a reboot
    have h' : script_reader_op.j0 (k + 1) v K true b (i1 : Int) la br lk st K 0 0 false 0 = some s := by
      rcases k04 with q | q <;> subst q
      · exact h
      · exact h
    rw [script_reader_op.j0, if_pos rfl, e2, Option.bind_some] at h'
    by_cases hz : (br.length : Int) = 0
    · rw [if_pos hz] at h'; cases h'
    · rw [if_neg hz] at h'
      cases h'
      refine ⟨i2, rfl, d2, fun R hR => Ev.step (A' := fun k => treelineref24_Read.j6 k b (br.length : Int) l v true b (i1 : Int) la br lk st K 0 0 false 0) (fun k => ?_) (Ev.step (fun k => ?_) (q7 (n := v) (by omega) (qT (by omega) hl hR)))⟩
      · rw [treelineref24_Read.j5, if_pos rfl, y1, Option.bind_some]
        dsimp only
        rw [hK]
        rcases k04 with q | q <;> subst q
        · rw [if_pos rfl]
        · rw [if_neg (by decide), if_pos rfl]
      · rw [treelineref24_Read.j6, if_pos rfl, by_of hb i1 d1 _ hz e2, Option.bind_some]
  · have f04 : ¬ K = 0 ∧ ¬ K = 4 := by omega
    rw [if_neg f04.1, show (K == 4) = false from by simp [f04.2]] at h
    rw [script_reader_op.j0, if_neg Bool.false_ne_true] at h
    have j5s : ∀ (k : Nat), treelineref24_Read.j5 (k + 1) b (br.length : Int) l true b (i : Int) la br lk st = treelineref24_Read.j6 k b (br.length : Int) l v (K == 5) b (i1 : Int) la br lk st K 0 0 false 0 := by
      intro k
      rw [treelineref24_Read.j5, if_pos rfl, y1, Option.bind_some]
      dsimp only
      rw [hK, if_neg f04.1, if_neg f04.2]
    by_cases k5 : K = 5
    · subst k5
      rw [if_pos rfl, e2, Option.bind_some] at h
      by_cases hz : (br.length : Int) = 0
      · rw [if_pos hz] at h; cases h
      · rw [if_neg hz, e3, Option.bind_some] at h
        cases h
        refine ⟨i3, rfl, d3, fun R hR => Ev.step j5s (Ev.step (A' := fun k => treelineref24_Read.j7 k b (br.length : Int) l v b (i2 : Int) la br lk st 5 (Int.tmod v2 (br.length : Int)) 0 false 0) (fun k => ?_) (Ev.step (fun k => ?_) (qT (n := v) (by omega) hl hR)))⟩
        · rw [show ((5 : Int) == 5) = true from rfl, treelineref24_Read.j6, if_pos rfl, by_of hb i1 d1 _ hz e2, Option.bind_some]
        · rw [treelineref24_Read.j7, if_pos rfl, by_of hb i2 d2 3 (by decide) e3, Option.bind_some]
    · rw [if_neg k5] at h
      have j6s : ∀ (k : Nat), treelineref24_Read.j5 (k + 1) b (br.length : Int) l true b (i : Int) la br lk st = treelineref24_Read.j6 k b (br.length : Int) l v false b (i1 : Int) la br lk st K 0 0 false 0 := by
        intro k
        rw [j5s, show (K == 5) = false from by simp [k5]]
      by_cases k12 : K = 1 ∨ K = 2
      · -- what happens to what a LAN has
        have h' : script_reader_op.j1 k v K true b (i1 : Int) la br lk st K 0 0 false 0 = some s := by
          rcases k12 with q | q <;> subst q
          · exact h
          · exact h
        cases k with
        | zero => simp [script_reader_op.j1] at h'
        | succ k =>
        rw [script_reader_op.j1, if_pos rfl, e2, Option.bind_some, if_neg hla, e3, Option.bind_some] at h'
        cases h'
        have y3 := by_of hb i2 d2 256 (by decide) e3
        rw [t256 a3 b3] at y3
        refine ⟨i3, rfl, d3, fun R hR => Ev.step j6s (q6 (q7 k5 (q8t (by omega) (Ev.step (A' := fun k => treelineref24_Read.j10 k b (br.length : Int) l v b (i2 : Int) la br lk st K (Int.tmod v2 la) 0 false 0) (fun k => ?_) (Ev.step (A' := fun k => treelineref24_Read.j11 k b (br.length : Int) l v true b (i2 : Int) la br lk st K (Int.tmod v2 la) 0 false 0) (fun k => ?_) (Ev.step (fun k => ?_) (q12 (n := v) (by omega) (q14 (by omega) hl hR))))))))⟩
        · rw [treelineref24_Read.j9, if_pos rfl, by_of hb i1 d1 la hla e2, Option.bind_some]
        · rcases k12 with q | q <;> subst q
          · rw [treelineref24_Read.j10, if_pos rfl]
          · rw [treelineref24_Read.j10, if_neg (by decide)]
            rfl
        · rw [treelineref24_Read.j11, if_pos rfl, y3, Option.bind_some]
      · have f12 : ¬ K = 1 ∧ ¬ K = 2 := by omega
        rw [if_neg f12.1, show (K == 2) = false from by simp [f12.2]] at h
        cases k with
        | zero => simp [script_reader_op.j1] at h
        | succ k =>
        rw [script_reader_op.j1, if_neg Bool.false_ne_true] at h
        by_cases k3 : K = 3
        · subst k3
          rw [if_pos rfl, e2, Option.bind_some, if_neg hla, e3, Option.bind_some] at h
          obtain ⟨z, hz⟩ := Int.eq_ofNat_of_zero_le (tmod_ok (m := 60) a3 (by decide)).1
          have hz2 := (tmod_ok (m := 60) a3 (by decide)).2
          have hz' : Int.tmod v3 60 = (z : Int) := hz
          have zb : z ≤ 60 := by clear h; omega
          dsimp only at h
          rw [hz'] at h
          obtain ⟨dd, hdd, h⟩ := Option.bind_eq_some_iff.1 h
          have hlen := some_len k 0 z [] _ dd (Nat.zero_le _) rfl hdd zb
          obtain ⟨i4, p1, p2, p3⟩ := r5 hb (br.length : Int) la br lk st l v 3 (Int.tmod v2 la) 0 false 0 z zb k 0 i3 [] dd (Nat.zero_le _) d3 hdd
          have head : ∀ (dat : List Int) (R), Ev (fun k => treelineref24_Read.l5 k b (br.length : Int) l v (z : Int) (z : Int) b (i4 : Int) la br lk st 3 (Int.tmod v2 la) 0 false 0 dd.1) R → Ev (fun k => treelineref24_Read.j5 k b (br.length : Int) l true b (i : Int) la br lk st) R := by
            intro dat R hR
            refine Ev.step j6s (q6 (q7 k5 (q8t (by omega) (Ev.step (A' := fun k => treelineref24_Read.j10 k b (br.length : Int) l v b (i2 : Int) la br lk st 3 (Int.tmod v2 la) 0 false 0) (fun k => ?_) (q10 (by decide) rfl (Ev.step (A' := fun k => treelineref24_Read.l5 k b (br.length : Int) l v (z : Int) ((0 : Nat) : Int) b (i3 : Int) la br lk st 3 (Int.tmod v2 la) 0 false 0 []) (fun k => ?_) (p3 R hR)))))))
            · rw [treelineref24_Read.j9, if_pos rfl, by_of hb i1 d1 la hla e2, Option.bind_some]
            · rw [treelineref24_Read.j12, if_pos rfl, by_of hb i2 d2 60 (by decide) e3, Option.bind_some]
              dsimp only
              rw [hz']
              rfl
          by_cases cn : v < 128
          · rw [if_pos cn] at h
            obtain ⟨t, ht, h⟩ := Option.bind_eq_some_iff.1 h
            obtain ⟨u, hu, h⟩ := Option.bind_eq_some_iff.1 h
            obtain ⟨w, hw, h⟩ := Option.bind_eq_some_iff.1 h
            cases h
            rw [show (0 : Int) = ((0 : Nat) : Int) from rfl, addr_eq 3 0 (by decide) (by decide)] at ht
            have ht := Option.some.inj ht
            have ht' : t = 769 := by rw [← ht]; rfl
            subst ht'
            have hL : (([66, 66, 3] : List Int) ++ dd.1).length = 3 + dd.1.length := by simp; omega
            unfold frame_Wrap.f at hu
            rw [if_pos (by omega)] at hu
            cases hu
            have hw7 := leO_up (frame_Put.mono _ _ _ _) hw 7
            have hc : chk 1652522221568 769 ((([66, 66, 3] : List Int) ++ dd.1).length : Int) ((([66, 66, 3] : List Int) ++ dd.1).length : Int) = 0 := by
              unfold chk
              rw [hL, if_neg (by omega), if_neg (by omega), if_neg (by omega), if_neg (by omega)]
            have hw8 : frame_Put.f (k + 7) 1652522221568 769 ((([66, 66, 3] : List Int) ++ dd.1).length : Int) ([66, 66, 3] ++ dd.1) = some w := hw7
            clear hw7
            rw [fput_eq k _ _ _ _ (by omega) (by omega), if_pos hc] at hw8
            cases hw8
            refine ⟨i4, p1, p2, fun R hR => head dd.1 R ?_⟩
            refine Ev.step (A' := fun k => (treelineref04_Put.f k 1652522221568 769 (IntKind.u16.wrap ((([66, 66, 3] : List Int) ++ dd.1).length : Int)) ([66, 66, 3] ++ dd.1)).bind fun t423 => treelineref24_Read.j14 k b (br.length : Int) l b (i4 : Int) la br lk st 3 (Int.tmod v2 la) 0 false 0 t423) (fun k => ?_) (Ev.bind0 (fun k => rfl) (refput _ (by omega)) (q14 (by decide) hl hR))
            rw [treelineref24_Read.l5, if_neg (Int.lt_irrefl _), if_pos cn, Option.bind_some, if_pos (by simp; omega), Option.bind_some]
          · rw [if_neg cn] at h
            cases h
            refine ⟨i4, p1, p2, fun R hR => head dd.1 R (Ev.step (fun k => ?_) (q14 (K := 3) (by decide) hl hR))⟩
            rw [treelineref24_Read.l5, if_neg (Int.lt_irrefl _), if_neg cn]
        · have k6 : K = 6 := by omega
          subst k6
          rw [if_neg k3, if_pos rfl, e2, Option.bind_some, e3, Option.bind_some] at h
          obtain ⟨t, ht, h⟩ := Option.bind_eq_some_iff.1 h
          obtain ⟨v4, i4, e4, a4, b4, g4, d4, _⟩ := next_ok hb i3 d3
          rw [e4, Option.bind_some] at h
          obtain ⟨z, hz⟩ := Int.eq_ofNat_of_zero_le (tmod_ok (m := 3) a4 (by decide)).1
          have hz2 := (tmod_ok (m := 3) a4 (by decide)).2
          have hz' : Int.tmod v4 3 = (z : Int) := hz
          have zb : z ≤ 60 := by clear h; omega
          dsimp only at h
          rw [hz'] at h
          obtain ⟨dd, hdd, h⟩ := Option.bind_eq_some_iff.1 h
          cases h
          obtain ⟨i5, p1, p2, p3⟩ := r6 hb (br.length : Int) la br lk st l 6 (Int.tmod v2 4) 0 false t z zb k 0 i4 [] dd (Nat.zero_le _) d4 hdd
          refine ⟨i5, p1, p2, fun R hR => Ev.step j6s (q6 (q7 k5 (q8 (by omega) (q10 (by decide) rfl (q12 (n := v) (by decide) (Ev.step (A' := fun k => treelineref24_Read.j15 k b (br.length : Int) l b (i3 : Int) la br lk st 6 (Int.tmod v2 4) 0 false t []) (fun k => ?_) (Ev.step (A' := fun k => treelineref24_Read.l6 k b (br.length : Int) l (z : Int) ((0 : Nat) : Int) b (i4 : Int) la br lk st 6 (Int.tmod v2 4) 0 false t []) (fun k => ?_) (p3 R (Ev.step (fun k => ?_) hR)))))))))⟩
          · rw [treelineref24_Read.j14, if_pos rfl, by_of hb i1 d1 4 (by decide) e2, Option.bind_some]
            dsimp only
            rw [by_of hb i2 d2 5 (by decide) e3, Option.bind_some]
            dsimp only
            unfold script_to.f at ht
            by_cases c4 : Int.tmod v3 5 = 4
            · rw [if_pos c4] at ht ⊢
              cases ht
              rfl
            · obtain ⟨y, hy⟩ := Int.eq_ofNat_of_zero_le (tmod_ok (m := 5) a3 (by decide)).1
              have hy2 := (tmod_ok (m := 5) a3 (by decide)).2
              have hy' : Int.tmod v3 5 = (y : Int) := hy
              have yb : y ≤ 1000 := by clear ht; omega
              rw [if_neg c4, hy', addr_eq 2 y (by decide) yb, Option.bind_some] at ht
              have ht := Option.some.inj ht
              rw [if_neg c4, hy', ← ht, show IntKind.u64.wrap (wrap64 (513 + (y : Int))) = 256 * 2 + (y : Int) + 1 from by rw [w64 (by omega) (by omega), wu64 (by omega) (by omega)]; omega]
          · rw [treelineref24_Read.j15, by_of hb i3 d3 3 (by decide) e4, Option.bind_some]
            dsimp only
            rw [hz']
            rfl
          · rw [treelineref24_Read.l6, if_neg (Int.lt_irrefl _), if_pos hl]
end

theorem z_lem (z : Nat) (h : (z : Int) < 4) : z + 1 ≤ 10 ∧ wrap64 (1 + (z : Int)) = ((z + 1 : Nat) : Int) := ⟨by omega, by rw [w64 (by omega) (by omega)]; omega⟩
theorem y_lem (y : Nat) (h : (y : Int) < 5) : wrap64 (1 + (y : Int)) = 1 + (y : Int) ∧ (1 + (y : Int)) ≠ 0 := ⟨by rw [w64 (by omega) (by omega)], by omega⟩
theorem ref_ops {b : List Int} (hb : Bytes b) {la : Int} {br : List S51} {lk : List (List Int)} {st : List S66} (hla : la ≠ 0) : ∀ (k : Nat) (l : List S39) (i : Nat) (R : Int × List S51 × List (List Int) × List S66 × List S39), i ≤ b.length →
    script_Read.l0 k b l b (i : Int) la br lk st = some R → Ev (fun k => treelineref24_Read.l4 k b (br.length : Int) l b (i : Int) la br lk st) R
  | 0, _, _, _, _, h => by simp [script_Read.l0] at h
  | k + 1, l, i, R, hi, h => by
    rw [script_Read.l0] at h
    by_cases c1 : (i : Int) < (b.length : Int)
    · rw [if_pos c1] at h
      by_cases c2 : (l.length : Int) < 8000
      · rw [if_pos c2] at h
        obtain ⟨s, hs, h⟩ := Option.bind_eq_some_iff.1 h
        by_cases c3 : l.length < 2199023255552
        · rw [if_pos c3] at h
          obtain ⟨i', p1, p2, p3⟩ := ref_op hb hla c3 k i hi s hs
          rw [p1] at h
          refine Ev.step (fun k => ?_) (p3 R (ref_ops hb hla k _ i' R p2 h))
          rw [treelineref24_Read.l4, if_pos c1, decide_eq_true c2]
        · rw [if_neg c3] at h; cases h
      · rw [if_neg c2] at h
        cases h
        refine Ev.step (A' := fun k => treelineref24_Read.j5 k b (br.length : Int) l false b (i : Int) la br lk st) (fun k => ?_) (Ev.now fun k => ?_)
        · rw [treelineref24_Read.l4, if_pos c1, decide_eq_false c2]
        · rw [treelineref24_Read.j5, if_neg Bool.false_ne_true]
    · rw [if_neg c1] at h
      cases h
      refine Ev.step (A' := fun k => treelineref24_Read.j5 k b (br.length : Int) l false b (i : Int) la br lk st) (fun k => ?_) (Ev.now fun k => ?_)
      · rw [treelineref24_Read.l4, if_neg c1]
      · rw [treelineref24_Read.j5, if_neg Bool.false_ne_true]
theorem ref_read {b : List Int} (hb : Bytes b) (k : Nat) (R : Int × List S51 × List (List Int) × List S66 × List S39) (h : script_Read.f k b = some R) : Ev (fun k => treelineref24_Read.f k b) R := by
  unfold script_Read.f treelinelaw24_ScriptTells.f at h
  rw [Option.bind_some] at h
  obtain ⟨r, hr, h⟩ := Option.bind_eq_some_iff.1 h
  unfold script_reader_topo.f at hr
  obtain ⟨v1, i1, e1, a1, b1, g1, d1, _⟩ := next_ok hb 0 (Nat.zero_le _)
  obtain ⟨v2, i2, e2, a2, b2, g2, d2, _⟩ := next_ok hb i1 d1
  have e1' : script_reader_next.f b 0 = some (v1, (i1 : Int)) := e1
  dsimp only at hr
  rw [e1', Option.bind_some] at hr
  dsimp only at hr
  rw [e2, Option.bind_some] at hr
  dsimp only at hr
  obtain ⟨z, hz⟩ := Int.eq_ofNat_of_zero_le (tmod_ok (m := 4) a2 (by decide)).1
  have hz2 := (tmod_ok (m := 4) a2 (by decide)).2
  have hz' : Int.tmod v2 4 = (z : Int) := hz
  obtain ⟨y, hy⟩ := Int.eq_ofNat_of_zero_le (tmod_ok (m := 5) a1 (by decide)).1
  have hy2 := (tmod_ok (m := 5) a1 (by decide)).2
  have hy' : Int.tmod v1 5 = (y : Int) := hy
  obtain ⟨zb, hw⟩ := z_lem z (hz' ▸ hz2)
  obtain ⟨hw2, hla⟩ := y_lem y (hy' ▸ hy2)
  rw [hz', hw, hy', hw2] at hr
  obtain ⟨i3, p1, p2, p0, p3⟩ := rT0 hb (1 + (y : Int)) (z + 1) zb k 0 i2 [] [] r (Nat.zero_le _) d2 hr
  obtain ⟨q1, q2⟩ := p0 rfl
  obtain ⟨ra, rb, rc, rd, rp⟩ := r
  have q1' : ra = 1 + (y : Int) := q1
  have q2' : rb.length = z + 1 := q2
  have p1' : rp = (i3 : Int) := p1
  subst q1' p1'
  have hops := ref_ops hb (br := rb) (lk := rc) (st := rd) hla k [] i3 R p2 h
  rw [q2'] at hops
  have h0 := p3 R hops
  obtain ⟨K, hK⟩ := h0
  dsimp only at hK
  refine ⟨K, fun k hk => ?_⟩
  show treelineref24_Read.f k b = some R
  have y1 : treelineref24_At_by.f b 0 5 = some (Int.tmod v1 5, (i1 : Int)) := by_of hb 0 (Nat.zero_le _) 5 (by decide) e1
  unfold treelineref24_Read.f treelinelaw24_ScriptFront.f
  rw [Option.bind_some]
  dsimp only
  rw [y1, Option.bind_some]
  dsimp only
  rw [by_of hb i1 d1 4 (by decide) e2, Option.bind_some]
  dsimp only
  rw [hz', hw, hy', hw2]
  exact hK k hk

theorem reads_main (l0 : List Int) (hw : ∀ x ∈ l0, 0 ≤ x ∧ x < 256) (hl : l0.length ≤ 40000) : Ev (fun k => treelinelaw24_ScriptReads.j0 k l0 false) true := by
  have hB : Bytes l0 := ⟨hw, by omega⟩
  obtain ⟨ra, ea, ta, _, a8, _⟩ := read_ok hB
  obtain ⟨Ka, hKa⟩ := ea
  dsimp only at hKa
  obtain ⟨Kr, hKr⟩ := ref_read hB Ka ra (hKa Ka (Nat.le_refl _))
  dsimp only at hKr
  obtain ⟨xa, xb, xc, xd, oa⟩ := ra
  have a8' : oa.length ≤ 8000 := a8
  have ta' : OkT xa xb xc xd := ta
  have F : Fit xb xc xd := ⟨by have := ta'.n1.2; omega, ta'.n2, by have := ta'.n3; omega, fun j hj => ⟨(ta'.ln j hj).1, by have := (ta'.ln j hj).2.1; omega⟩⟩
  have n2 := ta'.n2
  obtain ⟨Kt, hKt⟩ := topo_same xa xb xc xd F
  obtain ⟨Ks, hKs⟩ := same_ok oa (by omega)
  dsimp only at hKs hKt
  clear ta ta' F a8 a8' hw hB
  refine ⟨Ka + Kr + Ks + Kt + 1, fun k hk => ?_⟩
  obtain ⟨k, rfl⟩ : ∃ m, k = m + 1 := ⟨k - 1, by omega⟩
  show treelinelaw24_ScriptReads.j0 (k + 1) l0 false = some true
  rw [treelinelaw24_ScriptReads.j0, if_neg Bool.false_ne_true, hKa k (by omega), Option.bind_some, hKr k (by omega), Option.bind_some]
  dsimp only
  rw [if_pos (by rw [n2]), hKt k (by omega), Option.bind_some, if_pos rfl, hKs k (by omega)]
  rfl
theorem scriptReads (l0 : List Int) (hw : ∀ x ∈ l0, 0 ≤ x ∧ x < 256) : ∃ k, treelinelaw24_ScriptReads.f k l0 = some true := by
  obtain ⟨K0, h0⟩ := awk
  dsimp only at h0
  have key : Ev (fun k => treelinelaw24_ScriptReads.j0 k l0 (decide ((l0.length : Int) > 40000))) true := by
    by_cases c : (l0.length : Int) > 40000
    · rw [decide_eq_true c]
      exact Ev.bind (g := fun t k => some t) (fun k => by rw [treelinelaw24_ScriptReads.j0, if_pos rfl]) awk ⟨0, fun _ _ => rfl⟩
    · rw [decide_eq_false c]
      exact reads_main l0 hw (by omega)
  obtain ⟨K1, hk1⟩ := key
  dsimp only at hk1
  refine ⟨K0 + K1, ?_⟩
  unfold treelinelaw24_ScriptReads.f
  rw [h0 _ (by omega), Option.bind_some, if_pos rfl]
  exact hk1 _ (by omega)

theorem ScriptReads (W : World) (l : List Int) (w0 : ∀ y ∈ l, (Lit.int .u8 y).wf = true) (hG : Llc.Glob W) {A : Option Addr} {c : Nat} (hC : (Kd.int .u8).C W A l.length l) (hc : l.length ≤ c) :
    Calls Tryd.prog 3 #[.slice A l.length c] W fun e w' => e = .returned (.bool true) ∧ Below W.heap.size W w' := by
  obtain ⟨k, hk⟩ := scriptReads l (fun x h => wf_u8 (w0 x h))
  exact treelinelaw24_ScriptReads.calls k A c l true W hC hc hk ⟨hG⟩

end Go.Proofs.YtiikllgppmmiaaaDoor.Pure
