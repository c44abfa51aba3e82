/- What is proved: what is put by bytes below 128 is a frame that bridges tell each other (ScriptTells). For every data and every LAN; no further condition. -/
import Derived.Test.YtiikllgppmmiaaaDoorOScriptTellsx15
import Derived.Test.YtiikllgppmmiaaaDoorAr
namespace Go.Proofs.YtiikllgppmmiaaaDoor.Pure
open Go.RowKit Go.Proofs.YtiikllgppmmiaaaDoor.OScriptTells Go.Proofs.YtiikllgppmmiaaaDoorW.PrintWords Go.Proofs.YtiikllgppmmiaaaDoorW.PrintLast Go.Proofs.YtiikllgppmmiaaaDoorW.PrintMore Go.Proofs.YtiikllgppmmiaaaDoor.Ar
set_option linter.unusedVariables false
set_option linter.unusedSimpArgs false
/-- From some fuel on it answers v. -/
def Ev {α : Type} (A : Nat → Option α) (v : α) : Prop := ∃ K, ∀ k, K ≤ k → A k = some v
theorem Ev.now {α : Type} {A : Nat → Option α} {v : α} (h : ∀ k, A (k + 1) = some v) : Ev A v := ⟨1, fun k hk => by
  obtain ⟨m, rfl⟩ : ∃ m, k = m + 1 := ⟨k - 1, by omega⟩
  exact h m⟩
theorem Ev.step {α : Type} {A A' : Nat → Option α} {v : α} (h : ∀ k, A (k + 1) = A' k) (e : Ev A' v) : Ev A v := by
  obtain ⟨K, hK⟩ := e
  refine ⟨K + 1, fun k hk => ?_⟩
  obtain ⟨m, rfl⟩ : ∃ m, k = m + 1 := ⟨k - 1, by omega⟩
  rw [h m]
  exact hK m (by omega)
theorem Ev.bind {α β : Type} {A : Nat → Option α} {f : Nat → Option β} {g : β → Nat → Option α} {t : β} {v : α} (h : ∀ k, A (k + 1) = (f k).bind fun t => g t k) (hf : Ev f t) (e : Ev (g t) v) : Ev A v := by
  obtain ⟨K, hK⟩ := e
  obtain ⟨K2, hK2⟩ := hf
  refine ⟨K + K2 + 1, fun k hk => ?_⟩
  obtain ⟨m, rfl⟩ : ∃ m, k = m + 1 := ⟨k - 1, by omega⟩
  rw [h m, hK2 m (by omega)]
  exact hK m (by omega)
/-- Two programs that come to one answer. -/
def Same {α : Type} (A B : Nat → Option α) : Prop := ∃ v, Ev A v ∧ Ev B v

/-- From some fuel on it answers what Φ says. -/
def EvP {α : Type} (A : Nat → Option α) (Φ : α → Prop) : Prop := ∃ v, Ev A v ∧ Φ v
theorem EvP.step {α : Type} {A A' : Nat → Option α} {Φ : α → Prop} (h : ∀ k, A (k + 1) = A' k) (e : EvP A' Φ) : EvP A Φ := by
  obtain ⟨v, hv, hp⟩ := e
  exact ⟨v, Ev.step h hv, hp⟩
theorem EvP.now {α : Type} {A : Nat → Option α} {Φ : α → Prop} {v : α} (h : ∀ k, A (k + 1) = some v) (hp : Φ v) : EvP A Φ := ⟨v, Ev.now h, hp⟩
theorem Ev.bind0 {α β : Type} {A : Nat → Option α} {f : Nat → Option β} {g : β → Nat → Option α} {t : β} {v : α} (h : ∀ k, A k = (f k).bind fun t => g t k) (hf : Ev f t) (e : Ev (g t) v) : Ev A v := by
  obtain ⟨K, hK⟩ := e
  obtain ⟨K2, hK2⟩ := hf
  refine ⟨K + K2, fun k hk => ?_⟩
  rw [h k, hK2 k (by omega)]
  exact hK k (by omega)
theorem psucc {i : Nat} (h : i ≤ 100000) : wrap64 ((i : Int) + 1) = ((i + 1 : Nat) : Int) := by rw [w64 (by omega) (by omega)]; omega
theorem rdn (L : List Int) (j : Nat) : rd L (j : Int) = L.getD j 0 := by unfold rd; rw [Int.toNat_natCast]

def goodTimes (m h d : Int) : Bool := decide (6 ≤ m ∧ m ≤ 40 ∧ 1 ≤ h ∧ h ≤ 10 ∧ 4 ≤ d ∧ d ≤ 30 ∧ m ≤ 2 * (d - 1) ∧ 2 * (h + 1) ≤ m)
theorem rd40_mem {l : List S63} {i : Int} (h0 : 0 ≤ i) (h1 : i < l.length) : rd_T63 l i ∈ l := by
  have h : i.toNat < l.length := by omega
  unfold rd_T63
  rw [List.getD_eq_getElem?_getD, List.getElem?_eq_getElem h]
  exact List.getElem_mem h

def rightA (a : Int) : Bool := decide (0 < a ∧ a < 281474976710656 ∧ a / 1099511627776 % 2 = 0)
/-- What is wrong with a configuration first. -/
def checkA (a m h d g t : Int) (l : List S63) : Int :=
  if rightA a = false then 1 else if (goodTimes m h d && decide (10 ≤ g ∧ g ≤ 1000000) && decide (0 ≤ t ∧ t ≤ 64)) = false then 3 else if l.length = 0 then 8 else if l.length > 4 then 4 else
    if l.all (fun p => decide (1 ≤ p.f1 ∧ p.f1 ≤ 65535)) then 0 else 3
theorem drop_cons51 {l : List S63} {i : Int} (h0 : 0 ≤ i) (h1 : i < l.length) : l.drop i.toNat = rd_T63 l i :: l.drop (i + 1).toNat := by
  have h : i.toNat < l.length := by omega
  rw [List.drop_eq_getElem_cons h, show (i + 1).toNat = i.toNat + 1 from by omega]
  congr 1
  unfold rd_T63
  rw [List.getD_eq_getElem?_getD, List.getElem?_eq_getElem h]; rfl

/-- What a network that was read is like. -/
structure OkT (a0 : Int) (br : List S51) (lk : List (List Int)) (st : List S66) : Prop where
  lo : 1 ≤ a0 ∧ a0 ≤ 5
  n1 : 1 ≤ br.length ∧ br.length ≤ 4
  n2 : lk.length = br.length
  n3 : st.length ≤ 3
  cf : ∀ j : Nat, j < br.length → (rd_T51 br (j : Int)).f0 = 257 + (j : Int) ∧ checkA (rd_T51 br (j : Int)).f0 (rd_T51 br (j : Int)).f2 (rd_T51 br (j : Int)).f3 (rd_T51 br (j : Int)).f4 (rd_T51 br (j : Int)).f5 (rd_T51 br (j : Int)).f6 (rd_T51 br (j : Int)).f7 = 0
  ln : ∀ j : Nat, j < br.length → (rd_L9 lk (j : Int)).length = (rd_T51 br (j : Int)).f7.length ∧ (rd_L9 lk (j : Int)).length ≤ 3 ∧ ∀ t, t < (rd_L9 lk (j : Int)).length → 0 ≤ (rd_L9 lk (j : Int)).getD t 0 ∧ (rd_L9 lk (j : Int)).getD t 0 < a0
  sn : ∀ s : Nat, s < st.length → (rd_T66 st (s : Int)).f0 = 513 + (s : Int) ∧ 0 ≤ (rd_T66 st (s : Int)).f1 ∧ (rd_T66 st (s : Int)).f1 < a0

def Bytes (b : List Int) : Prop := (∀ x ∈ b, 0 ≤ x ∧ x < 256) ∧ b.length ≤ 41000
/-- The next byte, and where one stands then. -/
theorem next_ok {b : List Int} (hb : Bytes b) (i : Nat) (hi : i ≤ b.length) : ∃ (v : Int) (i' : Nat), script_reader_next.f b (i : Int) = some (v, (i' : Int)) ∧ 0 ≤ v ∧ v < 256 ∧ i ≤ i' ∧ i' ≤ b.length ∧ (i < b.length → i + 1 ≤ i') := by
  have hl := hb.2
  unfold script_reader_next.f
  by_cases c : i < b.length
  · have h1 : wrap64 ((i : Int) + 1) = (i : Int) + 1 := w64 (by omega) (by omega)
    have h2 : wrap64 ((i : Int) + 1 - 1) = (i : Int) := by rw [w64 (by omega) (by omega)]; omega
    have hm : b.getD i 0 ∈ b := by
      rw [List.getD_eq_getElem?_getD, List.getElem?_eq_getElem c]
      exact List.getElem_mem _
    have hv := hb.1 _ hm
    refine ⟨b.getD i 0, i + 1, ?_, hv.1, hv.2, by omega, by omega, fun _ => Nat.le_refl _⟩
    rw [if_neg (by omega), h1, h2, if_pos (by omega), if_pos (by omega), rdn, w64 (by omega) (by omega)]
    rfl
  · exact ⟨0, i, by rw [if_pos (by omega)], by omega, by omega, Nat.le_refl _, hi, fun h => absurd h c⟩
theorem addr_eq (a : Int) (j : Nat) (ha : 0 ≤ a ∧ a ≤ 10) (hj : j ≤ 1000) : script_address.f a (j : Int) = some (256 * a + (j : Int) + 1) := by
  unfold script_address.f
  rw [w64 (x := 256 * a) (by omega) (by omega), w64 (x := 256 * a + (j : Int)) (by omega) (by omega), w64 (x := 256 * a + (j : Int) + 1) (by omega) (by omega), wu64 (by omega) (by omega)]
/-- Ports' costs. -/
def Costs (l : List S63) : Prop := ∀ p ∈ l, 1 ≤ p.f1 ∧ p.f1 ≤ 65535
theorem conf_l0 {b : List Int} (hb : Bytes b) (a p m h d g t : Int) (n : Nat) (hn : n ≤ 3) : ∀ q (c i : Nat) (ports : List S63), c + q = n → i ≤ b.length → ports.length = c → Costs ports →
    EvP (fun k => script_reader_conf.l0 k (n : Int) (c : Int) b (i : Int) a p m h d g t ports) (fun r => ∃ (i' : Nat) (ps : List S63), r = (a, p, m, h, d, g, t, ps, (i' : Int)) ∧ i ≤ i' ∧ i' ≤ b.length ∧ ps.length = n ∧ Costs ps)
  | 0, c, i, ports, hc, hi, hp, hs => by
    refine EvP.now (v := (a, p, m, h, d, g, t, ports, (i : Int))) (fun k => ?_) ⟨i, ports, rfl, Nat.le_refl _, hi, by omega, hs⟩
    rw [script_reader_conf.l0, if_neg (by omega)]
  | q + 1, c, i, ports, hc, hi, hp, hs => by
    obtain ⟨v, i', hx, v0, v1, h1, h2, _⟩ := next_ok hb i hi
    have hcost : wrap64 (1 + Int.tmod v 50) % 4294967296 = 1 + v % 50 := by
      rw [tmod_nn v0, w64 (by omega) (by omega)]
      omega
    obtain ⟨r, hr, i2, ps, e, g1, g2, g3, g4⟩ := conf_l0 hb a p m h d g t n hn q (c + 1) i' (ports ++ [⟨128, 1 + v % 50, decide (v < 230)⟩]) (by omega) h2 (by simp [hp]) (fun x hx => by
      rcases List.mem_append.1 hx with h | h
      · exact hs x h
      · simp only [List.mem_singleton] at h
        subst h
        show 1 ≤ 1 + v % 50 ∧ 1 + v % 50 ≤ 65535
        omega)
    refine ⟨r, Ev.step (fun k => ?_) hr, i2, ps, e, by omega, g2, g3, g4⟩
    rw [script_reader_conf.l0, if_pos (by omega), hx, Option.bind_some, if_pos (by omega), psucc (by omega), hcost]
/-- A configuration that was read. -/
def CfgOk (j : Nat) (a m h d g t : Int) (l : List S63) : Prop := a = 257 + (j : Int) ∧ checkA a m h d g t l = 0 ∧ l.length ≤ 3
theorem conf_ok {b : List Int} (hb : Bytes b) (i j : Nat) (hi : i ≤ b.length) (hj : j ≤ 100) :
    EvP (fun k => script_reader_conf.f k b (i : Int) (j : Int)) (fun r => ∃ (i' : Nat) (p : Int), r.2.1 = p ∧ r.2.2.2.2.2.2.2.2 = (i' : Int) ∧ i ≤ i' ∧ i' ≤ b.length ∧ CfgOk j r.1 r.2.2.1 r.2.2.2.1 r.2.2.2.2.1 r.2.2.2.2.2.1 r.2.2.2.2.2.2.1 r.2.2.2.2.2.2.2.1) := by
  obtain ⟨v1, i1, e1, a1, b1, c1, d1, _⟩ := next_ok hb i hi
  obtain ⟨v2, i2, e2, a2, b2, c2, d2, _⟩ := next_ok hb i1 d1
  obtain ⟨v3, i3, e3, a3, b3, c3, d3, _⟩ := next_ok hb i2 d2
  obtain ⟨v4, i4, e4, a4, b4, c4, d4, _⟩ := next_ok hb i3 d3
  obtain ⟨v5, i5, e5, a5, b5, c5, d5, _⟩ := next_ok hb i4 d4
  obtain ⟨v6, i6, e6, a6, b6, c6, d6, _⟩ := next_ok hb i5 d5
  obtain ⟨v7, i7, e7, a7, b7, c7, d7, _⟩ := next_ok hb i6 d6
  have eh : wrap64 (1 + Int.tmod v2 2) = 1 + v2 % 2 := by rw [tmod_nn a2, w64 (by omega) (by omega)]
  have em0 : wrap64 (wrap64 (wrap64 (2 * wrap64 (wrap64 (1 + Int.tmod v2 2) + 1)) + 2) + Int.tmod v5 16) = 2 * (1 + v2 % 2 + 1) + 2 + v5 % 16 := by
    rw [eh, tmod_nn a5, w64 (x := 1 + v2 % 2 + 1) (by omega) (by omega), w64 (x := 2 * (1 + v2 % 2 + 1)) (by omega) (by omega), w64 (x := 2 * (1 + v2 % 2 + 1) + 2) (by omega) (by omega), w64 (by omega) (by omega)]
  obtain ⟨M, hM⟩ : ∃ M, 2 * (1 + v2 % 2 + 1) + 2 + v5 % 16 = M := ⟨_, rfl⟩
  have hM2 : 2 * (1 + v2 % 2 + 1) + 2 ≤ M ∧ M ≤ 23 := by omega
  rw [hM] at em0
  have ed0 : wrap64 (wrap64 (wrap64 (Int.tdiv (wrap64 (M + 1)) 2) + 1) + Int.tmod v6 4) = (M + 1) / 2 + 1 + v6 % 4 := by
    rw [w64 (x := M + 1) (by omega) (by omega), tdiv_nn (by omega), w64 (x := (M + 1) / 2) (by omega) (by omega), w64 (x := (M + 1) / 2 + 1) (by omega) (by omega), tmod_nn a6, w64 (by omega) (by omega)]
  have eg : wrap64 (10 + Int.tmod v3 20) = 10 + v3 % 20 := by rw [tmod_nn a3, w64 (by omega) (by omega)]
  have et : Int.tmod v4 9 = v4 % 9 := tmod_nn a4
  obtain ⟨n, hn⟩ := Int.eq_ofNat_of_zero_le (show 0 ≤ 1 + v7 % 3 by omega)
  have en : wrap64 (1 + Int.tmod v7 3) = (n : Int) := by rw [tmod_nn a7, w64 (by omega) (by omega)]; exact hn
  have hn' : 1 + v7 % 3 = (n : Int) := hn
  obtain ⟨r, hr, i8, ps, hre, g1, g2, g3, g4⟩ := conf_l0 hb (257 + (j : Int)) (IntKind.u16.wrap (wrap64 ((Int.tmod v1 4) * 4096))) (mx M 6) (1 + v2 % 2) (mx ((M + 1) / 2 + 1 + v6 % 4) 4) (10 + v3 % 20) (v4 % 9) n (by omega) n 0 i7 [] (Nat.zero_add _) d7 rfl (fun p h => by cases h)
  have E : Ev (fun k => script_reader_conf.f k b (i : Int) (j : Int)) r := by
    obtain ⟨K, hK⟩ := hr
    refine ⟨K, fun k hk => ?_⟩
    show script_reader_conf.f k b (i : Int) (j : Int) = _
    unfold script_reader_conf.f
    rw [addr_eq 1 j (by omega) (by omega), Option.bind_some, e1, Option.bind_some, e2, Option.bind_some, e3, Option.bind_some, e4, Option.bind_some, e5, Option.bind_some, e6, Option.bind_some, e7, Option.bind_some]
    simp only [em0]
    simp only [ed0, eh, eg, et, en]
    have ea : 256 * (1 : Int) + (j : Int) + 1 = 257 + (j : Int) := by omega
    rw [ea]
    exact hK k hk
  subst hre
  refine ⟨_, E, i8, _, rfl, rfl, by omega, g2, rfl, ?_, by show ps.length ≤ 3; omega⟩
  · have hr : rightA (257 + (j : Int)) = true := by unfold rightA; rw [decide_eq_true (by omega)]
    have ht : goodTimes (mx M 6) (1 + v2 % 2) (mx ((M + 1) / 2 + 1 + v6 % 4) 4) = true := by
      unfold goodTimes mx
      refine decide_eq_true ?_
      split <;> split <;> omega
    have hall : ps.all (fun p => decide (1 ≤ p.f1 ∧ p.f1 ≤ 65535)) = true := List.all_eq_true.2 fun p hp => decide_eq_true (g4 p hp)
    show checkA (257 + (j : Int)) (mx M 6) (1 + v2 % 2) (mx ((M + 1) / 2 + 1 + v6 % 4) 4) (10 + v3 % 20) (v4 % 9) ps = 0
    unfold checkA
    rw [if_neg (by rw [hr]; simp), ht, decide_eq_true (by omega), decide_eq_true (by omega), if_neg (by simp), if_neg (by omega), if_neg (by omega), if_pos hall]

theorem put_eq (a : Int) (k : Nat) : ids_Put.f (k + 7) a = some [a / 1099511627776 % 256, a / 4294967296 % 256, a / 16777216 % 256, a / 65536 % 256, a / 256 % 256, a % 256] := by
  simp [ids_Put.f, ids_Put.l0, wrap64, List.replicate, shr, IntKind.bits]

def chk (a b kd n : Int) : Int := if a ≥ 281474976710656 ∨ b ≥ 281474976710656 then 1 else if n > 1500 then 4 else if kd > 1500 ∧ kd < 1536 then 3 else if kd ≤ 1500 ∧ kd ≠ n then 3 else 0
theorem check_eq (k : Nat) (a b kd : Int) (l : List Int) (h : 0 ≤ kd ∧ kd < 65536) : frame_Check.f (k + 2) a b kd l = some (chk a b kd (l.length : Int)) := by
  have e : wrap64 kd = kd := w64 (by omega) (by omega)
  have B : ∀ (c d : Bool), (some (if c = true then (1 : Int) else if d = true then 3 else 0)) = some (if c then 1 else if d then 3 else 0) := fun _ _ => rfl
  unfold frame_Check.f chk
  by_cases ha : a ≥ 281474976710656
  · rw [if_pos ha, if_pos (.inl ha)]
    simp only [frame_Check.j0, if_true]
  · rw [if_neg ha]
    by_cases hb : b ≥ 281474976710656
    · rw [decide_eq_true hb, if_pos (.inr hb)]
      simp only [frame_Check.j0, if_true]
    · rw [decide_eq_false hb, if_neg (by omega)]
      simp only [frame_Check.j0, Bool.false_eq_true, if_false]
      by_cases c : (l.length : Int) > 1500
      · rw [if_pos c, if_pos c]
      · rw [if_neg c, if_neg c]
        by_cases d : kd > 1500
        · rw [if_pos d]
          simp only [frame_Check.j1, e]
          by_cases f : kd < 1536
          · rw [decide_eq_true f, if_pos rfl, if_pos ⟨d, f⟩]
          · rw [decide_eq_false f]
            simp only [Bool.false_eq_true, if_false]
            repeat' split
            all_goals first | rfl | (exfalso; omega)
        · rw [if_neg d]
          simp only [frame_Check.j1, Bool.false_eq_true, if_false, e]
          repeat' split
          all_goals first | rfl | (exfalso; omega)
theorem wput16_eq (k : Nat) (l : List Int) (a : Int) (h : 0 ≤ a ∧ a < 65536) (hl : l.length < 1000000) : wire_Put_uint16.f (k + 3) l a 2 = some (l ++ [a / 256 % 256, a % 256]) := by
  have e : IntKind.u64.wrap a = a := wu64 (by omega) (by omega)
  unfold wire_Put_uint16.f
  simp only [Option.bind_some, List.nil_append, List.length_nil, Nat.zero_add]
  rw [if_pos (by omega)]
  simp only [wire_Put_uint16.l0, e]
  have g1 : wrap64 ((2 : Int) - 1) = 1 := by simp [wrap64]
  have g0 : wrap64 ((1 : Int) - 1) = 0 := by simp [wrap64]
  have g8 : wrap64 ((8 : Int) * 1) = 8 := by simp [wrap64]
  have g9 : wrap64 ((8 : Int) * 0) = 0 := by simp [wrap64]
  have e0 : IntKind.u64.wrap a = a := wu64 (by omega) (by omega)
  simp only [g1, g0, g8, g9]
  rw [if_pos (by decide), if_pos (by decide), if_pos (by decide), if_pos (by omega), if_pos (by decide), if_pos (by decide), if_pos (by decide), if_pos (by simp; omega), if_neg (by decide)]
  rw [List.append_assoc]
  simp [shr, IntKind.bits]
def fbytes (a b kd : Int) (l : List Int) : List Int := [a / 1099511627776 % 256, a / 4294967296 % 256, a / 16777216 % 256, a / 65536 % 256, a / 256 % 256, a % 256, b / 1099511627776 % 256, b / 4294967296 % 256, b / 16777216 % 256, b / 65536 % 256, b / 256 % 256, b % 256, kd / 256 % 256, kd % 256] ++ l
theorem fput_eq (k : Nat) (a b kd : Int) (l : List Int) (h : 0 ≤ kd ∧ kd < 65536) (hl : l.length ≤ 100000) :
    frame_Put.f (k + 7) a b kd l = if chk a b kd (l.length : Int) = 0 then some (fbytes a b kd l, 0) else some ([], chk a b kd (l.length : Int)) := by
  unfold frame_Put.f
  rw [check_eq (k + 5) a b kd l h]
  simp only [Option.bind_some]
  by_cases c : chk a b kd (l.length : Int) = 0
  · rw [if_pos c, if_pos c, put_eq a k, put_eq b k]
    simp only [Option.bind_some]
    rw [if_pos (by simp), wput16_eq (k + 4) _ kd h (by simp)]
    simp only [Option.bind_some]
    rw [if_pos (by simp; omega)]
    simp [fbytes]
  · rw [if_neg c, if_neg c]

/-- Two texts that agree up to N. -/
structure Ag (N : Nat) (b c : List Int) : Prop where
  hb : Bytes b
  nb : b.length = N
  nc : N ≤ c.length
  same : ∀ j, j < N → b.getD j 0 = c.getD j 0
section
variable {N : Nat} {b c : List Int} (A : Ag N b c)
include A
theorem next_pre (i : Nat) (hi : i < N) {r : Int × Int} (h : script_reader_next.f b (i : Int) = some r) : script_reader_next.f c (i : Int) = some r := by
  have hl := A.hb.2
  have h0 := A.nb
  have h3 := A.nc
  rw [← h]
  unfold script_reader_next.f
  have h1 : wrap64 ((i : Int) + 1) = (i : Int) + 1 := w64 (by omega) (by omega)
  have h2 : wrap64 ((i : Int) + 1 - 1) = (i : Int) := by rw [w64 (by omega) (by omega)]; omega
  rw [h1, h2, if_neg (by omega), if_pos (by omega), if_pos (by omega), if_neg (by omega), if_pos (by omega), if_pos (by omega), rdn, rdn, A.same i hi]
theorem some_pre : ∀ (k : Nat) (out : List Int) (n q : Int) (i : Nat) (r : List Int × Int), i ≤ b.length → script_reader_some.l0 k out n q b (i : Int) = some r → ∃ i' : Nat, r.2 = (i' : Int) ∧ i ≤ i' ∧ i' ≤ b.length ∧ (i' < N → script_reader_some.l0 k out n q c (i : Int) = some r)
  | 0, _, _, _, _, _, _, h => by simp [script_reader_some.l0] at h
  | k + 1, out, n, q, i, r, hi, h => by
    rw [script_reader_some.l0] at h
    by_cases c1 : q < n
    · rw [if_pos c1] at h
      obtain ⟨v, i1, e1, a1, b1, g1, d1, _⟩ := next_ok A.hb i hi
      rw [e1, Option.bind_some] at h
      by_cases c2 : out.length < 140737488355328
      · rw [if_pos c2] at h
        obtain ⟨i', p1, p2, p3, p4⟩ := some_pre k _ n _ i1 r d1 h
        refine ⟨i', p1, by omega, p3, fun hn => ?_⟩
        rw [script_reader_some.l0, if_pos c1, next_pre A i (by omega) e1, Option.bind_some, if_pos c2]
        exact p4 hn
      · rw [if_neg c2] at h; cases h
    · rw [if_neg c1] at h
      cases h
      exact ⟨i, rfl, Nat.le_refl _, hi, fun _ => by rw [script_reader_some.l0, if_neg c1]⟩
def PosOk {α : Type} (b : List Int) (N i : Nat) (p : α → Int) (f : Option α) (r : α) : Prop := ∃ i' : Nat, p r = (i' : Int) ∧ i ≤ i' ∧ i' ≤ b.length ∧ (i' < N → f = some r)
theorem j1_pre (k : Nat) (n kd : Int) (fl : Bool) (i : Nat) (hi : i ≤ b.length) (la : Int) (br : List S51) (lk : List (List Int)) (st : List S66) (y0 y1 y2 : Int) (y3 : Bool) (y4 : Int) (r : Int × Int × Int × Bool × Int × List Int × Int)
    (h : script_reader_op.j1 k n kd fl b (i : Int) la br lk st y0 y1 y2 y3 y4 = some r) : PosOk b N i (fun r => r.2.2.2.2.2.2) (script_reader_op.j1 k n kd fl c (i : Int) la br lk st y0 y1 y2 y3 y4) r := by
  cases k with
  | zero => simp [script_reader_op.j1] at h
  | succ k =>
    rw [script_reader_op.j1] at h
    obtain ⟨v1, i1, e1, a1, b1, g1, d1, _⟩ := next_ok A.hb i hi
    obtain ⟨v2, i2, e2, a2, b2, g2, d2, _⟩ := next_ok A.hb i1 d1
    by_cases f1 : fl = true
    · rw [if_pos f1, e1, Option.bind_some] at h
      by_cases hz : la = 0
      · rw [if_pos hz] at h; cases h
      · rw [if_neg hz, e2, Option.bind_some] at h
        cases h
        exact ⟨i2, rfl, by omega, d2, fun hn => by rw [script_reader_op.j1, if_pos f1, next_pre A i (by omega) e1, Option.bind_some, if_neg hz, next_pre A i1 (by omega) e2, Option.bind_some]⟩
    · rw [if_neg f1] at h
      by_cases k3 : kd = 3
      · rw [if_pos k3, e1, Option.bind_some] at h
        by_cases hz : la = 0
        · rw [if_pos hz] at h; cases h
        · rw [if_neg hz, e2, Option.bind_some] at h
          obtain ⟨s, hs, h⟩ := Option.bind_eq_some_iff.1 h
          obtain ⟨i3, p1, p2, p3, p4⟩ := some_pre A k _ _ _ i2 s d2 hs
          by_cases cn : n < 128
          · rw [if_pos cn] at h
            obtain ⟨t, ht, h⟩ := Option.bind_eq_some_iff.1 h
            obtain ⟨u, hu, h⟩ := Option.bind_eq_some_iff.1 h
            obtain ⟨w, hw, h⟩ := Option.bind_eq_some_iff.1 h
            cases h
            refine ⟨i3, p1, by omega, p3, fun hn => ?_⟩
            have p4' : script_reader_some.f k c (i2 : Int) (Int.tmod v2 60) = some s := p4 hn
            rw [script_reader_op.j1, if_neg f1, if_pos k3, next_pre A i (by omega) e1, Option.bind_some, if_neg hz, next_pre A i1 (by omega) e2, Option.bind_some, p4', Option.bind_some, if_pos cn, ht, Option.bind_some, hu, Option.bind_some, hw, Option.bind_some]
          · rw [if_neg cn] at h
            cases h
            refine ⟨i3, p1, by omega, p3, fun hn => ?_⟩
            have p4' : script_reader_some.f k c (i2 : Int) (Int.tmod v2 60) = some s := p4 hn
            rw [script_reader_op.j1, if_neg f1, if_pos k3, next_pre A i (by omega) e1, Option.bind_some, if_neg hz, next_pre A i1 (by omega) e2, Option.bind_some, p4', Option.bind_some, if_neg cn]
      · rw [if_neg k3] at h
        by_cases k6 : kd = 6
        · rw [if_pos k6, e1, Option.bind_some, e2, Option.bind_some] at h
          obtain ⟨t, ht, h⟩ := Option.bind_eq_some_iff.1 h
          obtain ⟨v3, i3, e3, a3, b3, g3, d3, _⟩ := next_ok A.hb i2 d2
          rw [e3, Option.bind_some] at h
          obtain ⟨s, hs, h⟩ := Option.bind_eq_some_iff.1 h
          obtain ⟨i4, p1, p2, p3, p4⟩ := some_pre A k _ _ _ i3 s d3 hs
          cases h
          refine ⟨i4, p1, by omega, p3, fun hn => ?_⟩
          have p4' : script_reader_some.f k c (i3 : Int) (Int.tmod v3 3) = some s := p4 hn
          rw [script_reader_op.j1, if_neg f1, if_neg k3, if_pos k6, next_pre A i (by omega) e1, Option.bind_some, next_pre A i1 (by omega) e2, Option.bind_some, ht, Option.bind_some, next_pre A i2 (by omega) e3, Option.bind_some, p4', Option.bind_some]
        · rw [if_neg k6] at h
          cases h
          exact ⟨i, rfl, Nat.le_refl _, hi, fun hn => by rw [script_reader_op.j1, if_neg f1, if_neg k3, if_neg k6]⟩
theorem j0_pre (k : Nat) (n kd : Int) (fl : Bool) (i : Nat) (hi : i ≤ b.length) (la : Int) (br : List S51) (lk : List (List Int)) (st : List S66) (y0 y1 y2 : Int) (y3 : Bool) (y4 : Int) (r : Int × Int × Int × Bool × Int × List Int × Int)
    (h : script_reader_op.j0 k n kd fl b (i : Int) la br lk st y0 y1 y2 y3 y4 = some r) : PosOk b N i (fun r => r.2.2.2.2.2.2) (script_reader_op.j0 k n kd fl c (i : Int) la br lk st y0 y1 y2 y3 y4) r := by
  cases k with
  | zero => simp [script_reader_op.j0] at h
  | succ k =>
    rw [script_reader_op.j0] at h
    obtain ⟨v1, i1, e1, a1, b1, g1, d1, _⟩ := next_ok A.hb i hi
    obtain ⟨v2, i2, e2, a2, b2, g2, d2, _⟩ := next_ok A.hb i1 d1
    by_cases f1 : fl = true
    · rw [if_pos f1, e1, Option.bind_some] at h
      by_cases hz : (br.length : Int) = 0
      · rw [if_pos hz] at h; cases h
      · rw [if_neg hz] at h
        cases h
        exact ⟨i1, rfl, by omega, d1, fun hn => by rw [script_reader_op.j0, if_pos f1, next_pre A i (by omega) e1, Option.bind_some, if_neg hz]⟩
    · rw [if_neg f1] at h
      by_cases k5 : kd = 5
      · rw [if_pos k5, e1, Option.bind_some] at h
        by_cases hz : (br.length : Int) = 0
        · rw [if_pos hz] at h; cases h
        · rw [if_neg hz, e2, Option.bind_some] at h
          cases h
          exact ⟨i2, rfl, by omega, d2, fun hn => by rw [script_reader_op.j0, if_neg f1, if_pos k5, next_pre A i (by omega) e1, Option.bind_some, if_neg hz, next_pre A i1 (by omega) e2, Option.bind_some]⟩
      · rw [if_neg k5] at h
        by_cases k1 : kd = 1
        · rw [if_pos k1] at h
          obtain ⟨i', p1, p2, p3, p4⟩ := j1_pre A k n kd _ i hi la br lk st y0 y1 y2 y3 y4 r h
          exact ⟨i', p1, p2, p3, fun hn => by rw [script_reader_op.j0, if_neg f1, if_neg k5, if_pos k1]; exact p4 hn⟩
        · rw [if_neg k1] at h
          obtain ⟨i', p1, p2, p3, p4⟩ := j1_pre A k n kd _ i hi la br lk st y0 y1 y2 y3 y4 r h
          exact ⟨i', p1, p2, p3, fun hn => by rw [script_reader_op.j0, if_neg f1, if_neg k5, if_neg k1]; exact p4 hn⟩
theorem op_pre (k i : Nat) (hi : i ≤ b.length) (la : Int) (br : List S51) (lk : List (List Int)) (st : List S66) (r : Int × Int × Int × Bool × Int × List Int × Int)
    (h : script_reader_op.f k b (i : Int) la br lk st = some r) : PosOk b N i (fun r => r.2.2.2.2.2.2) (script_reader_op.f k c (i : Int) la br lk st) r := by
  unfold script_reader_op.f at h ⊢
  obtain ⟨v1, i1, e1, a1, b1, g1, d1, _⟩ := next_ok A.hb i hi
  rw [e1, Option.bind_some] at h
  by_cases c7 : Int.tmod v1 7 = 0
  · simp only [if_pos c7] at h
    obtain ⟨i', p1, p2, p3, p4⟩ := j0_pre A k _ _ _ i1 d1 la br lk st _ _ _ _ _ r h
    exact ⟨i', p1, by omega, p3, fun hn => by rw [next_pre A i (by omega) e1, Option.bind_some]; simp only [if_pos c7]; exact p4 hn⟩
  · simp only [if_neg c7] at h
    obtain ⟨i', p1, p2, p3, p4⟩ := j0_pre A k _ _ _ i1 d1 la br lk st _ _ _ _ _ r h
    exact ⟨i', p1, by omega, p3, fun hn => by rw [next_pre A i (by omega) e1, Option.bind_some]; simp only [if_neg c7]; exact p4 hn⟩
theorem confl0_pre : ∀ (k : Nat) (n q : Int) (i : Nat) (a p m hh d g t : Int) (ps : List S63) (r : Int × Int × Int × Int × Int × Int × Int × List S63 × Int), i ≤ b.length → script_reader_conf.l0 k n q b (i : Int) a p m hh d g t ps = some r →
    PosOk b N i (fun r => r.2.2.2.2.2.2.2.2) (script_reader_conf.l0 k n q c (i : Int) a p m hh d g t ps) r
  | 0, _, _, _, _, _, _, _, _, _, _, _, _, _, h => by simp [script_reader_conf.l0] at h
  | k + 1, n, q, i, a, p, m, hh, d, g, t, ps, r, hi, h => by
    rw [script_reader_conf.l0] at h
    by_cases c1 : q < n
    · rw [if_pos c1] at h
      obtain ⟨v, i1, e1, a1, b1, g1, d1, _⟩ := next_ok A.hb i hi
      rw [e1, Option.bind_some] at h
      by_cases c2 : ps.length < 11728124029610
      · rw [if_pos c2] at h
        obtain ⟨i', p1, p2, p3, p4⟩ := confl0_pre k _ _ i1 _ _ _ _ _ _ _ _ r d1 h
        refine ⟨i', p1, by omega, p3, fun hn => ?_⟩
        rw [script_reader_conf.l0, if_pos c1, next_pre A i (by omega) e1, Option.bind_some, if_pos c2]
        exact p4 hn
      · rw [if_neg c2] at h; cases h
    · rw [if_neg c1] at h
      cases h
      exact ⟨i, rfl, Nat.le_refl _, hi, fun _ => by rw [script_reader_conf.l0, if_neg c1]⟩
theorem conf_pre (k i : Nat) (hi : i ≤ b.length) (j : Int) (r : Int × Int × Int × Int × Int × Int × Int × List S63 × Int) (h : script_reader_conf.f k b (i : Int) j = some r) : PosOk b N i (fun r => r.2.2.2.2.2.2.2.2) (script_reader_conf.f k c (i : Int) j) r := by
  unfold script_reader_conf.f at h ⊢
  obtain ⟨v1, i1, e1, a1, b1, g1, d1, _⟩ := next_ok A.hb i hi
  obtain ⟨v2, i2, e2, a2, b2, g2, d2, _⟩ := next_ok A.hb i1 d1
  obtain ⟨v3, i3, e3, a3, b3, g3, d3, _⟩ := next_ok A.hb i2 d2
  obtain ⟨v4, i4, e4, a4, b4, g4, d4, _⟩ := next_ok A.hb i3 d3
  obtain ⟨v5, i5, e5, a5, b5, g5, d5, _⟩ := next_ok A.hb i4 d4
  obtain ⟨v6, i6, e6, a6, b6, g6, d6, _⟩ := next_ok A.hb i5 d5
  obtain ⟨v7, i7, e7, a7, b7, g7, d7, _⟩ := next_ok A.hb i6 d6
  obtain ⟨t, ht, h⟩ := Option.bind_eq_some_iff.1 h
  rw [e1, Option.bind_some, e2, Option.bind_some, e3, Option.bind_some, e4, Option.bind_some, e5, Option.bind_some, e6, Option.bind_some, e7, Option.bind_some] at h
  obtain ⟨i', p1, p2, p3, p4⟩ := confl0_pre A k _ _ i7 _ _ _ _ _ _ _ _ r d7 h
  refine ⟨i', p1, by omega, p3, fun hn => ?_⟩
  rw [ht, Option.bind_some, next_pre A i (by omega) e1, Option.bind_some, next_pre A i1 (by omega) e2, Option.bind_some, next_pre A i2 (by omega) e3, Option.bind_some, next_pre A i3 (by omega) e4, Option.bind_some, next_pre A i4 (by omega) e5, Option.bind_some, next_pre A i5 (by omega) e6, Option.bind_some, next_pre A i6 (by omega) e7, Option.bind_some]
  exact p4 hn
theorem topol2_pre : ∀ (k : Nat) (n q : Int) (i : Nat) (la : Int) (br : List S51) (lk : List (List Int)) (st : List S66) (r : Int × List S51 × List (List Int) × List S66 × Int), i ≤ b.length → script_reader_topo.l2 k n q b (i : Int) la br lk st = some r →
    PosOk b N i (fun r => r.2.2.2.2) (script_reader_topo.l2 k n q c (i : Int) la br lk st) r
  | 0, _, _, _, _, _, _, _, _, _, h => by simp [script_reader_topo.l2] at h
  | k + 1, n, q, i, la, br, lk, st, r, hi, h => by
    rw [script_reader_topo.l2] at h
    by_cases c1 : q < n
    · rw [if_pos c1] at h
      obtain ⟨t, ht, h⟩ := Option.bind_eq_some_iff.1 h
      obtain ⟨v, i1, e1, a1, b1, g1, d1, _⟩ := next_ok A.hb i hi
      rw [e1, Option.bind_some] at h
      by_cases hz : la = 0
      · rw [if_pos hz] at h; cases h
      · rw [if_neg hz, Option.bind_some] at h
        by_cases c2 : st.length + ([(⟨t, Int.tmod v la⟩ : S66)] : List S66).length < 8796093022208
        · rw [if_pos c2] at h
          obtain ⟨i', p1, p2, p3, p4⟩ := topol2_pre k _ _ i1 _ _ _ _ r d1 h
          refine ⟨i', p1, by omega, p3, fun hn => ?_⟩
          rw [script_reader_topo.l2, if_pos c1, ht, Option.bind_some, next_pre A i (by omega) e1, Option.bind_some, if_neg hz, Option.bind_some, if_pos c2]
          exact p4 hn
        · rw [if_neg c2] at h; cases h
    · rw [if_neg c1] at h
      cases h
      exact ⟨i, rfl, Nat.le_refl _, hi, fun _ => by rw [script_reader_topo.l2, if_neg c1]⟩
mutual
theorem topol0_pre : ∀ (k : Nat) (n q : Int) (i : Nat) (la : Int) (br : List S51) (lk : List (List Int)) (r : Int × List S51 × List (List Int) × List S66 × Int), i ≤ b.length → script_reader_topo.l0 k n q b (i : Int) la br lk = some r →
    PosOk b N i (fun r => r.2.2.2.2) (script_reader_topo.l0 k n q c (i : Int) la br lk) r
  | 0, _, _, _, _, _, _, _, _, h => by simp [script_reader_topo.l0] at h
  | k + 1, n, q, i, la, br, lk, r, hi, h => by
    rw [script_reader_topo.l0] at h
    by_cases c1 : q < n
    · rw [if_pos c1] at h
      obtain ⟨s, hs, h⟩ := Option.bind_eq_some_iff.1 h
      obtain ⟨i1, p1, p2, p3, p4⟩ := conf_pre A k i hi q s hs
      rw [show s.2.2.2.2.2.2.2.2 = (i1 : Int) from p1] at h
      obtain ⟨i', q1, q2, q3, q4⟩ := topol1_pre k _ _ _ _ _ i1 _ _ _ _ _ _ _ _ _ _ _ r p3 h
      refine ⟨i', q1, by omega, q3, fun hn => ?_⟩
      rw [script_reader_topo.l0, if_pos c1, p4 (by omega), Option.bind_some, show s.2.2.2.2.2.2.2.2 = (i1 : Int) from p1]
      exact q4 hn
    · rw [if_neg c1] at h
      obtain ⟨v, i1, e1, a1, b1, g1, d1, _⟩ := next_ok A.hb i hi
      rw [e1, Option.bind_some] at h
      obtain ⟨i', q1, q2, q3, q4⟩ := topol2_pre A k _ _ i1 _ _ _ _ r d1 h
      refine ⟨i', q1, by omega, q3, fun hn => ?_⟩
      rw [script_reader_topo.l0, if_neg c1, next_pre A i (by omega) e1, Option.bind_some]
      exact q4 hn
theorem topol1_pre : ∀ (k : Nat) (L : List Int) (n q z x : Int) (i : Nat) (la : Int) (br : List S51) (lk : List (List Int)) (a p m hh d g t : Int) (ps : List S63) (r : Int × List S51 × List (List Int) × List S66 × Int), i ≤ b.length → script_reader_topo.l1 k L n q z x b (i : Int) la br lk a p m hh d g t ps = some r →
    PosOk b N i (fun r => r.2.2.2.2) (script_reader_topo.l1 k L n q z x c (i : Int) la br lk a p m hh d g t ps) r
  | 0, _, _, _, _, _, _, _, _, _, _, _, _, _, _, _, _, _, _, _, h => by simp [script_reader_topo.l1] at h
  | k + 1, L, n, q, z, x, i, la, br, lk, a, p, m, hh, d, g, t, ps, r, hi, h => by
    rw [script_reader_topo.l1] at h
    by_cases c1 : x < z
    · rw [if_pos c1] at h
      obtain ⟨v, i1, e1, a1, b1, g1, d1, _⟩ := next_ok A.hb i hi
      rw [e1, Option.bind_some] at h
      by_cases hz : la = 0
      · rw [if_pos hz] at h; cases h
      · rw [if_neg hz, Option.bind_some] at h
        by_cases c2 : L.length + ([Int.tmod v la] : List Int).length < 17592186044416
        · rw [if_pos c2] at h
          obtain ⟨i', p1, p2, p3, p4⟩ := topol1_pre k _ _ _ _ _ i1 _ _ _ _ _ _ _ _ _ _ _ r d1 h
          refine ⟨i', p1, by omega, p3, fun hn => ?_⟩
          rw [script_reader_topo.l1, if_pos c1, next_pre A i (by omega) e1, Option.bind_some, if_neg hz, Option.bind_some, if_pos c2]
          exact p4 hn
        · rw [if_neg c2] at h; cases h
    · rw [if_neg c1, Option.bind_some] at h
      by_cases c2 : br.length + ([(⟨a, p, m, hh, d, g, t, ps⟩ : S51)] : List S51).length < 1759218604441
      · rw [if_pos c2, Option.bind_some] at h
        by_cases c3 : lk.length + ([L] : List (List Int)).length < 5864062014805
        · rw [if_pos c3] at h
          obtain ⟨i', p1, p2, p3, p4⟩ := topol0_pre k _ _ i _ _ _ r hi h
          refine ⟨i', p1, p2, p3, fun hn => ?_⟩
          rw [script_reader_topo.l1, if_neg c1, Option.bind_some, if_pos c2, Option.bind_some, if_pos c3]
          exact p4 hn
        · rw [if_neg c3] at h; cases h
      · rw [if_neg c2] at h; cases h
end
theorem topo_pre (k i : Nat) (hi : i ≤ b.length) (r : Int × List S51 × List (List Int) × List S66 × Int) (h : script_reader_topo.f k b (i : Int) = some r) : PosOk b N i (fun r => r.2.2.2.2) (script_reader_topo.f k c (i : Int)) r := by
  unfold script_reader_topo.f at h ⊢
  obtain ⟨v1, i1, e1, a1, b1, g1, d1, _⟩ := next_ok A.hb i hi
  obtain ⟨v2, i2, e2, a2, b2, g2, d2, _⟩ := next_ok A.hb i1 d1
  rw [e1, Option.bind_some, e2, Option.bind_some] at h
  obtain ⟨i', p1, p2, p3, p4⟩ := topol0_pre A k _ _ i2 _ _ _ r d2 h
  refine ⟨i', p1, by omega, p3, fun hn => ?_⟩
  rw [next_pre A i (by omega) e1, Option.bind_some, next_pre A i1 (by omega) e2, Option.bind_some]
  exact p4 hn
end

theorem chk_len (a b kd : Int) (l : List Int) : (fbytes a b kd l).length = 14 + l.length := by simp [fbytes]; omega
theorem next_at {b : List Int} (hb : Bytes b) (m : Nat) (hm : m < b.length) : script_reader_next.f b (m : Int) = some (b.getD m 0, ((m + 1 : Nat) : Int)) := by
  have hl := hb.2
  have hmm : b.getD m 0 ∈ b := by
    rw [List.getD_eq_getElem?_getD, List.getElem?_eq_getElem hm]
    exact List.getElem_mem _
  have hv := hb.1 _ hmm
  have h1 : wrap64 ((m : Int) + 1) = (m : Int) + 1 := w64 (by omega) (by omega)
  have h2 : wrap64 ((m : Int) + 1 - 1) = (m : Int) := by rw [w64 (by omega) (by omega)]; omega
  unfold script_reader_next.f
  rw [if_neg (by omega), h1, h2, if_pos (by omega), if_pos (by omega), rdn, w64 (by omega) (by omega)]
  rfl
theorem Ev.mono {α : Type} {A : Nat → Option α} {v : α} (hm : ∀ k, LeO (A k) (A (k + 1))) {K : Nat} (h : A K = some v) : Ev A v := ⟨K, fun k hk => by
  obtain ⟨d, rfl⟩ : ∃ d, k = K + d := ⟨k - K, by omega⟩
  clear hk
  induction d with
  | zero => exact h
  | succ d ih => exact hm (K + d) _ ih⟩
theorem awk : Ev (fun k => treelinelaw24_awake.f k) true := Ev.mono (K := 40) treelinelaw24_awake.mono (by kernel_rfl)
/-- A text of bytes: twelve of 0, then 3, a LAN, how many follow, and these. -/
theorem some_exact {b : List Int} (hb : Bytes b) (n : Nat) (hn : n ≤ 60) (dat : List Int) (hd : dat.length = n) (i0 : Nat) (hi : i0 + n ≤ b.length) (hg : ∀ j, j < n → b.getD (i0 + j) 0 = dat.getD j 0) : ∀ q (c : Nat), c + q = n →
    Ev (fun k => script_reader_some.l0 k (dat.take c) (n : Int) (c : Int) b ((i0 + c : Nat) : Int)) (dat, ((i0 + n : Nat) : Int))
  | 0, c, hc => by
    refine Ev.now fun k => ?_
    have e : c = n := by omega
    subst e
    rw [script_reader_some.l0, if_neg (by omega), List.take_of_length_le (by omega)]
  | q + 1, c, hc => by
    have hnx := next_at hb (i0 + c) (by omega)
    refine Ev.step (fun k => ?_) (some_exact hb n hn dat hd i0 hi hg q (c + 1) (by omega))
    have hm : b.getD (i0 + c) 0 ∈ b := by
      rw [List.getD_eq_getElem?_getD, List.getElem?_eq_getElem (by omega)]
      exact List.getElem_mem _
    have hv := hb.1 _ hm
    have hlt : (dat.take c).length = c := by rw [List.length_take]; omega
    have e1 : dat.take c ++ [dat.getD c 0] = dat.take (c + 1) := by
      rw [List.take_succ_eq_append_getElem (by omega), List.getD_eq_getElem?_getD, List.getElem?_eq_getElem (by omega)]
      rfl
    rw [script_reader_some.l0, if_pos (by omega), hnx, Option.bind_some, if_pos (by omega), psucc (by omega)]
    dsimp only
    rw [show b.getD (i0 + c) 0 % 256 = b.getD (i0 + c) 0 by omega, hg c (by omega), e1]
    rfl
def tellsC : S51 := ⟨257, 0, 6, 1, 4, 10, 0, [⟨128, 1, true⟩]⟩
def tellsB : List Int := [0, 0, 0, 0, 0, 0, 0, 0, 0, 0, 0, 0, 3]
theorem tells_topo0 : Ev (fun k => script_reader_topo.f k tellsB 0) (1, [tellsC], [[0]], [], 12) := Ev.mono (K := 40) (script_reader_topo.mono _ _) (by kernel_rfl)
theorem tells_ag {b : List Int} (hl : 13 ≤ b.length) (h : ∀ j, j < 13 → b.getD j 0 = tellsB.getD j 0) : Ag 13 tellsB b :=
  ⟨⟨by decide, by decide⟩, rfl, hl, fun j hj => (h j hj).symm⟩
/-- The frame that is put. -/
def tellsF (dat : List Int) : List Int := fbytes 1652522221568 769 ((3 + dat.length : Nat) : Int) ([66, 66, 3] ++ dat)
section
variable {b : List Int} (hb : Bytes b) (lan : Int) (dat : List Int) (hlan : 0 ≤ lan) (hn : dat.length ≤ 59) (hlen : b.length = 15 + dat.length) (h13 : ∀ j, j < 13 → b.getD j 0 = tellsB.getD j 0) (hA : b.getD 13 0 = lan) (hN : b.getD 14 0 = (dat.length : Int)) (hD : ∀ j, j < dat.length → b.getD (15 + j) 0 = dat.getD j 0)
include hb hlan hn hlen h13 hA hN hD
theorem tells_op : Ev (fun k => script_reader_op.f k b 12 1 [tellsC] [[0]] []) (3, 0, 0, false, 0, tellsF dat, ((15 + dat.length : Nat) : Int)) := by
  have n12 := next_at hb 12 (by omega)
  have n13 := next_at hb 13 (by omega)
  have n14 := next_at hb 14 (by omega)
  rw [h13 12 (by omega)] at n12
  rw [hA] at n13
  rw [hN] at n14
  have n12' : script_reader_next.f b 12 = some (3, 13) := n12
  have n13' : script_reader_next.f b 13 = some (lan, 14) := n13
  have n14' : script_reader_next.f b 14 = some ((dat.length : Int), 15) := n14
  have hs := some_exact hb dat.length (by omega) dat rfl 15 (by omega) hD dat.length 0 (Nat.zero_add _)
  have hs' : Ev (fun k => script_reader_some.f k b 15 (dat.length : Int)) (dat, ((15 + dat.length : Nat) : Int)) := hs
  have hm60 : Int.tmod (dat.length : Int) 60 = (dat.length : Int) := by rw [tmod_nn (by omega)]; omega
  have hm1 : Int.tmod lan 1 = 0 := by rw [tmod_nn hlan]; omega
  have hL : (([66, 66, 3] : List Int) ++ dat).length = 3 + dat.length := by simp; omega
  have hput : Ev (fun k => frame_Put.f k 1652522221568 769 ((3 + dat.length : Nat) : Int) ([66, 66, 3] ++ dat)) (tellsF dat, 0) := ⟨7, fun k hk => by
    obtain ⟨t, rfl⟩ : ∃ t, k = t + 7 := ⟨k - 7, by omega⟩
    show frame_Put.f (t + 7) _ _ _ _ = _
    have hc : chk 1652522221568 769 ((3 + dat.length : Nat) : Int) ((([66, 66, 3] : List Int) ++ dat).length : Int) = 0 := by
      unfold chk
      rw [hL, if_neg (by omega), if_neg (by omega), if_neg (by omega), if_neg (by omega)]
    rw [fput_eq t _ _ _ _ (by omega) (by omega), hc]
    rfl⟩
  have hW : frame_Wrap.f 769 dat = some (1652522221568, 769, ((3 + dat.length : Nat) : Int), [66, 66, 3] ++ dat) := by
    unfold frame_Wrap.f
    rw [if_pos (by omega), hL]
  obtain ⟨K1, hK1⟩ := hs'
  obtain ⟨K2, hK2⟩ := hput
  dsimp only at hK1 hK2
  refine ⟨K1 + K2 + 2, fun k hk => ?_⟩
  obtain ⟨k, rfl⟩ : ∃ m, k = m + 2 := ⟨k - 2, by omega⟩
  show script_reader_op.f (k + 2) b 12 1 [tellsC] [[0]] [] = _
  unfold script_reader_op.f
  rw [n12', Option.bind_some]
  dsimp only
  rw [show Int.tmod 3 7 = 3 by decide, if_neg (by decide), script_reader_op.j0, if_neg (by decide), if_neg (by decide), if_neg (by decide), script_reader_op.j1, if_neg (by decide), if_pos rfl, n13', Option.bind_some, if_neg (by decide)]
  dsimp only
  rw [n14', Option.bind_some]
  dsimp only
  rw [hm60, hK1 k (by omega), Option.bind_some, if_pos (by decide), show (0 : Int) = ((0 : Nat) : Int) from rfl, addr_eq 3 0 (by omega) (by omega), Option.bind_some, show 256 * (3 : Int) + ((0 : Nat) : Int) + 1 = 769 by omega]
  dsimp only
  rw [hW, Option.bind_some]
  dsimp only
  rw [hK2 k (by omega), Option.bind_some, hm1]
  rfl
theorem tells_read : Ev (fun k => script_Read.f k b) (1, [tellsC], [[0]], [], [⟨3, 0, 0, false, 0, tellsF dat⟩]) := by
  obtain ⟨K1, hK1⟩ := tells_topo0
  obtain ⟨K2, hK2⟩ := tells_op hb lan dat hlan hn hlen h13 hA hN hD
  dsimp only at hK1 hK2
  refine ⟨K1 + K2 + 2, fun k hk => ?_⟩
  obtain ⟨k, rfl⟩ : ∃ m, k = m + 2 := ⟨k - 2, by omega⟩
  show script_Read.f (k + 2) b = _
  obtain ⟨i', p1, p2, p3, p4⟩ := topo_pre (tells_ag (b := b) (by omega) h13) (k + 2) 0 (Nat.zero_le _) _ (hK1 (k + 2) (by omega))
  have p1' : (12 : Int) = (i' : Int) := p1
  have p5 : script_reader_topo.f (k + 2) b 0 = some (1, [tellsC], [[0]], [], 12) := p4 (by omega)
  unfold script_Read.f treelineref24_At_by.f
  rw [Option.bind_some]
  dsimp only
  rw [p5, Option.bind_some]
  dsimp only
  rw [script_Read.l0, if_pos (by omega), if_pos (by decide), hK2 (k + 1) (by omega), Option.bind_some, if_pos (by decide)]
  dsimp only
  rw [script_Read.l0, if_neg (by omega)]
  rfl
end
theorem tells_num : ∀ n : Fin 60, Wire.numR [((3 + n.val : Nat) : Int) / 256 % 256, ((3 + n.val : Nat) : Int) % 256] = ((3 + n.val : Nat) : Int) := by decide
theorem tells_get (dat : List Int) (hn : dat.length ≤ 59) (hd : ∀ x ∈ dat, 0 ≤ x ∧ x < 256) : frame_Get.f (tellsF dat) = some (1652522221568, 769, ((3 + dat.length : Nat) : Int), [66, 66, 3] ++ dat, 0) := by
  have hlen : (tellsF dat).length = 17 + dat.length := by unfold tellsF; rw [chk_len]; simp; omega
  have hk : FrameG.kindL (tellsF dat) = ((3 + dat.length : Nat) : Int) := tells_num ⟨dat.length, by omega⟩
  have h14 : (tellsF dat).drop 14 = [66, 66, 3] ++ dat := rfl
  have ht : Wire.numR (((tellsF dat).drop 0).take 6) = 1652522221568 := by
    show Wire.numR [1652522221568 / 1099511627776 % 256, 1652522221568 / 4294967296 % 256, 1652522221568 / 16777216 % 256, 1652522221568 / 65536 % 256, 1652522221568 / 256 % 256, 1652522221568 % 256] = _
    decide
  have hs : Wire.numR (((tellsF dat).drop 6).take 6) = 769 := by
    show Wire.numR [769 / 1099511627776 % 256, 769 / 4294967296 % 256, 769 / 16777216 % 256, 769 / 65536 % 256, 769 / 256 % 256, 769 % 256] = _
    decide
  have hby : ∀ y ∈ tellsF dat, 0 ≤ y ∧ y ≤ 255 := by
    intro y hy
    unfold tellsF fbytes at hy
    rcases List.mem_append.1 hy with h | h
    · simp only [List.mem_cons, List.not_mem_nil, or_false] at h
      omega
    · rcases List.mem_append.1 h with h | h
      · simp only [List.mem_cons, List.not_mem_nil, or_false] at h
        omega
      · have := hd y h
        omega
  unfold frame_Get.f
  rw [if_pos ⟨by omega, hby, by omega, by rw [hk]; omega, by rw [hk]; omega⟩]
  unfold FrameG.getF
  rw [if_neg (by omega), hk, if_pos (by omega), if_neg (by omega), ht, hs, h14, Int.toNat_natCast, List.take_of_length_le (by simp; omega)]
theorem tells_open (dat : List Int) (hn : dat.length ≤ 59) : frame_Open.f 1652522221568 769 ((3 + dat.length : Nat) : Int) ([66, 66, 3] ++ dat) = some (dat, true) := by
  unfold frame_Open.f
  rw [if_pos ⟨by simp; omega, rfl, by omega, by simp, rfl⟩]
  rfl
theorem tells_main (l0 : List Int) (a1 : Int) (hw : ∀ x ∈ l0, 0 ≤ x ∧ x < 256) (h1 : 0 ≤ a1 ∧ a1 < 256) (hl : l0.length ≤ 59) : Ev (fun k => treelinelaw24_ScriptTells.j0 k l0 a1 false) true := by
  have hm : (l0.length : Int) % 256 = (l0.length : Int) := by omega
  have hlen : (([0, 0, 0, 0, 0, 0, 0, 0, 0, 0, 0, 0, 3, a1, (l0.length : Int)] : List Int) ++ l0).length = 15 + l0.length := by simp; omega
  have hB : Bytes (([0, 0, 0, 0, 0, 0, 0, 0, 0, 0, 0, 0, 3, a1, (l0.length : Int)] : List Int) ++ l0) := ⟨fun x hx => by
    rcases List.mem_append.1 hx with h | h
    · simp only [List.mem_cons, List.not_mem_nil, or_false] at h
      omega
    · exact hw x h, by rw [hlen]; omega⟩
  obtain ⟨K, hK⟩ := tells_read hB a1 l0 h1.1 hl hlen (fun j hj => by
    match j, hj with
    | 0, _ => rfl
    | 1, _ => rfl
    | 2, _ => rfl
    | 3, _ => rfl
    | 4, _ => rfl
    | 5, _ => rfl
    | 6, _ => rfl
    | 7, _ => rfl
    | 8, _ => rfl
    | 9, _ => rfl
    | 10, _ => rfl
    | 11, _ => rfl
    | 12, _ => rfl) rfl rfl (fun j hj => by
    rw [List.getD_eq_getElem?_getD, List.getD_eq_getElem?_getD, List.getElem?_append_right (by simp)]
    simp)
  dsimp only at hK
  refine ⟨K + 2, fun k hk => ?_⟩
  obtain ⟨k, rfl⟩ : ∃ m, k = m + 2 := ⟨k - 2, by omega⟩
  show treelinelaw24_ScriptTells.j0 (k + 2) l0 a1 false = some true
  rw [treelinelaw24_ScriptTells.j0, if_neg (by simp), Option.bind_some, hm, if_pos (by simp; omega), hK (k + 1) (by omega), Option.bind_some]
  dsimp only
  obtain ⟨o, ho⟩ : ∃ o : S39, (⟨3, 0, 0, false, 0, tellsF l0⟩ : S39) = o := ⟨_, rfl⟩
  rw [ho]
  have e1 : rd_T39 [o] 0 = o := rfl
  have e2 : (o.f0 != 3) = false := by rw [← ho]; rfl
  have e3 : o.f5 = tellsF l0 := by rw [← ho]
  rw [if_pos (show (([tellsC].length : Nat) : Int) = 1 from rfl), if_pos (show (([o].length : Nat) : Int) = 1 from rfl), if_pos (show (0 : Int) < (([o].length : Nat) : Int) from Int.zero_lt_one), e1, e2, treelinelaw24_ScriptTells.j1, if_neg (by decide), if_pos (show (0 : Int) < (([o].length : Nat) : Int) from Int.zero_lt_one), e1, e3, tells_get l0 hl hw, Option.bind_some]
  dsimp only
  rw [tells_open l0 hl, Option.bind_some, if_pos rfl]
  dsimp only
  rw [if_pos rfl, beq_self_eq_true]
theorem scriptTells (l0 : List Int) (a1 : Int) (hw : ∀ x ∈ l0, 0 ≤ x ∧ x < 256) (h1 : 0 ≤ a1 ∧ a1 < 256) : ∃ k, treelinelaw24_ScriptTells.f k l0 a1 = some true := by
  obtain ⟨K0, h0⟩ := awk
  dsimp only at h0
  have key : Ev (fun k => treelinelaw24_ScriptTells.j0 k l0 a1 (decide ((l0.length : Int) > 59))) true := by
    by_cases c : (l0.length : Int) > 59
    · rw [decide_eq_true c]
      exact Ev.bind (g := fun t k => some t) (fun k => by rw [treelinelaw24_ScriptTells.j0, if_pos rfl]) awk ⟨0, fun _ _ => rfl⟩
    · rw [decide_eq_false c]
      exact tells_main l0 a1 hw h1 (by omega)
  obtain ⟨K1, hk1⟩ := key
  dsimp only at hk1
  refine ⟨K0 + K1, ?_⟩
  unfold treelinelaw24_ScriptTells.f
  rw [h0 _ (by omega), Option.bind_some, if_pos rfl]
  exact hk1 _ (by omega)

theorem ScriptTells (W : World) (l : List Int) (a1 : Int) (w0 : ∀ y ∈ l, (Lit.int .u8 y).wf = true) (w1 : (Lit.int .u8 a1).wf = true) (hG : Llc.Glob W) {A : Option Addr} {c : Nat} (hC : (Kd.int .u8).C W A l.length l) (hc : l.length ≤ c) :
    Calls Tryd.prog 7 #[.slice A l.length c, .int .u8 a1] W fun e w' => e = .returned (.bool true) ∧ Below W.heap.size W w' := by
  obtain ⟨k, hk⟩ := scriptTells l a1 (fun x h => wf_u8 (w0 x h)) (wf_u8 w1)
  exact treelinelaw24_ScriptTells.calls k A c l a1 true W hC hc hk ⟨hG⟩

end Go.Proofs.YtiikllgppmmiaaaDoor.Pure
