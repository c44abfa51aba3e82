/- What functions that deal with frames of bridges come to. Walked by hand. -/
import Derived.Test.YtkgfpagfmdefgaaDoorPorts
import Derived.Test.YtkgfpagfmdefgaaDoorLlcC
namespace Go.Proofs.YtkgfpagfmdefgaaDoor.Llc
open Go.RowKit Go.Proofs.YtkgfpagfmdefgaaDoorW.PrintWords Go.Proofs.YtkgfpagfmdefgaaDoorW.PrintLast Go.Proofs.YtkgfpagfmdefgaaDoorW.PrintMore
set_option linter.unusedVariables false
set_option linter.unusedSimpArgs false
open Go.Proofs.YtkgfpagfmdefgaaDoor.Sep
open Go.Proofs.YtkgfpagfmdefgaaDoor

set_option maxHeartbeats 1000000 in
set_option maxRecDepth 100000 in
theorem Forwards_calls (w : World) (x : Int) (r : Bool) (hr : (x == 4) = r) : Calls Tryd.prog 14 #[.int .i64 x] w (Ret (fun _ => False) w fun v l => v = .bool r ∧ l = []) := by
  have H := Hp.nothing w
  go_enter Tryd.func14, Tryd.ntmps14
  go_wp2
  go_ret
  exact ⟨_, _, rfl, ⟨rfl, rfl⟩, H⟩

set_option maxHeartbeats 1000000 in
set_option maxRecDepth 100000 in
theorem Ports_low (w : World) (a b q : Int) (A : Option Addr) (n c : Nat) (d : List Int) (inn wh : Int) (kn : Bool) (A2 : Option Addr) (m c2 : Nat) (h : inn < 0) :
    Calls Tryd.prog 8 #[.agg #[.int .u64 a, .int .u64 b, .int .u16 q, .slice A n c], .int .i64 inn, .slice A2 m c2, .int .i64 wh, .bool kn] w (fun e w' => e = .returned (.slice none 0 0) ∧ Below w.heap.size w w') := by
  have H := Hp.nothing w
  have d1 : decide (inn < 0) = true := decide_eq_true h
  clear h
  go_enter Tryd.func8, Tryd.ntmps8
  go_wp2_with (first | ((with_reducible refine gate_dst (N := 5) rfl ?_); refine ev_ rfl (H.box rfl (by first | (go_simp; done) | (go_simp; rfl)) rfl) ?_; rintro _ w1 ⟨g5, rfl, H1⟩; (try simp only [Value.cells] at H1); replace H := H1; clear H1) | ((with_reducible refine gate_dst (N := 8) rfl ?_); refine ev_ rfl (H.box rfl (by first | (go_simp; done) | (go_simp; rfl)) rfl) ?_; rintro _ w1 ⟨g8, rfl, H1⟩; (try simp only [Value.cells] at H1); replace H := H1; clear H1) | ((with_reducible refine gate_dst (N := 9) rfl ?_); refine ev_ rfl (H.box rfl (by first | (go_simp; done) | (go_simp; rfl)) rfl) ?_; rintro _ w1 ⟨g9, rfl, H1⟩; (try simp only [Value.cells] at H1); replace H := H1; clear H1) | ((with_reducible refine gate_dst (N := 30) rfl ?_); refine gate_guard (by rfl) ?_; dsimp only; refine Kd.event_run rfl (H.loadN 27 (.tmp 5) rfl rfl (by repeat (first | exact Pick.here _ | apply Pick.there)) #[.int .u64 a, .int .u64 b, .int .u16 q, .slice A n c] Tryd.underlying27 rfl info27s (fun j u hj => by simpa using hj)) ?_))
  go_ret
  exact ⟨rfl, H.below⟩

set_option maxHeartbeats 1000000 in
set_option maxRecDepth 100000 in
theorem Ports_high (w : World) (a b q : Int) (A : Option Addr) (n c : Nat) (d : List Int) (inn wh : Int) (kn : Bool) (A2 : Option Addr) (m c2 : Nat) (h0 : 0 ≤ inn) (h : (m : Int) ≤ inn) :
    Calls Tryd.prog 8 #[.agg #[.int .u64 a, .int .u64 b, .int .u16 q, .slice A n c], .int .i64 inn, .slice A2 m c2, .int .i64 wh, .bool kn] w (fun e w' => e = .returned (.slice none 0 0) ∧ Below w.heap.size w w') := by
  have H := Hp.nothing w
  have d1 : decide (inn < 0) = false := decide_eq_false (by omega)
  have d2 : decide ((m : Int) ≤ inn) = true := decide_eq_true h
  clear h h0
  go_enter Tryd.func8, Tryd.ntmps8
  go_wp2_with (first | ((with_reducible refine gate_dst (N := 5) rfl ?_); refine ev_ rfl (H.box rfl (by first | (go_simp; done) | (go_simp; rfl)) rfl) ?_; rintro _ w1 ⟨g5, rfl, H1⟩; (try simp only [Value.cells] at H1); replace H := H1; clear H1) | ((with_reducible refine gate_dst (N := 8) rfl ?_); refine ev_ rfl (H.box rfl (by first | (go_simp; done) | (go_simp; rfl)) rfl) ?_; rintro _ w1 ⟨g8, rfl, H1⟩; (try simp only [Value.cells] at H1); replace H := H1; clear H1) | ((with_reducible refine gate_dst (N := 9) rfl ?_); refine ev_ rfl (H.box rfl (by first | (go_simp; done) | (go_simp; rfl)) rfl) ?_; rintro _ w1 ⟨g9, rfl, H1⟩; (try simp only [Value.cells] at H1); replace H := H1; clear H1) | ((with_reducible refine gate_dst (N := 30) rfl ?_); refine gate_guard (by rfl) ?_; dsimp only; refine Kd.event_run rfl (H.loadN 27 (.tmp 5) rfl rfl (by repeat (first | exact Pick.here _ | apply Pick.there)) #[.int .u64 a, .int .u64 b, .int .u16 q, .slice A n c] Tryd.underlying27 rfl info27s (fun j u hj => by simpa using hj)) ?_))
  go_ret
  exact ⟨rfl, H.below⟩

set_option maxHeartbeats 1000000 in
set_option maxRecDepth 100000 in
theorem Ports_shut (w : World) (a b q : Int) (A : Option Addr) (n c : Nat) (d : List Int) (inn wh : Int) (kn : Bool) (A2 : Option Addr) (m c2 : Nat) (st : List Int) (hst : (Kd.int .i64).C w A2 m st) (i : Nat) (hi : inn = (i : Int)) (x : Int) (hx : st[i]? = some x) (h4 : (x == 4) = false) :
    Calls Tryd.prog 8 #[.agg #[.int .u64 a, .int .u64 b, .int .u16 q, .slice A n c], .int .i64 inn, .slice A2 m c2, .int .i64 wh, .bool kn] w (fun e w' => e = .returned (.slice none 0 0) ∧ Below w.heap.size w w') := by
  have H := Hp.nothing w
  subst hi
  have hil : i < m := by have := (List.getElem?_eq_some_iff.1 hx).1; have := hst.1; omega
  obtain ⟨ad, rfl⟩ := C_some hst (by omega)
  have d1 : decide ((i : Int) < 0) = false := decide_eq_false (by omega)
  have d2 : decide ((m : Int) ≤ (i : Int)) = false := decide_eq_false (by omega)
  have d3 : decide (m ≤ i) = false := decide_eq_false (by omega)
  have k0 : (0 : Int) ≤ (i : Int) := by omega
  have k1 : (i : Int) < (m : Int) := by omega
  replace hst := Aside0.mk hst
  replace hx := Aside0.mk hx
  go_enter Tryd.func8, Tryd.ntmps8
  go_wp2_with (first | ((with_reducible refine gate_dst (N := 25) rfl ?_); refine gate_guard (by rfl) ?_; dsimp only; refine Kd.event_run rfl (run_loadCell rfl rfl Tryd.underlying3 rfl (C_cell (H.data hst.out) i x hx.out)) ?_) | (go_at_call 14; refine H.call0 (Forwards_calls _ x _ h4) ?_; rintro v l1 w1 ⟨rfl, rfl⟩ H1; replace H := H1; clear H1) | ((with_reducible refine gate_dst (N := 5) rfl ?_); refine ev_ rfl (H.box rfl (by first | (go_simp; done) | (go_simp; rfl)) rfl) ?_; rintro _ w1 ⟨g5, rfl, H1⟩; (try simp only [Value.cells] at H1); replace H := H1; clear H1) | ((with_reducible refine gate_dst (N := 8) rfl ?_); refine ev_ rfl (H.box rfl (by first | (go_simp; done) | (go_simp; rfl)) rfl) ?_; rintro _ w1 ⟨g8, rfl, H1⟩; (try simp only [Value.cells] at H1); replace H := H1; clear H1) | ((with_reducible refine gate_dst (N := 9) rfl ?_); refine ev_ rfl (H.box rfl (by first | (go_simp; done) | (go_simp; rfl)) rfl) ?_; rintro _ w1 ⟨g9, rfl, H1⟩; (try simp only [Value.cells] at H1); replace H := H1; clear H1) | ((with_reducible refine gate_dst (N := 30) rfl ?_); refine gate_guard (by rfl) ?_; dsimp only; refine Kd.event_run rfl (H.loadN 27 (.tmp 5) rfl rfl (by repeat (first | exact Pick.here _ | apply Pick.there)) #[.int .u64 a, .int .u64 b, .int .u16 q, .slice A n c] Tryd.underlying27 rfl info27s (fun j u hj => by simpa using hj)) ?_))
  go_ret
  exact ⟨rfl, H.below⟩

set_option maxHeartbeats 1000000 in
set_option maxRecDepth 100000 in
theorem Ports_class (w : World) (a b q : Int) (A : Option Addr) (n c : Nat) (d : List Int) (inn wh : Int) (kn : Bool) (A2 : Option Addr) (m c2 : Nat) (st : List Int) (hst : (Kd.int .i64).C w A2 m st) (i : Nat) (hi : inn = (i : Int)) (x : Int) (hx : st[i]? = some x) (h4 : (x == 4) = true) (a0 : 0 ≤ a) (a1 : a < 18446744073709551616) (hG : Glob w) (hd : (Kd.int .u8).C w A n d) (hc : n ≤ c) (hn : n ≤ 100000) (h2 : clsOf a q d ≠ 2) :
    Calls Tryd.prog 8 #[.agg #[.int .u64 a, .int .u64 b, .int .u16 q, .slice A n c], .int .i64 inn, .slice A2 m c2, .int .i64 wh, .bool kn] w (fun e w' => e = .returned (.slice none 0 0) ∧ Below w.heap.size w w') := by
  have H := Hp.nothing w
  subst hi
  have hil : i < m := by have := (List.getElem?_eq_some_iff.1 hx).1; have := hst.1; omega
  obtain ⟨ad, rfl⟩ := C_some hst (by omega)
  have d1 : decide ((i : Int) < 0) = false := decide_eq_false (by omega)
  have d2 : decide ((m : Int) ≤ (i : Int)) = false := decide_eq_false (by omega)
  have d3 : decide (m ≤ i) = false := decide_eq_false (by omega)
  have k0 : (0 : Int) ≤ (i : Int) := by omega
  have k1 : (i : Int) < (m : Int) := by omega
  replace hst := Aside0.mk hst
  replace hx := Aside0.mk hx
  obtain ⟨k, hk⟩ : ∃ k, clsOf a q d = k := ⟨_, rfl⟩
  rw [hk] at h2
  have e2 : (k != 2) = true := bne_iff_ne.2 h2
  clear h2
  replace hk := Aside0.mk hk
  replace a0 := Aside0.mk a0
  replace a1 := Aside0.mk a1
  replace hG := Aside0.mk hG
  replace hd := Aside0.mk hd
  replace hc := Aside0.mk hc
  have hn2 := Aside0.mk hn
  clear hn
  go_enter Tryd.func8, Tryd.ntmps8
  go_wp2_with (first | ((with_reducible refine gate_dst (N := 25) rfl ?_); refine gate_guard (by rfl) ?_; dsimp only; refine Kd.event_run rfl (run_loadCell rfl rfl Tryd.underlying3 rfl (C_cell (H.data hst.out) i x hx.out)) ?_) | (go_at_call 14; refine H.call0 (Forwards_calls _ x _ h4) ?_; rintro v l1 w1 ⟨rfl, rfl⟩ H1; replace H := H1; clear H1) | (go_at_call 9; refine H.call0 (Class_all _ a b q A n c d a0.out a1.out (hG.out.hp H.only) (H.data hd.out) hc.out hn2.out) ?_; rintro v l1 w1 ⟨hv, rfl⟩ H1; rw [hk.out] at hv; subst hv; replace H := H1; clear H1) | ((with_reducible refine gate_dst (N := 5) rfl ?_); refine ev_ rfl (H.box rfl (by first | (go_simp; done) | (go_simp; rfl)) rfl) ?_; rintro _ w1 ⟨g5, rfl, H1⟩; (try simp only [Value.cells] at H1); replace H := H1; clear H1) | ((with_reducible refine gate_dst (N := 8) rfl ?_); refine ev_ rfl (H.box rfl (by first | (go_simp; done) | (go_simp; rfl)) rfl) ?_; rintro _ w1 ⟨g8, rfl, H1⟩; (try simp only [Value.cells] at H1); replace H := H1; clear H1) | ((with_reducible refine gate_dst (N := 9) rfl ?_); refine ev_ rfl (H.box rfl (by first | (go_simp; done) | (go_simp; rfl)) rfl) ?_; rintro _ w1 ⟨g9, rfl, H1⟩; (try simp only [Value.cells] at H1); replace H := H1; clear H1) | ((with_reducible refine gate_dst (N := 30) rfl ?_); refine gate_guard (by rfl) ?_; dsimp only; refine Kd.event_run rfl (H.loadN 27 (.tmp 5) rfl rfl (by repeat (first | exact Pick.here _ | apply Pick.there)) #[.int .u64 a, .int .u64 b, .int .u16 q, .slice A n c] Tryd.underlying27 rfl info27s (fun j u hj => by simpa using hj)) ?_))
  go_ret
  exact ⟨rfl, H.below⟩

/-- By which ports a frame goes on. -/
def portsOf (a q : Int) (d : List Int) (inn : Int) (st : List Int) (wh : Int) (kn : Bool) : List Int :=
  if 0 ≤ inn ∧ inn < (st.length : Int) ∧ st.getD inn.toNat 0 = 4 ∧ clsOf a q d = 2 then sel a wh kn (thru inn st st.length) else []
theorem Ports_all (w : World) (a b q : Int) (A : Option Addr) (n c : Nat) (d : List Int) (inn wh : Int) (kn : Bool) (A2 : Option Addr) (m c2 : Nat) (st : List Int) (hst : (Kd.int .i64).C w A2 m st) (hm : m ≤ 100000) (a0 : 0 ≤ a) (a1 : a < 18446744073709551616) (hG : Glob w) (hd : (Kd.int .u8).C w A n d) (hc : n ≤ c) (hn : n ≤ 100000) :
    Calls Tryd.prog 8 #[.agg #[.int .u64 a, .int .u64 b, .int .u16 q, .slice A n c], .int .i64 inn, .slice A2 m c2, .int .i64 wh, .bool kn] w fun e w' => ∃ v, e = .returned v ∧ (Kd.int .i64).R 3 w' w.heap.size (fun _ => True) v (portsOf a q d inn st wh kn) ∧ Below w.heap.size w w' := by
  have hml : st.length = m := hst.1
  have nil : ∀ e (w' : World), (e = Ending.returned (.slice none 0 0) ∧ Below w.heap.size w w') → ∃ v, e = .returned v ∧ (Kd.int .i64).R 3 w' w.heap.size (fun _ => True) v [] ∧ Below w.heap.size w w' := fun e w' h => ⟨_, h.1, Kd.R_nil _ _ _ _ _, h.2⟩
  unfold portsOf
  by_cases h0 : 0 ≤ inn
  rotate_left
  · rw [if_neg (fun q => h0 q.1)]
    exact (Ports_low w a b q A n c d inn wh kn A2 m c2 (by omega)).mono nil
  by_cases h1 : inn < (st.length : Int)
  rotate_left
  · rw [if_neg (fun q => h1 q.2.1)]
    exact (Ports_high w a b q A n c d inn wh kn A2 m c2 h0 (by omega)).mono nil
  obtain ⟨i, rfl⟩ := Int.eq_ofNat_of_zero_le h0
  have hil : i < st.length := by omega
  have hx : st[i]? = some st[i] := List.getElem?_eq_getElem hil
  have hgd : st.getD (i : Int).toNat 0 = st[i] := by rw [Int.toNat_natCast, List.getD_eq_getElem?_getD, hx, Option.getD_some]
  rw [hgd]
  by_cases h4 : st[i] = 4
  rotate_left
  · rw [if_neg (fun q => h4 q.2.2.1)]
    exact (Ports_shut w a b q A n c d _ wh kn A2 m c2 st hst i rfl _ hx (beq_eq_false_iff_ne.2 h4)).mono nil
  by_cases h2 : clsOf a q d = 2
  rotate_left
  · rw [if_neg (fun q => h2 q.2.2.2)]
    exact (Ports_class w a b q A n c d _ wh kn A2 m c2 st hst i rfl _ hx (beq_iff_eq.2 h4) a0 a1 hG hd hc hn h2).mono nil
  rw [if_pos ⟨h0, h1, h4, h2⟩]
  obtain ⟨ad, rfl⟩ := C_some hst (by omega)
  have hcell : ∀ j x, st[j]? = some x → w.cell? (ad.add j) = some (.int .i64 x) := fun j x hj => C_cell hst j x hj
  have had : ad.block < w.heap.size := by
    have := World.block_lt_of_cell? w _ (hcell 0 _ (List.getElem?_eq_getElem (by omega)))
    unfold Addr.add at this
    simpa using this
  subst hml
  refine (Ports_go w a b q A n c _ wh kn ad c2 st (by omega) had hcell i rfl hil (by rw [hx, h4]) (fun W hW => ?_)).mono ?_
  · refine (Class_all W a b q A n c d a0 a1 (hG.below hW) (Kd.C_below hd hW) hc hn).mono ?_
    rintro e w' ⟨v, l, rfl, ⟨rfl, rfl⟩, H⟩
    rw [h2]
    exact ⟨rfl, H.below⟩
  · rintro e w' ⟨v, rfl, ho, hb⟩
    exact ⟨v, rfl, Kd.R_of_own ho (fun _ _ => trivial), hb⟩

end Go.Proofs.YtkgfpagfmdefgaaDoor.Llc
