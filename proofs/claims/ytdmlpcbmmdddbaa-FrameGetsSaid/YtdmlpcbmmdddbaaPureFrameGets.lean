/- The law FrameGets over what its functions come to. Walked by hand. -/
import Derived.Test.YtdmlpcbmmdddbaaFrameQ
import Derived.Test.YtdmlpcbmmdddbaaAr
namespace Go.Proofs.Ytdmlpcbmmdddbaa.Pure
open Go.RowKit Go.Proofs.YtdmlpcbmmdddbaaW.PrintWords Go.Proofs.YtdmlpcbmmdddbaaW.PrintLast Go.Proofs.YtdmlpcbmmdddbaaW.PrintMore
set_option linter.unusedVariables false
set_option linter.unusedSimpArgs false
open Go.Proofs.Ytdmlpcbmmdddbaa.Sep Go.Proofs.Ytdmlpcbmmdddbaa.Wire Go.Proofs.Ytdmlpcbmmdddbaa.Frame
set_option maxHeartbeats 1000000 in
set_option maxRecDepth 100000 in
theorem Gets_early (w : World) (A : Option Addr) (n c : Nat) (bs : List Int) (hb : (Kd.int .u8).C w A n bs) (hc : n ≤ c) (h : 3000 < n) :
    Calls Try.prog 6 #[.slice A n c] w (fun e w' => e = .returned (.bool true) ∧ Below w.heap.size w w') := by
  have H := Hp.nothing w
  have c1 : decide (3000 < (n : Int)) = true := decide_eq_true (by omega)
  have c1' : decide (3000 < n) = true := decide_eq_true h
  clear hb hc h
  go_enter Try.func6, Try.ntmps6
  go_wp2_with (first | (go_at_call 13; refine H.call1 (awake_calls _) ?_; intro w1 H1; replace H := H1; clear H1))
  go_ret
  exact ⟨rfl, H.below⟩

set_option maxHeartbeats 1000000 in
set_option maxRecDepth 100000 in
theorem Gets_main (w : World) (A : Option Addr) (n c : Nat) (bs : List Int) (hb : (Kd.int .u8).C w A n bs) (hc : n ≤ c) (hby : ∀ y ∈ bs, 0 ≤ y ∧ y ≤ 255) (h : n ≤ 3000) :
    Calls Try.prog 6 #[.slice A n c] w (fun e w' => e = .returned (.bool true) ∧ Below w.heap.size w w') := by
  have H := Hp.nothing w
  obtain rfl : bs.length = n := hb.1
  have c1 : decide (3000 < (bs.length : Int)) = false := decide_eq_false (by omega)
  have c1' : decide (3000 < bs.length) = false := decide_eq_false (by omega)
  replace hb := Aside0.mk hb
  replace hc := Aside0.mk hc
  replace hby := Aside0.mk hby
  have hh := Aside0.mk h
  obtain ⟨⟨a, b, q, d, e⟩, hr⟩ : ∃ r, getF bs = r := ⟨_, rfl⟩
  replace hr := Aside0.mk hr
  clear h
  go_enter Try.func6, Try.ntmps6
  go_wp2_with (first | ((with_reducible refine gate_dst (N := 3) rfl ?_); refine ev_ rfl (H.new (cs := #[.int .u64 0, .int .u64 0, .int .u16 0, .slice none 0 0]) (t := 27) (by first | (go_simp; done) | (go_simp; rfl))) ?_; rintro _ w1 ⟨g3, rfl, H1⟩; replace H := H1; clear H1) | ((with_reducible refine gate_store (p := 3) rfl ?_); refine ev_ rfl (H.store 27 (.tmp 3) (.tmp 18) rfl rfl (by repeat (first | exact Pick.here _ | apply Pick.there)) (by first | (go_simp; done) | (go_simp; rfl)) _ rfl info27s (by simp [Value.oneCell', Value.cells]) (by simp [Value.cells]) rfl) ?_; rintro _ w1 ⟨rfl, H1⟩; (try simp only [putsAt, Value.cells, List.setIfInBounds_toArray, List.set_cons_zero, List.set_cons_succ, List.toList_toArray] at H1); replace H := H1; clear H1) | ((with_reducible refine gate_dst (N := 5) rfl ?_); refine ev_ rfl (H.new (cs := #[.int .u64 0, .int .u64 0, .int .u16 0, .slice none 0 0]) (t := 27) (by first | (go_simp; done) | (go_simp; rfl))) ?_; rintro _ w1 ⟨g5, rfl, H1⟩; replace H := H1; clear H1) | ((with_reducible refine gate_store (p := 5) rfl ?_); refine ev_ rfl (H.store 27 (.tmp 5) (.tmp 23) rfl rfl (by repeat (first | exact Pick.here _ | apply Pick.there)) (by first | (go_simp; done) | (go_simp; rfl)) _ rfl info27s (by simp [Value.oneCell', Value.cells]) (by simp [Value.cells]) rfl) ?_; rintro _ w1 ⟨rfl, H1⟩; (try simp only [putsAt, Value.cells, List.setIfInBounds_toArray, List.set_cons_zero, List.set_cons_succ, List.toList_toArray] at H1); replace H := H1; clear H1) | ((with_reducible refine gate_dst (N := 29) rfl ?_); refine gate_guard (by rfl) ?_; dsimp only; refine Kd.event_run rfl (H.loadN 27 (.tmp 3) rfl rfl (by repeat (first | exact Pick.here _ | apply Pick.there)) #[.int .u64 a, .int .u64 b, .int .u16 q, .slice A5 d.length c5] Try.underlying27 rfl info27s (fun j u hj => by simpa using hj)) ?_) | ((with_reducible refine gate_dst (N := 30) rfl ?_); refine gate_guard (by rfl) ?_; dsimp only; refine Kd.event_run rfl (H.loadN 27 (.tmp 5) rfl rfl (by repeat (first | exact Pick.here _ | apply Pick.there)) #[.int .u64 a, .int .u64 b, .int .u16 q, .slice A6 d.length c6] Try.underlying27 rfl info27s (fun j u hj => by simpa using hj)) ?_) | ((with_reducible refine gate_dst (N := 34) rfl ?_); refine gate_guard (by rfl) ?_; dsimp only; refine Kd.event_run rfl (H.loadN 27 (.tmp 3) rfl rfl (by repeat (first | exact Pick.here _ | apply Pick.there)) #[.int .u64 a, .int .u64 b, .int .u16 q, .slice A5 d.length c5] Try.underlying27 rfl info27s (fun j u hj => by simpa using hj)) ?_) | ((with_reducible refine gate_dst (N := 35) rfl ?_); refine gate_guard (by rfl) ?_; dsimp only; refine Kd.event_run rfl (H.loadN 27 (.tmp 5) rfl rfl (by repeat (first | exact Pick.here _ | apply Pick.there)) #[.int .u64 a, .int .u64 b, .int .u16 q, .slice A6 d.length c6] Try.underlying27 rfl info27s (fun j u hj => by simpa using hj)) ?_) | (go_at_call 13; refine H.call1 (awake_calls _) ?_; intro w1 H1; replace H := H1; clear H1) | (go_at_call 21; refine H.call0 (Get_all _ A bs.length c bs (H.data hb.out) hc.out (by have := hh.out; omega) hby.out) ?_; rintro v l1 w1 ⟨dv, rfl, rfl⟩ H1; rw [hr.out] at H1; rw [hr.out]; dsimp only at H1; dsimp only; obtain ⟨A5, c5, rfl, hc5, HC5⟩ := H1.reads (.here _); replace H := H1; clear H1 hc5 HC5) | (go_at_call 22; refine H.call0 (RefGet_all _ A bs.length c bs (H.data hb.out) hc.out (by have := hh.out; omega) hby.out) ?_; rintro v l1 w1 ⟨dv, rfl, rfl⟩ H1; rw [hr.out] at H1; rw [hr.out]; dsimp only at H1; dsimp only; obtain ⟨A6, c6, rfl, hc6, HC6⟩ := H1.reads (.here _); replace H := H1; clear H1 hc6 HC6) | (go_at_call 19; refine H.call0 (Same_calls _ a b q A5 A6 d.length d.length c5 c6 d (H.readsN (by repeat (first | exact Pick.here _ | apply Pick.there))) (H.readsN (by repeat (first | exact Pick.here _ | apply Pick.there)))) ?_; rintro v l1 w1 ⟨rfl, rfl⟩ H1; replace H := H1; clear H1) | (go_at_call 20; refine H.call0 (RefSame_calls _ a b q A5 A6 d.length d.length c5 c6 d (H.readsN (by repeat (first | exact Pick.here _ | apply Pick.there))) (H.readsN (by repeat (first | exact Pick.here _ | apply Pick.there)))) ?_; rintro v l1 w1 ⟨rfl, rfl⟩ H1; replace H := H1; clear H1))
  go_ret
  exact ⟨rfl, H.below⟩

theorem FrameGets (W : World) (l0 : List Int) (w0 : ∀ y ∈ l0, (Lit.int .u8 y).wf = true) {A0 : Option Addr} {c0 : Nat} (hC0 : (Kd.int .u8).C W A0 l0.length l0) (hc0 : l0.length ≤ c0) :
    Calls Try.prog 6 #[.slice A0 l0.length c0] W (fun e w' => e = .returned (.bool true) ∧ Below W.heap.size W w') := by
  by_cases h : 3000 < l0.length
  · exact Gets_early W A0 _ c0 l0 hC0 hc0 h
  · exact Gets_main W A0 _ c0 l0 hC0 hc0 (fun y hy => by have := Ar.wf_u8 (w0 y hy); omega) (by omega)

end Go.Proofs.Ytdmlpcbmmdddbaa.Pure
