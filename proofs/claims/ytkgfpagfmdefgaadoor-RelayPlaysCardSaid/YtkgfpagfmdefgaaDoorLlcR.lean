/- What functions that deal with frames of bridges come to. Walked by hand. -/
import Derived.Test.YtkgfpagfmdefgaaDoorLlc
namespace Go.Proofs.YtkgfpagfmdefgaaDoor.Llc
open Go.RowKit Go.Proofs.YtkgfpagfmdefgaaDoorW.PrintWords Go.Proofs.YtkgfpagfmdefgaaDoorW.PrintLast Go.Proofs.YtkgfpagfmdefgaaDoorW.PrintMore
set_option linter.unusedVariables false
set_option linter.unusedSimpArgs false
open Go.Proofs.YtkgfpagfmdefgaaDoor.Sep
set_option maxHeartbeats 1000000 in
set_option maxRecDepth 100000 in
theorem RefOpen_addr (w : World) (a b q : Int) (A : Option Addr) (n c : Nat) (d : List Int) (hd : (Kd.int .u8).C w A n d) (hc : n ≤ c) (ha : a ≠ 1652522221568) :
    Calls Tryd.prog 19 #[.agg #[.int .u64 a, .int .u64 b, .int .u16 q, .slice A n c]] w (Ret (fun _ => False) w fun v l => v = .tuple #[.slice none 0 0, .int .i64 0] ∧ l = []) := by
  have H := Hp.nothing w
  have e1 : (a != 1652522221568) = true := bne_iff_ne.2 ha
  clear hd ha
  replace hc := Aside0.mk hc
  go_enter Tryd.func19, Tryd.ntmps19
  go_wp2_with (first | ((with_reducible refine gate_dst (N := 1) rfl ?_); refine ev_ rfl (H.box rfl (by first | (go_simp; done) | (go_simp; rfl)) rfl) ?_; rintro _ w1 ⟨g1, rfl, H1⟩; (try simp only [Value.cells] at H1); replace H := H1; clear H1) | ((with_reducible refine gate_dst (N := 5) rfl ?_); refine Kd.event_run rfl (H.load1 23 (.tmp 4) rfl rfl (by repeat (first | exact Pick.here _ | apply Pick.there)) Tryd.underlying23 rfl rfl) ?_) | ((with_reducible refine gate_dst (N := 9) rfl ?_); refine gate_guard (by rfl) ?_; dsimp only; refine Kd.event_run rfl (H.load1 24 (.tmp 8) rfl rfl (by repeat (first | exact Pick.here _ | apply Pick.there)) Tryd.underlying24 rfl rfl) ?_) | ((with_reducible refine gate_dst (N := 14) rfl ?_); refine gate_guard (by rfl) ?_; dsimp only; refine Kd.event_run rfl (H.load1 25 (.tmp 13) rfl rfl (by repeat (first | exact Pick.here _ | apply Pick.there)) Tryd.underlying25 rfl rfl) ?_) | ((with_reducible refine gate_dst (N := 20) rfl ?_); refine gate_guard (by rfl) ?_; dsimp only; refine Kd.event_run rfl (H.load1 25 (.tmp 19) rfl rfl (by repeat (first | exact Pick.here _ | apply Pick.there)) Tryd.underlying25 rfl rfl) ?_) | ((with_reducible refine gate_dst (N := 27) rfl ?_); refine gate_guard (by rfl) ?_; dsimp only; refine Kd.event_run rfl (H.load1 25 (.tmp 26) rfl rfl (by repeat (first | exact Pick.here _ | apply Pick.there)) Tryd.underlying25 rfl rfl) ?_) | ((with_reducible refine gate_dst (N := 34) rfl ?_); refine gate_guard (by rfl) ?_; dsimp only; refine Kd.event_run rfl (H.load1 25 (.tmp 33) rfl rfl (by repeat (first | exact Pick.here _ | apply Pick.there)) Tryd.underlying25 rfl rfl) ?_) | ((with_reducible refine gate_dst (N := 40) rfl ?_); refine Kd.event_run rfl (H.load1 25 (.tmp 39) rfl rfl (by repeat (first | exact Pick.here _ | apply Pick.there)) Tryd.underlying25 rfl rfl) ?_))
  go_ret2
  exact ⟨_, _, rfl, ⟨rfl, rfl⟩, H.only⟩

set_option maxHeartbeats 1000000 in
set_option maxRecDepth 100000 in
theorem RefOpen_kind (w : World) (a b q : Int) (A : Option Addr) (n c : Nat) (d : List Int) (hd : (Kd.int .u8).C w A n d) (hc : n ≤ c) (ha : a = 1652522221568) (hq : 1500 < q) :
    Calls Tryd.prog 19 #[.agg #[.int .u64 a, .int .u64 b, .int .u16 q, .slice A n c]] w (Ret (fun _ => False) w fun v l => v = .tuple #[.slice none 0 0, .int .i64 0] ∧ l = []) := by
  have H := Hp.nothing w
  subst ha
  have e1 : decide (1500 < q) = true := decide_eq_true hq
  clear hd hq
  replace hc := Aside0.mk hc
  go_enter Tryd.func19, Tryd.ntmps19
  go_wp2_with (first | ((with_reducible refine gate_dst (N := 1) rfl ?_); refine ev_ rfl (H.box rfl (by first | (go_simp; done) | (go_simp; rfl)) rfl) ?_; rintro _ w1 ⟨g1, rfl, H1⟩; (try simp only [Value.cells] at H1); replace H := H1; clear H1) | ((with_reducible refine gate_dst (N := 5) rfl ?_); refine Kd.event_run rfl (H.load1 23 (.tmp 4) rfl rfl (by repeat (first | exact Pick.here _ | apply Pick.there)) Tryd.underlying23 rfl rfl) ?_) | ((with_reducible refine gate_dst (N := 9) rfl ?_); refine gate_guard (by rfl) ?_; dsimp only; refine Kd.event_run rfl (H.load1 24 (.tmp 8) rfl rfl (by repeat (first | exact Pick.here _ | apply Pick.there)) Tryd.underlying24 rfl rfl) ?_) | ((with_reducible refine gate_dst (N := 14) rfl ?_); refine gate_guard (by rfl) ?_; dsimp only; refine Kd.event_run rfl (H.load1 25 (.tmp 13) rfl rfl (by repeat (first | exact Pick.here _ | apply Pick.there)) Tryd.underlying25 rfl rfl) ?_) | ((with_reducible refine gate_dst (N := 20) rfl ?_); refine gate_guard (by rfl) ?_; dsimp only; refine Kd.event_run rfl (H.load1 25 (.tmp 19) rfl rfl (by repeat (first | exact Pick.here _ | apply Pick.there)) Tryd.underlying25 rfl rfl) ?_) | ((with_reducible refine gate_dst (N := 27) rfl ?_); refine gate_guard (by rfl) ?_; dsimp only; refine Kd.event_run rfl (H.load1 25 (.tmp 26) rfl rfl (by repeat (first | exact Pick.here _ | apply Pick.there)) Tryd.underlying25 rfl rfl) ?_) | ((with_reducible refine gate_dst (N := 34) rfl ?_); refine gate_guard (by rfl) ?_; dsimp only; refine Kd.event_run rfl (H.load1 25 (.tmp 33) rfl rfl (by repeat (first | exact Pick.here _ | apply Pick.there)) Tryd.underlying25 rfl rfl) ?_) | ((with_reducible refine gate_dst (N := 40) rfl ?_); refine Kd.event_run rfl (H.load1 25 (.tmp 39) rfl rfl (by repeat (first | exact Pick.here _ | apply Pick.there)) Tryd.underlying25 rfl rfl) ?_))
  go_ret2
  exact ⟨_, _, rfl, ⟨rfl, rfl⟩, H.only⟩

set_option maxHeartbeats 1000000 in
set_option maxRecDepth 100000 in
theorem RefOpen_short (w : World) (a b q : Int) (A : Option Addr) (n c : Nat) (d : List Int) (hd : (Kd.int .u8).C w A n d) (hc : n ≤ c) (ha : a = 1652522221568) (hq : q ≤ 1500) (h3 : n < 3) :
    Calls Tryd.prog 19 #[.agg #[.int .u64 a, .int .u64 b, .int .u16 q, .slice A n c]] w (Ret (fun _ => False) w fun v l => v = .tuple #[.slice none 0 0, .int .i64 0] ∧ l = []) := by
  have H := Hp.nothing w
  subst ha
  have e1 : decide (1500 < q) = false := decide_eq_false (by omega)
  have e2 : decide (n < 3) = true := decide_eq_true h3
  have e3 : decide ((n : Int) < 3) = true := decide_eq_true (by omega)
  clear hd hq h3
  replace hc := Aside0.mk hc
  go_enter Tryd.func19, Tryd.ntmps19
  go_wp2_with (first | ((with_reducible refine gate_dst (N := 1) rfl ?_); refine ev_ rfl (H.box rfl (by first | (go_simp; done) | (go_simp; rfl)) rfl) ?_; rintro _ w1 ⟨g1, rfl, H1⟩; (try simp only [Value.cells] at H1); replace H := H1; clear H1) | ((with_reducible refine gate_dst (N := 5) rfl ?_); refine Kd.event_run rfl (H.load1 23 (.tmp 4) rfl rfl (by repeat (first | exact Pick.here _ | apply Pick.there)) Tryd.underlying23 rfl rfl) ?_) | ((with_reducible refine gate_dst (N := 9) rfl ?_); refine gate_guard (by rfl) ?_; dsimp only; refine Kd.event_run rfl (H.load1 24 (.tmp 8) rfl rfl (by repeat (first | exact Pick.here _ | apply Pick.there)) Tryd.underlying24 rfl rfl) ?_) | ((with_reducible refine gate_dst (N := 14) rfl ?_); refine gate_guard (by rfl) ?_; dsimp only; refine Kd.event_run rfl (H.load1 25 (.tmp 13) rfl rfl (by repeat (first | exact Pick.here _ | apply Pick.there)) Tryd.underlying25 rfl rfl) ?_) | ((with_reducible refine gate_dst (N := 20) rfl ?_); refine gate_guard (by rfl) ?_; dsimp only; refine Kd.event_run rfl (H.load1 25 (.tmp 19) rfl rfl (by repeat (first | exact Pick.here _ | apply Pick.there)) Tryd.underlying25 rfl rfl) ?_) | ((with_reducible refine gate_dst (N := 27) rfl ?_); refine gate_guard (by rfl) ?_; dsimp only; refine Kd.event_run rfl (H.load1 25 (.tmp 26) rfl rfl (by repeat (first | exact Pick.here _ | apply Pick.there)) Tryd.underlying25 rfl rfl) ?_) | ((with_reducible refine gate_dst (N := 34) rfl ?_); refine gate_guard (by rfl) ?_; dsimp only; refine Kd.event_run rfl (H.load1 25 (.tmp 33) rfl rfl (by repeat (first | exact Pick.here _ | apply Pick.there)) Tryd.underlying25 rfl rfl) ?_) | ((with_reducible refine gate_dst (N := 40) rfl ?_); refine Kd.event_run rfl (H.load1 25 (.tmp 39) rfl rfl (by repeat (first | exact Pick.here _ | apply Pick.there)) Tryd.underlying25 rfl rfl) ?_))
  go_ret2
  exact ⟨_, _, rfl, ⟨rfl, rfl⟩, H.only⟩

set_option maxHeartbeats 1000000 in
set_option maxRecDepth 100000 in
theorem RefOpen_x0 (w : World) (a b q : Int) (A : Option Addr) (n c : Nat) (x0 x1 x2 : Int) (r : List Int) (hd : (Kd.int .u8).C w A n (x0 :: x1 :: x2 :: r)) (hc : n ≤ c) (ha : a = 1652522221568) (hq : q ≤ 1500) (h3 : 3 ≤ n) (hx : x0 ≠ 66) :
    Calls Tryd.prog 19 #[.agg #[.int .u64 a, .int .u64 b, .int .u16 q, .slice A n c]] w (Ret (fun _ => False) w fun v l => v = .tuple #[.slice none 0 0, .int .i64 0] ∧ l = []) := by
  have H := Hp.nothing w
  subst ha
  have e1 : decide (1500 < q) = false := decide_eq_false (by omega)
  have e2 : decide (n < 3) = false := decide_eq_false (by omega)
  have e3 : decide ((n : Int) < 3) = false := decide_eq_false (by omega)
  have l0 : 0 < n := by omega
  have l1 : 1 < n := by omega
  have l2 : 2 < n := by omega
  have l0I : (0 : Int) < (n : Int) := by omega
  have l1I : (1 : Int) < (n : Int) := by omega
  have l2I : (2 : Int) < (n : Int) := by omega
  obtain ⟨ad, rfl⟩ := C_some hd (by omega)
  replace hd := Aside0.mk hd
  replace h3 := Aside0.mk h3
  clear hq
  have f0 : (x0 != 66) = true := bne_iff_ne.2 hx
  clear hx
  replace hc := Aside0.mk hc
  go_enter Tryd.func19, Tryd.ntmps19
  go_wp2_with (first | ((with_reducible refine gate_dst (N := 22) rfl ?_); refine gate_guard (by rfl) ?_; dsimp only; refine Kd.event_run rfl (run_loadCell rfl rfl Tryd.underlying5 rfl ((by have := C_cell (H.data hd.out) 0 x0 rfl; simpa [Addr.add] using this))) ?_) | ((with_reducible refine gate_dst (N := 29) rfl ?_); refine gate_guard (by rfl) ?_; dsimp only; refine Kd.event_run rfl (run_loadCell rfl rfl Tryd.underlying5 rfl (C_cell (H.data hd.out) 1 x1 rfl)) ?_) | ((with_reducible refine gate_dst (N := 36) rfl ?_); refine gate_guard (by rfl) ?_; dsimp only; refine Kd.event_run rfl (run_loadCell rfl rfl Tryd.underlying5 rfl (C_cell (H.data hd.out) 2 x2 rfl)) ?_) | ((with_reducible refine gate_dst (N := 1) rfl ?_); refine ev_ rfl (H.box rfl (by first | (go_simp; done) | (go_simp; rfl)) rfl) ?_; rintro _ w1 ⟨g1, rfl, H1⟩; (try simp only [Value.cells] at H1); replace H := H1; clear H1) | ((with_reducible refine gate_dst (N := 5) rfl ?_); refine Kd.event_run rfl (H.load1 23 (.tmp 4) rfl rfl (by repeat (first | exact Pick.here _ | apply Pick.there)) Tryd.underlying23 rfl rfl) ?_) | ((with_reducible refine gate_dst (N := 9) rfl ?_); refine gate_guard (by rfl) ?_; dsimp only; refine Kd.event_run rfl (H.load1 24 (.tmp 8) rfl rfl (by repeat (first | exact Pick.here _ | apply Pick.there)) Tryd.underlying24 rfl rfl) ?_) | ((with_reducible refine gate_dst (N := 14) rfl ?_); refine gate_guard (by rfl) ?_; dsimp only; refine Kd.event_run rfl (H.load1 25 (.tmp 13) rfl rfl (by repeat (first | exact Pick.here _ | apply Pick.there)) Tryd.underlying25 rfl rfl) ?_) | ((with_reducible refine gate_dst (N := 20) rfl ?_); refine gate_guard (by rfl) ?_; dsimp only; refine Kd.event_run rfl (H.load1 25 (.tmp 19) rfl rfl (by repeat (first | exact Pick.here _ | apply Pick.there)) Tryd.underlying25 rfl rfl) ?_) | ((with_reducible refine gate_dst (N := 27) rfl ?_); refine gate_guard (by rfl) ?_; dsimp only; refine Kd.event_run rfl (H.load1 25 (.tmp 26) rfl rfl (by repeat (first | exact Pick.here _ | apply Pick.there)) Tryd.underlying25 rfl rfl) ?_) | ((with_reducible refine gate_dst (N := 34) rfl ?_); refine gate_guard (by rfl) ?_; dsimp only; refine Kd.event_run rfl (H.load1 25 (.tmp 33) rfl rfl (by repeat (first | exact Pick.here _ | apply Pick.there)) Tryd.underlying25 rfl rfl) ?_) | ((with_reducible refine gate_dst (N := 40) rfl ?_); refine Kd.event_run rfl (H.load1 25 (.tmp 39) rfl rfl (by repeat (first | exact Pick.here _ | apply Pick.there)) Tryd.underlying25 rfl rfl) ?_))
  go_ret2
  exact ⟨_, _, rfl, ⟨rfl, rfl⟩, H.only⟩

set_option maxHeartbeats 1000000 in
set_option maxRecDepth 100000 in
theorem RefOpen_x1 (w : World) (a b q : Int) (A : Option Addr) (n c : Nat) (x0 x1 x2 : Int) (r : List Int) (hd : (Kd.int .u8).C w A n (x0 :: x1 :: x2 :: r)) (hc : n ≤ c) (ha : a = 1652522221568) (hq : q ≤ 1500) (h3 : 3 ≤ n) (h0 : x0 = 66) (hx : x1 ≠ 66) :
    Calls Tryd.prog 19 #[.agg #[.int .u64 a, .int .u64 b, .int .u16 q, .slice A n c]] w (Ret (fun _ => False) w fun v l => v = .tuple #[.slice none 0 0, .int .i64 0] ∧ l = []) := by
  have H := Hp.nothing w
  subst h0
  subst ha
  have e1 : decide (1500 < q) = false := decide_eq_false (by omega)
  have e2 : decide (n < 3) = false := decide_eq_false (by omega)
  have e3 : decide ((n : Int) < 3) = false := decide_eq_false (by omega)
  have l0 : 0 < n := by omega
  have l1 : 1 < n := by omega
  have l2 : 2 < n := by omega
  have l0I : (0 : Int) < (n : Int) := by omega
  have l1I : (1 : Int) < (n : Int) := by omega
  have l2I : (2 : Int) < (n : Int) := by omega
  obtain ⟨ad, rfl⟩ := C_some hd (by omega)
  replace hd := Aside0.mk hd
  replace h3 := Aside0.mk h3
  clear hq
  have f1 : (x1 != 66) = true := bne_iff_ne.2 hx
  clear hx
  replace hc := Aside0.mk hc
  go_enter Tryd.func19, Tryd.ntmps19
  go_wp2_with (first | ((with_reducible refine gate_dst (N := 22) rfl ?_); refine gate_guard (by rfl) ?_; dsimp only; refine Kd.event_run rfl (run_loadCell rfl rfl Tryd.underlying5 rfl ((by have := C_cell (H.data hd.out) 0 66 rfl; simpa [Addr.add] using this))) ?_) | ((with_reducible refine gate_dst (N := 29) rfl ?_); refine gate_guard (by rfl) ?_; dsimp only; refine Kd.event_run rfl (run_loadCell rfl rfl Tryd.underlying5 rfl (C_cell (H.data hd.out) 1 x1 rfl)) ?_) | ((with_reducible refine gate_dst (N := 36) rfl ?_); refine gate_guard (by rfl) ?_; dsimp only; refine Kd.event_run rfl (run_loadCell rfl rfl Tryd.underlying5 rfl (C_cell (H.data hd.out) 2 x2 rfl)) ?_) | ((with_reducible refine gate_dst (N := 1) rfl ?_); refine ev_ rfl (H.box rfl (by first | (go_simp; done) | (go_simp; rfl)) rfl) ?_; rintro _ w1 ⟨g1, rfl, H1⟩; (try simp only [Value.cells] at H1); replace H := H1; clear H1) | ((with_reducible refine gate_dst (N := 5) rfl ?_); refine Kd.event_run rfl (H.load1 23 (.tmp 4) rfl rfl (by repeat (first | exact Pick.here _ | apply Pick.there)) Tryd.underlying23 rfl rfl) ?_) | ((with_reducible refine gate_dst (N := 9) rfl ?_); refine gate_guard (by rfl) ?_; dsimp only; refine Kd.event_run rfl (H.load1 24 (.tmp 8) rfl rfl (by repeat (first | exact Pick.here _ | apply Pick.there)) Tryd.underlying24 rfl rfl) ?_) | ((with_reducible refine gate_dst (N := 14) rfl ?_); refine gate_guard (by rfl) ?_; dsimp only; refine Kd.event_run rfl (H.load1 25 (.tmp 13) rfl rfl (by repeat (first | exact Pick.here _ | apply Pick.there)) Tryd.underlying25 rfl rfl) ?_) | ((with_reducible refine gate_dst (N := 20) rfl ?_); refine gate_guard (by rfl) ?_; dsimp only; refine Kd.event_run rfl (H.load1 25 (.tmp 19) rfl rfl (by repeat (first | exact Pick.here _ | apply Pick.there)) Tryd.underlying25 rfl rfl) ?_) | ((with_reducible refine gate_dst (N := 27) rfl ?_); refine gate_guard (by rfl) ?_; dsimp only; refine Kd.event_run rfl (H.load1 25 (.tmp 26) rfl rfl (by repeat (first | exact Pick.here _ | apply Pick.there)) Tryd.underlying25 rfl rfl) ?_) | ((with_reducible refine gate_dst (N := 34) rfl ?_); refine gate_guard (by rfl) ?_; dsimp only; refine Kd.event_run rfl (H.load1 25 (.tmp 33) rfl rfl (by repeat (first | exact Pick.here _ | apply Pick.there)) Tryd.underlying25 rfl rfl) ?_) | ((with_reducible refine gate_dst (N := 40) rfl ?_); refine Kd.event_run rfl (H.load1 25 (.tmp 39) rfl rfl (by repeat (first | exact Pick.here _ | apply Pick.there)) Tryd.underlying25 rfl rfl) ?_))
  go_ret2
  exact ⟨_, _, rfl, ⟨rfl, rfl⟩, H.only⟩

set_option maxHeartbeats 1000000 in
set_option maxRecDepth 100000 in
theorem RefOpen_x2 (w : World) (a b q : Int) (A : Option Addr) (n c : Nat) (x0 x1 x2 : Int) (r : List Int) (hd : (Kd.int .u8).C w A n (x0 :: x1 :: x2 :: r)) (hc : n ≤ c) (ha : a = 1652522221568) (hq : q ≤ 1500) (h3 : 3 ≤ n) (h0 : x0 = 66) (h1 : x1 = 66) (hx : x2 ≠ 3) :
    Calls Tryd.prog 19 #[.agg #[.int .u64 a, .int .u64 b, .int .u16 q, .slice A n c]] w (Ret (fun _ => False) w fun v l => v = .tuple #[.slice none 0 0, .int .i64 0] ∧ l = []) := by
  have H := Hp.nothing w
  subst h0
  subst h1
  subst ha
  have e1 : decide (1500 < q) = false := decide_eq_false (by omega)
  have e2 : decide (n < 3) = false := decide_eq_false (by omega)
  have e3 : decide ((n : Int) < 3) = false := decide_eq_false (by omega)
  have l0 : 0 < n := by omega
  have l1 : 1 < n := by omega
  have l2 : 2 < n := by omega
  have l0I : (0 : Int) < (n : Int) := by omega
  have l1I : (1 : Int) < (n : Int) := by omega
  have l2I : (2 : Int) < (n : Int) := by omega
  obtain ⟨ad, rfl⟩ := C_some hd (by omega)
  replace hd := Aside0.mk hd
  replace h3 := Aside0.mk h3
  clear hq
  have f2 : (x2 != 3) = true := bne_iff_ne.2 hx
  clear hx
  replace hc := Aside0.mk hc
  go_enter Tryd.func19, Tryd.ntmps19
  go_wp2_with (first | ((with_reducible refine gate_dst (N := 22) rfl ?_); refine gate_guard (by rfl) ?_; dsimp only; refine Kd.event_run rfl (run_loadCell rfl rfl Tryd.underlying5 rfl ((by have := C_cell (H.data hd.out) 0 66 rfl; simpa [Addr.add] using this))) ?_) | ((with_reducible refine gate_dst (N := 29) rfl ?_); refine gate_guard (by rfl) ?_; dsimp only; refine Kd.event_run rfl (run_loadCell rfl rfl Tryd.underlying5 rfl (C_cell (H.data hd.out) 1 66 rfl)) ?_) | ((with_reducible refine gate_dst (N := 36) rfl ?_); refine gate_guard (by rfl) ?_; dsimp only; refine Kd.event_run rfl (run_loadCell rfl rfl Tryd.underlying5 rfl (C_cell (H.data hd.out) 2 x2 rfl)) ?_) | ((with_reducible refine gate_dst (N := 1) rfl ?_); refine ev_ rfl (H.box rfl (by first | (go_simp; done) | (go_simp; rfl)) rfl) ?_; rintro _ w1 ⟨g1, rfl, H1⟩; (try simp only [Value.cells] at H1); replace H := H1; clear H1) | ((with_reducible refine gate_dst (N := 5) rfl ?_); refine Kd.event_run rfl (H.load1 23 (.tmp 4) rfl rfl (by repeat (first | exact Pick.here _ | apply Pick.there)) Tryd.underlying23 rfl rfl) ?_) | ((with_reducible refine gate_dst (N := 9) rfl ?_); refine gate_guard (by rfl) ?_; dsimp only; refine Kd.event_run rfl (H.load1 24 (.tmp 8) rfl rfl (by repeat (first | exact Pick.here _ | apply Pick.there)) Tryd.underlying24 rfl rfl) ?_) | ((with_reducible refine gate_dst (N := 14) rfl ?_); refine gate_guard (by rfl) ?_; dsimp only; refine Kd.event_run rfl (H.load1 25 (.tmp 13) rfl rfl (by repeat (first | exact Pick.here _ | apply Pick.there)) Tryd.underlying25 rfl rfl) ?_) | ((with_reducible refine gate_dst (N := 20) rfl ?_); refine gate_guard (by rfl) ?_; dsimp only; refine Kd.event_run rfl (H.load1 25 (.tmp 19) rfl rfl (by repeat (first | exact Pick.here _ | apply Pick.there)) Tryd.underlying25 rfl rfl) ?_) | ((with_reducible refine gate_dst (N := 27) rfl ?_); refine gate_guard (by rfl) ?_; dsimp only; refine Kd.event_run rfl (H.load1 25 (.tmp 26) rfl rfl (by repeat (first | exact Pick.here _ | apply Pick.there)) Tryd.underlying25 rfl rfl) ?_) | ((with_reducible refine gate_dst (N := 34) rfl ?_); refine gate_guard (by rfl) ?_; dsimp only; refine Kd.event_run rfl (H.load1 25 (.tmp 33) rfl rfl (by repeat (first | exact Pick.here _ | apply Pick.there)) Tryd.underlying25 rfl rfl) ?_) | ((with_reducible refine gate_dst (N := 40) rfl ?_); refine Kd.event_run rfl (H.load1 25 (.tmp 39) rfl rfl (by repeat (first | exact Pick.here _ | apply Pick.there)) Tryd.underlying25 rfl rfl) ?_))
  go_ret2
  exact ⟨_, _, rfl, ⟨rfl, rfl⟩, H.only⟩

set_option maxHeartbeats 1000000 in
set_option maxRecDepth 100000 in
theorem RefOpen_yes (w : World) (a b q : Int) (A : Option Addr) (n c : Nat) (x0 x1 x2 : Int) (r : List Int) (hd : (Kd.int .u8).C w A n (x0 :: x1 :: x2 :: r)) (hc : n ≤ c) (ha : a = 1652522221568) (hq : q ≤ 1500) (h3 : 3 ≤ n) (h0 : x0 = 66) (h1 : x1 = 66) (hx : x2 = 3) :
    Calls Tryd.prog 19 #[.agg #[.int .u64 a, .int .u64 b, .int .u16 q, .slice A n c]] w (Ret (fun _ => False) w fun v l => v = .tuple #[.slice (cutA A c 3) (n - 3) (c - 3), .int .i64 1] ∧ l = []) := by
  have H := Hp.nothing w
  subst h0
  subst h1
  subst hx
  subst ha
  have e1 : decide (1500 < q) = false := decide_eq_false (by omega)
  have e2 : decide (n < 3) = false := decide_eq_false (by omega)
  have e3 : decide ((n : Int) < 3) = false := decide_eq_false (by omega)
  have l0 : 0 < n := by omega
  have l1 : 1 < n := by omega
  have l2 : 2 < n := by omega
  have l0I : (0 : Int) < (n : Int) := by omega
  have l1I : (1 : Int) < (n : Int) := by omega
  have l2I : (2 : Int) < (n : Int) := by omega
  obtain ⟨ad, rfl⟩ := C_some hd (by omega)
  replace hd := Aside0.mk hd
  replace h3 := Aside0.mk h3
  clear hq
  replace hc := Aside0.mk hc
  go_enter Tryd.func19, Tryd.ntmps19
  go_wp2_with (first | ((with_reducible refine gate_dst (N := 22) rfl ?_); refine gate_guard (by rfl) ?_; dsimp only; refine Kd.event_run rfl (run_loadCell rfl rfl Tryd.underlying5 rfl ((by have := C_cell (H.data hd.out) 0 66 rfl; simpa [Addr.add] using this))) ?_) | ((with_reducible refine gate_dst (N := 29) rfl ?_); refine gate_guard (by rfl) ?_; dsimp only; refine Kd.event_run rfl (run_loadCell rfl rfl Tryd.underlying5 rfl (C_cell (H.data hd.out) 1 66 rfl)) ?_) | ((with_reducible refine gate_dst (N := 36) rfl ?_); refine gate_guard (by rfl) ?_; dsimp only; refine Kd.event_run rfl (run_loadCell rfl rfl Tryd.underlying5 rfl (C_cell (H.data hd.out) 2 3 rfl)) ?_) | ((with_reducible refine gate_dst (N := 41) rfl ?_); refine Kd.event_run rfl (v := .slice (cutA (some ad) c 3) (n - 3) (c - 3)) (w1 := _) (run_cut (t := 25) (e := 5) (j := 3) rfl rfl rfl Tryd.underlying25 infoB h3.out _) ?_) | ((with_reducible refine gate_dst (N := 1) rfl ?_); refine ev_ rfl (H.box rfl (by first | (go_simp; done) | (go_simp; rfl)) rfl) ?_; rintro _ w1 ⟨g1, rfl, H1⟩; (try simp only [Value.cells] at H1); replace H := H1; clear H1) | ((with_reducible refine gate_dst (N := 5) rfl ?_); refine Kd.event_run rfl (H.load1 23 (.tmp 4) rfl rfl (by repeat (first | exact Pick.here _ | apply Pick.there)) Tryd.underlying23 rfl rfl) ?_) | ((with_reducible refine gate_dst (N := 9) rfl ?_); refine gate_guard (by rfl) ?_; dsimp only; refine Kd.event_run rfl (H.load1 24 (.tmp 8) rfl rfl (by repeat (first | exact Pick.here _ | apply Pick.there)) Tryd.underlying24 rfl rfl) ?_) | ((with_reducible refine gate_dst (N := 14) rfl ?_); refine gate_guard (by rfl) ?_; dsimp only; refine Kd.event_run rfl (H.load1 25 (.tmp 13) rfl rfl (by repeat (first | exact Pick.here _ | apply Pick.there)) Tryd.underlying25 rfl rfl) ?_) | ((with_reducible refine gate_dst (N := 20) rfl ?_); refine gate_guard (by rfl) ?_; dsimp only; refine Kd.event_run rfl (H.load1 25 (.tmp 19) rfl rfl (by repeat (first | exact Pick.here _ | apply Pick.there)) Tryd.underlying25 rfl rfl) ?_) | ((with_reducible refine gate_dst (N := 27) rfl ?_); refine gate_guard (by rfl) ?_; dsimp only; refine Kd.event_run rfl (H.load1 25 (.tmp 26) rfl rfl (by repeat (first | exact Pick.here _ | apply Pick.there)) Tryd.underlying25 rfl rfl) ?_) | ((with_reducible refine gate_dst (N := 34) rfl ?_); refine gate_guard (by rfl) ?_; dsimp only; refine Kd.event_run rfl (H.load1 25 (.tmp 33) rfl rfl (by repeat (first | exact Pick.here _ | apply Pick.there)) Tryd.underlying25 rfl rfl) ?_) | ((with_reducible refine gate_dst (N := 40) rfl ?_); refine Kd.event_run rfl (H.load1 25 (.tmp 39) rfl rfl (by repeat (first | exact Pick.here _ | apply Pick.there)) Tryd.underlying25 rfl rfl) ?_))
  go_ret2
  exact ⟨_, _, rfl, ⟨rfl, rfl⟩, H.only⟩

theorem RefOpen_all (w : World) (a b q : Int) (A : Option Addr) (n c : Nat) (d : List Int) (hd : (Kd.int .u8).C w A n d) (hc : n ≤ c) :
    Calls Tryd.prog 19 #[.agg #[.int .u64 a, .int .u64 b, .int .u16 q, .slice A n c]] w (Ret (fun _ => False) w fun v l => v = .tuple #[if isB a q d then .slice (cutA A c 3) (n - 3) (c - 3) else .slice none 0 0, .int .i64 (if isB a q d then 1 else 0)] ∧ l = []) := by
  have hl : d.length = n := hd.1
  by_cases ha : a = 1652522221568
  · by_cases hq : q ≤ 1500
    · by_cases h3 : n < 3
      · have hb : isB a q d = false := by
          have : (d.take 3 == [66, 66, 3]) = false := beq_eq_false_iff_ne.2 fun he => by have := congrArg List.length he; simp at this; omega
          unfold isB; rw [this]; simp
        rw [hb]
        exact RefOpen_short w a b q A n c d hd hc ha hq h3
      · obtain ⟨x0, x1, x2, r, rfl⟩ : ∃ x0 x1 x2 r, d = x0 :: x1 :: x2 :: r := by
          match d, hl with
          | x0 :: x1 :: x2 :: r, _ => exact ⟨x0, x1, x2, r, rfl⟩
          | [], h => simp at h; omega
          | [_], h => simp at h; omega
          | [_, _], h => simp at h; omega
        by_cases z0 : x0 = 66
        · by_cases z1 : x1 = 66
          · by_cases z2 : x2 = 3
            · have hb : isB a q (x0 :: x1 :: x2 :: r) = true := by unfold isB; simp [ha, hq, z0, z1, z2]
              rw [hb]
              exact RefOpen_yes w a b q A n c x0 x1 x2 r hd hc ha hq (by omega) z0 z1 z2
            · have hb : isB a q (x0 :: x1 :: x2 :: r) = false := by unfold isB; simp [ha, hq, z0, z1, z2]
              rw [hb]
              exact RefOpen_x2 w a b q A n c x0 x1 x2 r hd hc ha hq (by omega) z0 z1 z2
          · have hb : isB a q (x0 :: x1 :: x2 :: r) = false := by unfold isB; simp [ha, hq, z0, z1]
            rw [hb]
            exact RefOpen_x1 w a b q A n c x0 x1 x2 r hd hc ha hq (by omega) z0 z1
        · have hb : isB a q (x0 :: x1 :: x2 :: r) = false := by unfold isB; simp [ha, hq, z0]
          rw [hb]
          exact RefOpen_x0 w a b q A n c x0 x1 x2 r hd hc ha hq (by omega) z0
    · have hb : isB a q d = false := by unfold isB; rw [decide_eq_false hq]; simp
      rw [hb]
      exact RefOpen_kind w a b q A n c d hd hc ha (by omega)
  · have hb : isB a q d = false := by unfold isB; rw [decide_eq_false ha]; rfl
    rw [hb]
    exact RefOpen_addr w a b q A n c d hd hc ha

end Go.Proofs.YtkgfpagfmdefgaaDoor.Llc
