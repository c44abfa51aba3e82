/- The law FrameBack over what its functions come to. Walked by hand. -/
import Derived.Test.YtdmlpcbmmdddbaaFrameQ
import Derived.Test.YtdmlpcbmmdddbaaAr
namespace Go.Proofs.Ytdmlpcbmmdddbaa.Pure
open Go.RowKit Go.Proofs.YtdmlpcbmmdddbaaW.PrintWords Go.Proofs.YtdmlpcbmmdddbaaW.PrintLast Go.Proofs.YtdmlpcbmmdddbaaW.PrintMore
set_option linter.unusedVariables false
set_option linter.unusedSimpArgs false
open Go.Proofs.Ytdmlpcbmmdddbaa.Sep Go.Proofs.Ytdmlpcbmmdddbaa.Wire Go.Proofs.Ytdmlpcbmmdddbaa.Frame
set_option maxHeartbeats 1000000 in
set_option maxRecDepth 100000 in
theorem Check_adrA (w : World) (a b q : Int) (A : Option Addr) (n c : Nat) (h : 281474976710656 ≤ a) :
    Calls Try.prog 16 #[.agg #[.int .u64 a, .int .u64 b, .int .u16 q, .slice A n c]] w (Ret (fun _ => False) w fun v l => v = .int .i64 1 ∧ l = []) := by
  have H := Hp.nothing w
  have ca : decide (281474976710656 ≤ a) = true := decide_eq_true (by omega)
  clear h
  go_enter Try.func16, Try.ntmps16
  go_wp2_with (first | ((with_reducible refine gate_dst (N := 1) rfl ?_); refine ev_ rfl (H.box rfl (by first | (go_simp; done) | (go_simp; rfl)) rfl) ?_; rintro _ w1 ⟨g1, rfl, H1⟩; (try simp only [Value.cells] at H1); replace H := H1; clear H1) | ((with_reducible refine gate_dst (N := 5) rfl ?_); refine Kd.event_run rfl (H.load1 23 (.tmp 4) rfl rfl (by repeat (first | exact Pick.here _ | apply Pick.there)) Try.underlying23 rfl rfl) ?_) | ((with_reducible refine gate_dst (N := 9) rfl ?_); refine gate_guard (by rfl) ?_; dsimp only; refine Kd.event_run rfl (H.load1 23 (.tmp 8) rfl rfl (by repeat (first | exact Pick.here _ | apply Pick.there)) Try.underlying23 rfl rfl) ?_) | ((with_reducible refine gate_dst (N := 14) rfl ?_); refine Kd.event_run rfl (H.load1 25 (.tmp 13) rfl rfl (by repeat (first | exact Pick.here _ | apply Pick.there)) Try.underlying25 rfl rfl) ?_) | ((with_reducible refine gate_dst (N := 19) rfl ?_); refine Kd.event_run rfl (H.load1 24 (.tmp 18) rfl rfl (by repeat (first | exact Pick.here _ | apply Pick.there)) Try.underlying24 rfl rfl) ?_) | ((with_reducible refine gate_dst (N := 23) rfl ?_); refine gate_guard (by rfl) ?_; dsimp only; refine Kd.event_run rfl (H.load1 24 (.tmp 22) rfl rfl (by repeat (first | exact Pick.here _ | apply Pick.there)) Try.underlying24 rfl rfl) ?_) | ((with_reducible refine gate_dst (N := 28) rfl ?_); refine Kd.event_run rfl (H.load1 24 (.tmp 27) rfl rfl (by repeat (first | exact Pick.here _ | apply Pick.there)) Try.underlying24 rfl rfl) ?_) | ((with_reducible refine gate_dst (N := 32) rfl ?_); refine gate_guard (by rfl) ?_; dsimp only; refine Kd.event_run rfl (H.load1 24 (.tmp 31) rfl rfl (by repeat (first | exact Pick.here _ | apply Pick.there)) Try.underlying24 rfl rfl) ?_) | ((with_reducible refine gate_dst (N := 35) rfl ?_); refine gate_guard (by rfl) ?_; dsimp only; refine Kd.event_run rfl (H.load1 25 (.tmp 34) rfl rfl (by repeat (first | exact Pick.here _ | apply Pick.there)) Try.underlying25 rfl rfl) ?_))
  go_ret
  exact ⟨_, _, rfl, ⟨rfl, rfl⟩, H.only⟩

set_option maxHeartbeats 1000000 in
set_option maxRecDepth 100000 in
theorem Check_adrB (w : World) (a b q : Int) (A : Option Addr) (n c : Nat) (h : a < 281474976710656) (h2 : 281474976710656 ≤ b) :
    Calls Try.prog 16 #[.agg #[.int .u64 a, .int .u64 b, .int .u16 q, .slice A n c]] w (Ret (fun _ => False) w fun v l => v = .int .i64 1 ∧ l = []) := by
  have H := Hp.nothing w
  have ca : decide (281474976710656 ≤ a) = false := decide_eq_false (by omega)
  have cb : decide (281474976710656 ≤ b) = true := decide_eq_true (by omega)
  clear h h2
  go_enter Try.func16, Try.ntmps16
  go_wp2_with (first | ((with_reducible refine gate_dst (N := 1) rfl ?_); refine ev_ rfl (H.box rfl (by first | (go_simp; done) | (go_simp; rfl)) rfl) ?_; rintro _ w1 ⟨g1, rfl, H1⟩; (try simp only [Value.cells] at H1); replace H := H1; clear H1) | ((with_reducible refine gate_dst (N := 5) rfl ?_); refine Kd.event_run rfl (H.load1 23 (.tmp 4) rfl rfl (by repeat (first | exact Pick.here _ | apply Pick.there)) Try.underlying23 rfl rfl) ?_) | ((with_reducible refine gate_dst (N := 9) rfl ?_); refine gate_guard (by rfl) ?_; dsimp only; refine Kd.event_run rfl (H.load1 23 (.tmp 8) rfl rfl (by repeat (first | exact Pick.here _ | apply Pick.there)) Try.underlying23 rfl rfl) ?_) | ((with_reducible refine gate_dst (N := 14) rfl ?_); refine Kd.event_run rfl (H.load1 25 (.tmp 13) rfl rfl (by repeat (first | exact Pick.here _ | apply Pick.there)) Try.underlying25 rfl rfl) ?_) | ((with_reducible refine gate_dst (N := 19) rfl ?_); refine Kd.event_run rfl (H.load1 24 (.tmp 18) rfl rfl (by repeat (first | exact Pick.here _ | apply Pick.there)) Try.underlying24 rfl rfl) ?_) | ((with_reducible refine gate_dst (N := 23) rfl ?_); refine gate_guard (by rfl) ?_; dsimp only; refine Kd.event_run rfl (H.load1 24 (.tmp 22) rfl rfl (by repeat (first | exact Pick.here _ | apply Pick.there)) Try.underlying24 rfl rfl) ?_) | ((with_reducible refine gate_dst (N := 28) rfl ?_); refine Kd.event_run rfl (H.load1 24 (.tmp 27) rfl rfl (by repeat (first | exact Pick.here _ | apply Pick.there)) Try.underlying24 rfl rfl) ?_) | ((with_reducible refine gate_dst (N := 32) rfl ?_); refine gate_guard (by rfl) ?_; dsimp only; refine Kd.event_run rfl (H.load1 24 (.tmp 31) rfl rfl (by repeat (first | exact Pick.here _ | apply Pick.there)) Try.underlying24 rfl rfl) ?_) | ((with_reducible refine gate_dst (N := 35) rfl ?_); refine gate_guard (by rfl) ?_; dsimp only; refine Kd.event_run rfl (H.load1 25 (.tmp 34) rfl rfl (by repeat (first | exact Pick.here _ | apply Pick.there)) Try.underlying25 rfl rfl) ?_))
  go_ret
  exact ⟨_, _, rfl, ⟨rfl, rfl⟩, H.only⟩

set_option maxHeartbeats 1000000 in
set_option maxRecDepth 100000 in
theorem Check_far (w : World) (a b q : Int) (A : Option Addr) (n c : Nat) (h : a < 281474976710656) (h2 : b < 281474976710656) (h3 : 1500 < n) :
    Calls Try.prog 16 #[.agg #[.int .u64 a, .int .u64 b, .int .u16 q, .slice A n c]] w (Ret (fun _ => False) w fun v l => v = .int .i64 4 ∧ l = []) := by
  have H := Hp.nothing w
  have ca : decide (281474976710656 ≤ a) = false := decide_eq_false (by omega)
  have cb : decide (281474976710656 ≤ b) = false := decide_eq_false (by omega)
  have c1 : decide ((1500 : Int) < (n : Int)) = true := decide_eq_true (by omega)
  have c1' : decide (1500 < n) = true := decide_eq_true (by omega)
  clear h h2 h3
  go_enter Try.func16, Try.ntmps16
  go_wp2_with (first | ((with_reducible refine gate_dst (N := 1) rfl ?_); refine ev_ rfl (H.box rfl (by first | (go_simp; done) | (go_simp; rfl)) rfl) ?_; rintro _ w1 ⟨g1, rfl, H1⟩; (try simp only [Value.cells] at H1); replace H := H1; clear H1) | ((with_reducible refine gate_dst (N := 5) rfl ?_); refine Kd.event_run rfl (H.load1 23 (.tmp 4) rfl rfl (by repeat (first | exact Pick.here _ | apply Pick.there)) Try.underlying23 rfl rfl) ?_) | ((with_reducible refine gate_dst (N := 9) rfl ?_); refine gate_guard (by rfl) ?_; dsimp only; refine Kd.event_run rfl (H.load1 23 (.tmp 8) rfl rfl (by repeat (first | exact Pick.here _ | apply Pick.there)) Try.underlying23 rfl rfl) ?_) | ((with_reducible refine gate_dst (N := 14) rfl ?_); refine Kd.event_run rfl (H.load1 25 (.tmp 13) rfl rfl (by repeat (first | exact Pick.here _ | apply Pick.there)) Try.underlying25 rfl rfl) ?_) | ((with_reducible refine gate_dst (N := 19) rfl ?_); refine Kd.event_run rfl (H.load1 24 (.tmp 18) rfl rfl (by repeat (first | exact Pick.here _ | apply Pick.there)) Try.underlying24 rfl rfl) ?_) | ((with_reducible refine gate_dst (N := 23) rfl ?_); refine gate_guard (by rfl) ?_; dsimp only; refine Kd.event_run rfl (H.load1 24 (.tmp 22) rfl rfl (by repeat (first | exact Pick.here _ | apply Pick.there)) Try.underlying24 rfl rfl) ?_) | ((with_reducible refine gate_dst (N := 28) rfl ?_); refine Kd.event_run rfl (H.load1 24 (.tmp 27) rfl rfl (by repeat (first | exact Pick.here _ | apply Pick.there)) Try.underlying24 rfl rfl) ?_) | ((with_reducible refine gate_dst (N := 32) rfl ?_); refine gate_guard (by rfl) ?_; dsimp only; refine Kd.event_run rfl (H.load1 24 (.tmp 31) rfl rfl (by repeat (first | exact Pick.here _ | apply Pick.there)) Try.underlying24 rfl rfl) ?_) | ((with_reducible refine gate_dst (N := 35) rfl ?_); refine gate_guard (by rfl) ?_; dsimp only; refine Kd.event_run rfl (H.load1 25 (.tmp 34) rfl rfl (by repeat (first | exact Pick.here _ | apply Pick.there)) Try.underlying25 rfl rfl) ?_))
  go_ret
  exact ⟨_, _, rfl, ⟨rfl, rfl⟩, H.only⟩

set_option maxHeartbeats 1000000 in
set_option maxRecDepth 100000 in
theorem Check_gap (w : World) (a b q : Int) (A : Option Addr) (n c : Nat) (h : a < 281474976710656) (h2 : b < 281474976710656) (h3 : n ≤ 1500) (h4 : 1500 < q) (h5 : q < 1536) :
    Calls Try.prog 16 #[.agg #[.int .u64 a, .int .u64 b, .int .u16 q, .slice A n c]] w (Ret (fun _ => False) w fun v l => v = .int .i64 3 ∧ l = []) := by
  have H := Hp.nothing w
  have ca : decide (281474976710656 ≤ a) = false := decide_eq_false (by omega)
  have cb : decide (281474976710656 ≤ b) = false := decide_eq_false (by omega)
  have c1 : decide ((1500 : Int) < (n : Int)) = false := decide_eq_false (by omega)
  have c1' : decide (1500 < n) = false := decide_eq_false (by omega)
  have c2 : decide (1500 < q) = true := decide_eq_true (by omega)
  have c3 : decide (q < 1536) = true := decide_eq_true (by omega)
  clear h h2 h3 h4 h5
  go_enter Try.func16, Try.ntmps16
  go_wp2_with (first | ((with_reducible refine gate_dst (N := 1) rfl ?_); refine ev_ rfl (H.box rfl (by first | (go_simp; done) | (go_simp; rfl)) rfl) ?_; rintro _ w1 ⟨g1, rfl, H1⟩; (try simp only [Value.cells] at H1); replace H := H1; clear H1) | ((with_reducible refine gate_dst (N := 5) rfl ?_); refine Kd.event_run rfl (H.load1 23 (.tmp 4) rfl rfl (by repeat (first | exact Pick.here _ | apply Pick.there)) Try.underlying23 rfl rfl) ?_) | ((with_reducible refine gate_dst (N := 9) rfl ?_); refine gate_guard (by rfl) ?_; dsimp only; refine Kd.event_run rfl (H.load1 23 (.tmp 8) rfl rfl (by repeat (first | exact Pick.here _ | apply Pick.there)) Try.underlying23 rfl rfl) ?_) | ((with_reducible refine gate_dst (N := 14) rfl ?_); refine Kd.event_run rfl (H.load1 25 (.tmp 13) rfl rfl (by repeat (first | exact Pick.here _ | apply Pick.there)) Try.underlying25 rfl rfl) ?_) | ((with_reducible refine gate_dst (N := 19) rfl ?_); refine Kd.event_run rfl (H.load1 24 (.tmp 18) rfl rfl (by repeat (first | exact Pick.here _ | apply Pick.there)) Try.underlying24 rfl rfl) ?_) | ((with_reducible refine gate_dst (N := 23) rfl ?_); refine gate_guard (by rfl) ?_; dsimp only; refine Kd.event_run rfl (H.load1 24 (.tmp 22) rfl rfl (by repeat (first | exact Pick.here _ | apply Pick.there)) Try.underlying24 rfl rfl) ?_) | ((with_reducible refine gate_dst (N := 28) rfl ?_); refine Kd.event_run rfl (H.load1 24 (.tmp 27) rfl rfl (by repeat (first | exact Pick.here _ | apply Pick.there)) Try.underlying24 rfl rfl) ?_) | ((with_reducible refine gate_dst (N := 32) rfl ?_); refine gate_guard (by rfl) ?_; dsimp only; refine Kd.event_run rfl (H.load1 24 (.tmp 31) rfl rfl (by repeat (first | exact Pick.here _ | apply Pick.there)) Try.underlying24 rfl rfl) ?_) | ((with_reducible refine gate_dst (N := 35) rfl ?_); refine gate_guard (by rfl) ?_; dsimp only; refine Kd.event_run rfl (H.load1 25 (.tmp 34) rfl rfl (by repeat (first | exact Pick.here _ | apply Pick.there)) Try.underlying25 rfl rfl) ?_))
  go_ret
  exact ⟨_, _, rfl, ⟨rfl, rfl⟩, H.only⟩

set_option maxHeartbeats 1000000 in
set_option maxRecDepth 100000 in
theorem Check_other (w : World) (a b q : Int) (A : Option Addr) (n c : Nat) (h : a < 281474976710656) (h2 : b < 281474976710656) (h3 : n ≤ 1500) (h4 : q ≤ 1500) (h5 : q ≠ (n : Int)) (q0 : 0 ≤ q) :
    Calls Try.prog 16 #[.agg #[.int .u64 a, .int .u64 b, .int .u16 q, .slice A n c]] w (Ret (fun _ => False) w fun v l => v = .int .i64 3 ∧ l = []) := by
  have H := Hp.nothing w
  have ca : decide (281474976710656 ≤ a) = false := decide_eq_false (by omega)
  have cb : decide (281474976710656 ≤ b) = false := decide_eq_false (by omega)
  have c1 : decide ((1500 : Int) < (n : Int)) = false := decide_eq_false (by omega)
  have c1' : decide (1500 < n) = false := decide_eq_false (by omega)
  have c2 : decide (1500 < q) = false := decide_eq_false (by omega)
  have c3 : decide (q ≤ 1500) = true := decide_eq_true (by omega)
  have c4 : (q != (n : Int)) = true := bne_iff_ne.2 h5
  have c5 : (q == (n : Int)) = false := beq_eq_false_iff_ne.2 h5
  have kw : IntKind.i64.wrap q = q := by rw [IntKind.wrap_i64]; omega
  have kw3 : wrap64 q = q := by unfold wrap64; omega
  clear h h2 h3 h4
  replace h5 := Aside0.mk h5
  go_enter Try.func16, Try.ntmps16
  go_wp2_with (first | ((with_reducible refine gate_dst (N := 1) rfl ?_); refine ev_ rfl (H.box rfl (by first | (go_simp; done) | (go_simp; rfl)) rfl) ?_; rintro _ w1 ⟨g1, rfl, H1⟩; (try simp only [Value.cells] at H1); replace H := H1; clear H1) | ((with_reducible refine gate_dst (N := 5) rfl ?_); refine Kd.event_run rfl (H.load1 23 (.tmp 4) rfl rfl (by repeat (first | exact Pick.here _ | apply Pick.there)) Try.underlying23 rfl rfl) ?_) | ((with_reducible refine gate_dst (N := 9) rfl ?_); refine gate_guard (by rfl) ?_; dsimp only; refine Kd.event_run rfl (H.load1 23 (.tmp 8) rfl rfl (by repeat (first | exact Pick.here _ | apply Pick.there)) Try.underlying23 rfl rfl) ?_) | ((with_reducible refine gate_dst (N := 14) rfl ?_); refine Kd.event_run rfl (H.load1 25 (.tmp 13) rfl rfl (by repeat (first | exact Pick.here _ | apply Pick.there)) Try.underlying25 rfl rfl) ?_) | ((with_reducible refine gate_dst (N := 19) rfl ?_); refine Kd.event_run rfl (H.load1 24 (.tmp 18) rfl rfl (by repeat (first | exact Pick.here _ | apply Pick.there)) Try.underlying24 rfl rfl) ?_) | ((with_reducible refine gate_dst (N := 23) rfl ?_); refine gate_guard (by rfl) ?_; dsimp only; refine Kd.event_run rfl (H.load1 24 (.tmp 22) rfl rfl (by repeat (first | exact Pick.here _ | apply Pick.there)) Try.underlying24 rfl rfl) ?_) | ((with_reducible refine gate_dst (N := 28) rfl ?_); refine Kd.event_run rfl (H.load1 24 (.tmp 27) rfl rfl (by repeat (first | exact Pick.here _ | apply Pick.there)) Try.underlying24 rfl rfl) ?_) | ((with_reducible refine gate_dst (N := 32) rfl ?_); refine gate_guard (by rfl) ?_; dsimp only; refine Kd.event_run rfl (H.load1 24 (.tmp 31) rfl rfl (by repeat (first | exact Pick.here _ | apply Pick.there)) Try.underlying24 rfl rfl) ?_) | ((with_reducible refine gate_dst (N := 35) rfl ?_); refine gate_guard (by rfl) ?_; dsimp only; refine Kd.event_run rfl (H.load1 25 (.tmp 34) rfl rfl (by repeat (first | exact Pick.here _ | apply Pick.there)) Try.underlying25 rfl rfl) ?_))
  go_ret
  exact ⟨_, _, rfl, ⟨rfl, rfl⟩, H.only⟩

theorem Check_any (a b q : Int) (A : Option Addr) (n c : Nat) (a0 : 0 ≤ a) (b0 : 0 ≤ b) (q0 : 0 ≤ q) (q1 : q < 65536) :
    (∃ e, e ≠ 0 ∧ ∀ w1, Calls Try.prog 16 #[.agg #[.int .u64 a, .int .u64 b, .int .u16 q, .slice A n c]] w1 (Ret (fun _ => False) w1 fun v l => v = .int .i64 e ∧ l = [])) ∨ (a < 281474976710656 ∧ b < 281474976710656 ∧ n ≤ 1500 ∧ (q = (n : Int) ∨ 1536 ≤ q)) := by
  by_cases h1 : 281474976710656 ≤ a
  · exact .inl ⟨1, by decide, fun w1 => Check_adrA w1 a b q A n c h1⟩
  · by_cases h2 : 281474976710656 ≤ b
    · exact .inl ⟨1, by decide, fun w1 => Check_adrB w1 a b q A n c (by omega) h2⟩
    · by_cases h3 : 1500 < n
      · exact .inl ⟨4, by decide, fun w1 => Check_far w1 a b q A n c (by omega) (by omega) h3⟩
      · by_cases h4 : 1500 < q
        · by_cases h5 : q < 1536
          · exact .inl ⟨3, by decide, fun w1 => Check_gap w1 a b q A n c (by omega) (by omega) (by omega) h4 h5⟩
          · exact .inr ⟨by omega, by omega, by omega, .inr (by omega)⟩
        · by_cases h5 : q = (n : Int)
          · exact .inr ⟨by omega, by omega, by omega, .inl h5⟩
          · exact .inl ⟨3, by decide, fun w1 => Check_other w1 a b q A n c (by omega) (by omega) (by omega) (by omega) h5 q0⟩

theorem small_wrap {k : Nat} (h : k < 65536) : IntKind.i64.wrap (k : Int) = (k : Int) ∧ wrap64 (k : Int) = (k : Int) := ⟨by rw [IntKind.wrap_i64]; omega, by unfold wrap64; omega⟩
theorem numR_put (x : Int) (h0 : 0 ≤ x) (k : Nat) (hk : k < 8) (h1 : x < ((256 ^ k : Nat) : Int)) : numR (putL x k) = x := by
  have h8 : 256 ^ k ≤ 256 ^ 7 := Nat.pow_le_pow_right (by decide) (show k ≤ 7 by omega)
  rw [show 256 ^ 7 = 72057594037927936 from by decide] at h8
  have h := num_put x h0 (by omega) k
  rw [if_pos hk, Int.emod_eq_of_lt h0 h1] at h
  exact (numLR (putL x k) 0 (putL_range x k)).symm.trans h
theorem putF_length (a b q : Int) (d : List Int) : (putF a b q d).length = 14 + d.length := by simp [putF, putL_length]; omega
theorem putF_bytes {a b q : Int} {d : List Int} (h : ∀ y ∈ d, 0 ≤ y ∧ y ≤ 255) : ∀ y ∈ putF a b q d, 0 ≤ y ∧ y ≤ 255 := by
  intro y hy
  simp only [putF, List.mem_append] at hy
  rcases hy with ((hy | hy) | hy) | hy
  · exact putL_range _ _ y hy
  · exact putL_range _ _ y hy
  · exact putL_range _ _ y hy
  · exact h y hy
theorem putF_more (a b q : Int) (d r : List Int) : putF a b q d ++ r = putF a b q (d ++ r) := by simp [putF]
theorem putF_take (a b q : Int) (d : List Int) (m : Nat) (h : 14 ≤ m) : (putF a b q d).take m = putF a b q (d.take (m - 14)) := by
  have h1 : ((putL a 6 ++ putL b 6) ++ putL q 2).length = 14 := by simp [putL_length]
  rw [putF, List.take_append, h1, List.take_of_length_le (by omega)]
  rfl
/-- What is read of what is put. -/
theorem getF_putF (a b q : Int) (r : List Int) (a0 : 0 ≤ a) (a1 : a < 281474976710656) (b0 : 0 ≤ b) (b1 : b < 281474976710656) (q0 : 0 ≤ q) (q1 : q < 65536) :
    getF (putF a b q r) = if q ≤ 1500 then (if (r.length : Int) < q then (0, 0, 0, [], 2) else (a, b, q, r.take q.toNat, 0)) else if q < 1536 then (0, 0, 0, [], 3) else if 1500 < r.length then (0, 0, 0, [], 4) else (a, b, q, r, 0) := by
  have l6 : ∀ x, (putL x 6).length = 6 := fun x => putL_length x 6
  have l2 : ∀ x, (putL x 2).length = 2 := fun x => putL_length x 2
  have e1 : ((putF a b q r).drop 0).take 6 = putL a 6 := by
    rw [List.drop_zero, putF, List.append_assoc, List.append_assoc, List.take_append, l6, List.take_of_length_le (by rw [l6]; omega)]
    simp
  have e2 : ((putF a b q r).drop 6).take 6 = putL b 6 := by
    rw [putF, List.append_assoc, List.append_assoc, List.drop_append, l6, List.drop_of_length_le (by rw [l6]; omega), List.nil_append, Nat.sub_self, List.drop_zero, List.take_append, l6, List.take_of_length_le (by rw [l6]; omega)]
    simp
  have e3 : (putF a b q r).drop 12 = putL q 2 ++ r := by
    rw [putF, List.append_assoc, List.drop_append, List.drop_of_length_le (by simp [l6]), List.nil_append]
    simp [l6]
  have e4 : ((putF a b q r).drop 12).take 2 = putL q 2 := by
    rw [e3, List.take_append, l2, List.take_of_length_le (by rw [l2]; omega)]
    simp
  have e5 : (putF a b q r).drop 14 = r := by
    rw [show 14 = 12 + 2 from rfl, ← List.drop_drop, e3, List.drop_append, List.drop_of_length_le (by rw [l2]; omega), l2]
    simp
  have hk : kindL (putF a b q r) = q := by unfold kindL; rw [e4]; exact numR_put q q0 2 (by decide) (by simpa using q1)
  have ha : numR (putL a 6) = a := numR_put a a0 6 (by decide) (by simpa using a1)
  have hb : numR (putL b 6) = b := numR_put b b0 6 (by decide) (by simpa using b1)
  unfold getF
  rw [hk, e1, e2, e5, ha, hb, putF_length, if_neg (by omega), Nat.add_sub_cancel_left]

set_option maxHeartbeats 1000000 in
set_option maxRecDepth 100000 in
theorem Back_e1 (w : World) (a b q : Int) (A A2 : Option Addr) (n c n2 c2 k : Nat) (d more : List Int) (hd : (Kd.int .u8).C w A n d) (hm : (Kd.int .u8).C w A2 n2 more) (h : 3000 < n) :
    Calls Try.prog 7 #[.agg #[.int .u64 a, .int .u64 b, .int .u16 q, .slice A n c], .slice A2 n2 c2, .int .u16 (k : Int)] w (fun e w' => e = .returned (.bool true) ∧ Below w.heap.size w w') := by
  have H := Hp.nothing w
  have u1 : decide (3000 < (n : Int)) = true := decide_eq_true (by omega)
  have u1' : decide (3000 < n) = true := decide_eq_true (by omega)
  clear h hd hm
  go_enter Try.func7, Try.ntmps7
  go_wp2_with (first | ((with_reducible refine gate_dst (N := 3) rfl ?_); refine ev_ rfl (H.box rfl (by first | (go_simp; done) | (go_simp; rfl)) rfl) ?_; rintro _ w1 ⟨g3, rfl, H1⟩; (try simp only [Value.cells] at H1); replace H := H1; clear H1) | ((with_reducible refine gate_dst (N := 19) rfl ?_); refine gate_guard (by rfl) ?_; dsimp only; refine Kd.event_run rfl (H.load1 25 (.tmp 18) rfl rfl (by repeat (first | exact Pick.here _ | apply Pick.there)) Try.underlying25 rfl rfl) ?_) | ((with_reducible refine gate_dst (N := 30) rfl ?_); refine Kd.event_run rfl (H.loadN 27 (.tmp 3) rfl rfl (by repeat (first | exact Pick.here _ | apply Pick.there)) #[.int .u64 a, .int .u64 b, .int .u16 q, .slice A n c] Try.underlying27 rfl info27s (fun j u hj => by simpa using hj)) ?_) | (go_at_call 13; refine H.call1 (awake_calls _) ?_; intro w1 H1; replace H := H1; clear H1))
  go_ret
  exact ⟨rfl, H.below⟩

set_option maxHeartbeats 1000000 in
set_option maxRecDepth 100000 in
theorem Back_e2 (w : World) (a b q : Int) (A A2 : Option Addr) (n c n2 c2 k : Nat) (d more : List Int) (hd : (Kd.int .u8).C w A n d) (hm : (Kd.int .u8).C w A2 n2 more) (h0 : n ≤ 3000) (h : 3000 < n2) :
    Calls Try.prog 7 #[.agg #[.int .u64 a, .int .u64 b, .int .u16 q, .slice A n c], .slice A2 n2 c2, .int .u16 (k : Int)] w (fun e w' => e = .returned (.bool true) ∧ Below w.heap.size w w') := by
  have H := Hp.nothing w
  have u1 : decide (3000 < (n : Int)) = false := decide_eq_false (by omega)
  have u1' : decide (3000 < n) = false := decide_eq_false (by omega)
  have u2 : decide (3000 < (n2 : Int)) = true := decide_eq_true (by omega)
  have u2' : decide (3000 < n2) = true := decide_eq_true (by omega)
  clear h h0 hd hm
  go_enter Try.func7, Try.ntmps7
  go_wp2_with (first | ((with_reducible refine gate_dst (N := 3) rfl ?_); refine ev_ rfl (H.box rfl (by first | (go_simp; done) | (go_simp; rfl)) rfl) ?_; rintro _ w1 ⟨g3, rfl, H1⟩; (try simp only [Value.cells] at H1); replace H := H1; clear H1) | ((with_reducible refine gate_dst (N := 19) rfl ?_); refine gate_guard (by rfl) ?_; dsimp only; refine Kd.event_run rfl (H.load1 25 (.tmp 18) rfl rfl (by repeat (first | exact Pick.here _ | apply Pick.there)) Try.underlying25 rfl rfl) ?_) | ((with_reducible refine gate_dst (N := 30) rfl ?_); refine Kd.event_run rfl (H.loadN 27 (.tmp 3) rfl rfl (by repeat (first | exact Pick.here _ | apply Pick.there)) #[.int .u64 a, .int .u64 b, .int .u16 q, .slice A n c] Try.underlying27 rfl info27s (fun j u hj => by simpa using hj)) ?_) | (go_at_call 13; refine H.call1 (awake_calls _) ?_; intro w1 H1; replace H := H1; clear H1))
  go_ret
  exact ⟨rfl, H.below⟩

set_option maxHeartbeats 1000000 in
set_option maxRecDepth 100000 in
theorem Back_no (w : World) (a b q : Int) (A A2 : Option Addr) (n c n2 c2 k : Nat) (d more : List Int) (hd : (Kd.int .u8).C w A n d) (hm : (Kd.int .u8).C w A2 n2 more) (h0 : n ≤ 3000) (h : n2 ≤ 3000) (e : Int) (he : e ≠ 0) (hck : ∀ w1, Calls Try.prog 16 #[.agg #[.int .u64 a, .int .u64 b, .int .u16 q, .slice A n c]] w1 (Ret (fun _ => False) w1 fun v l => v = .int .i64 e ∧ l = [])) :
    Calls Try.prog 7 #[.agg #[.int .u64 a, .int .u64 b, .int .u16 q, .slice A n c], .slice A2 n2 c2, .int .u16 (k : Int)] w (fun e w' => e = .returned (.bool true) ∧ Below w.heap.size w w') := by
  have H := Hp.nothing w
  have u1 : decide (3000 < (n : Int)) = false := decide_eq_false (by omega)
  have u1' : decide (3000 < n) = false := decide_eq_false (by omega)
  have u2 : decide (3000 < (n2 : Int)) = false := decide_eq_false (by omega)
  have u2' : decide (3000 < n2) = false := decide_eq_false (by omega)
  have e1 : (e != 0) = true := bne_iff_ne.2 he
  have e2 : (e == 0) = false := beq_eq_false_iff_ne.2 he
  replace he := Aside0.mk he
  clear h h0 hd hm
  go_enter Try.func7, Try.ntmps7
  go_wp2_with (first | ((with_reducible refine gate_dst (N := 3) rfl ?_); refine ev_ rfl (H.box rfl (by first | (go_simp; done) | (go_simp; rfl)) rfl) ?_; rintro _ w1 ⟨g3, rfl, H1⟩; (try simp only [Value.cells] at H1); replace H := H1; clear H1) | ((with_reducible refine gate_dst (N := 19) rfl ?_); refine gate_guard (by rfl) ?_; dsimp only; refine Kd.event_run rfl (H.load1 25 (.tmp 18) rfl rfl (by repeat (first | exact Pick.here _ | apply Pick.there)) Try.underlying25 rfl rfl) ?_) | ((with_reducible refine gate_dst (N := 30) rfl ?_); refine Kd.event_run rfl (H.loadN 27 (.tmp 3) rfl rfl (by repeat (first | exact Pick.here _ | apply Pick.there)) #[.int .u64 a, .int .u64 b, .int .u16 q, .slice A n c] Try.underlying27 rfl info27s (fun j u hj => by simpa using hj)) ?_) | (go_at_call 13; refine H.call1 (awake_calls _) ?_; intro w1 H1; replace H := H1; clear H1) | (go_at_call 14; refine H.call0 (Put_no _ a b q A n c e he.out hck) ?_; rintro v l1 w1 ⟨rfl, rfl⟩ H1; replace H := H1; clear H1))
  go_ret
  exact ⟨rfl, H.below⟩

set_option maxHeartbeats 1000000 in
set_option maxRecDepth 100000 in
theorem Back_type2 (w : World) (a b q : Int) (A A2 : Option Addr) (n c n2 c2 k : Nat) (d more : List Int) (hd : (Kd.int .u8).C w A n d) (hm : (Kd.int .u8).C w A2 n2 more) (hc : n ≤ c) (hc2 : n2 ≤ c2) (hby : ∀ y ∈ d, 0 ≤ y ∧ y ≤ 255) (hby2 : ∀ y ∈ more, 0 ≤ y ∧ y ≤ 255) (hk : k < 65536) (hn : n ≤ 1500) (hn2 : n2 ≤ 3000) (a0 : 0 ≤ a) (a1 : a < 281474976710656) (b0 : 0 ≤ b) (b1 : b < 281474976710656) (q0 : 0 ≤ q) (q1 : q < 65536) (pb : List Int) (hpb : putF a b q d = pb) (m : Nat) (hmod : k % pb.length = m) (hg1 : getF pb = (a, b, q, d, 0)) (hq : 1536 ≤ q) (hg2 : getF (pb.take m) = (0, 0, 0, [], 2)) :
    Calls Try.prog 7 #[.agg #[.int .u64 a, .int .u64 b, .int .u16 q, .slice A n c], .slice A2 n2 c2, .int .u16 (k : Int)] w (fun e w' => e = .returned (.bool true) ∧ Below w.heap.size w w') := by
  have H := Hp.nothing w
  obtain rfl : d.length = n := hd.1
  obtain rfl : more.length = n2 := hm.1
  have hpl : pb.length = 14 + d.length := by rw [← hpb]; exact putF_length a b q d
  have hpy : ∀ y ∈ pb, 0 ≤ y ∧ y ≤ 255 := by rw [← hpb]; exact putF_bytes hby
  have hmm : m ≤ pb.length := by have := Nat.mod_lt k (show 0 < pb.length by omega); omega
  have km : (k : Int).tmod (pb.length : Int) = (m : Int) := by rw [← hmod]; rfl
  have km2 : (k : Int) % (pb.length : Int) = (m : Int) := by rw [← hmod]; rfl
  have kw := (small_wrap hk).1
  have kw3 := (small_wrap hk).2
  have mk : m < 65536 := Nat.lt_of_le_of_lt (by rw [← hmod]; exact Nat.mod_le _ _) hk
  have mw := (small_wrap mk).2
  have mw2 := (small_wrap mk).1
  clear mk
  have z1 : ((pb.length : Int) == 0) = false := beq_eq_false_iff_ne.2 (by omega)
  have z2 : decide ((pb.length : Int) = 0) = false := decide_eq_false (by omega)
  have z3 : ¬ (pb.length : Int) = 0 := by omega
  have z4 : pb ≠ [] := by intro h; rw [h] at hpl; simp at hpl; omega
  have u1 : decide (3000 < (d.length : Int)) = false := decide_eq_false (by omega)
  have u1' : decide (3000 < d.length) = false := decide_eq_false (by omega)
  have u2 : decide (3000 < (more.length : Int)) = false := decide_eq_false (by omega)
  have u2' : decide (3000 < more.length) = false := decide_eq_false (by omega)
  have t1 : decide (1500 < q) = true := decide_eq_true (by omega)
  replace hq := Aside0.mk hq
  replace hg2 := Aside0.mk hg2
  clear km2
  replace hmod := Aside0.mk hmod
  replace hd := Aside0.mk hd
  replace hm := Aside0.mk hm
  replace hc2 := Aside0.mk hc2
  replace hc := Aside0.mk hc
  replace hby := Aside0.mk hby
  replace hby2 := Aside0.mk hby2
  replace hpb := Aside0.mk hpb
  replace hpl := Aside0.mk hpl
  replace hpy := Aside0.mk hpy
  replace hmm := Aside0.mk hmm
  replace hg1 := Aside0.mk hg1
  replace hn := Aside0.mk hn
  replace hn2 := Aside0.mk hn2
  clear hk
  go_enter Try.func7, Try.ntmps7
  go_wp2_with (first | ((with_reducible refine gate_dst (N := 3) rfl ?_); refine ev_ rfl (H.box rfl (by first | (go_simp; done) | (go_simp; rfl)) rfl) ?_; rintro _ w1 ⟨g3, rfl, H1⟩; (try simp only [Value.cells] at H1); replace H := H1; clear H1) | ((with_reducible refine gate_dst (N := 19) rfl ?_); refine gate_guard (by rfl) ?_; dsimp only; refine Kd.event_run rfl (H.load1 25 (.tmp 18) rfl rfl (by repeat (first | exact Pick.here _ | apply Pick.there)) Try.underlying25 rfl rfl) ?_) | ((with_reducible refine gate_dst (N := 30) rfl ?_); refine Kd.event_run rfl (H.loadN 27 (.tmp 3) rfl rfl (by repeat (first | exact Pick.here _ | apply Pick.there)) #[.int .u64 a, .int .u64 b, .int .u16 q, .slice A d.length c] Try.underlying27 rfl info27s (fun j u hj => by simpa using hj)) ?_) | ((with_reducible refine gate_dst (N := 9) rfl ?_); refine ev_ rfl (H.new (cs := #[.int .u64 0, .int .u64 0, .int .u16 0, .slice none 0 0]) (t := 27) (by first | (go_simp; done) | (go_simp; rfl))) ?_; rintro _ w1 ⟨g9, rfl, H1⟩; replace H := H1; clear H1) | ((with_reducible refine gate_store (p := 9) rfl ?_); refine ev_ rfl (H.store 27 (.tmp 9) (.tmp 39) rfl rfl (by repeat (first | exact Pick.here _ | apply Pick.there)) (by first | (go_simp; done) | (go_simp; rfl)) _ rfl info27s (by simp [Value.oneCell', Value.cells]) (by simp [Value.cells]) rfl) ?_; rintro _ w1 ⟨rfl, H1⟩; (try simp only [putsAt, Value.cells, List.setIfInBounds_toArray, List.set_cons_zero, List.set_cons_succ, List.toList_toArray] at H1); replace H := H1; clear H1) | ((with_reducible refine gate_dst (N := 44) rfl ?_); refine gate_guard (by rfl) ?_; dsimp only; refine Kd.event_run rfl (H.loadN 27 (.tmp 3) rfl rfl (by repeat (first | exact Pick.here _ | apply Pick.there)) #[.int .u64 a, .int .u64 b, .int .u16 q, .slice A d.length c] Try.underlying27 rfl info27s (fun j u hj => by simpa using hj)) ?_) | ((with_reducible refine gate_dst (N := 45) rfl ?_); refine gate_guard (by rfl) ?_; dsimp only; refine Kd.event_run rfl (H.loadN 27 (.tmp 9) rfl rfl (by repeat (first | exact Pick.here _ | apply Pick.there)) #[.int .u64 a, .int .u64 b, .int .u16 q, .slice A9 d.length c9] Try.underlying27 rfl info27s (fun j u hj => by simpa using hj)) ?_) | ((with_reducible refine gate_dst (N := 11) rfl ?_); refine ev_ rfl (H.new (cs := #[.int .u64 0, .int .u64 0, .int .u16 0, .slice none 0 0]) (t := 27) (by first | (go_simp; done) | (go_simp; rfl))) ?_; rintro _ w1 ⟨g11, rfl, H1⟩; replace H := H1; clear H1) | ((with_reducible refine gate_store (p := 11) rfl ?_); refine ev_ rfl (H.store 27 (.tmp 11) (.tmp 58) rfl rfl (by repeat (first | exact Pick.here _ | apply Pick.there)) (by first | (go_simp; done) | (go_simp; rfl)) _ rfl info27s (by simp [Value.oneCell', Value.cells]) (by simp [Value.cells]) rfl) ?_; rintro _ w1 ⟨rfl, H1⟩; (try simp only [putsAt, Value.cells, List.setIfInBounds_toArray, List.set_cons_zero, List.set_cons_succ, List.toList_toArray] at H1); replace H := H1; clear H1) | ((with_reducible refine gate_dst (N := 61) rfl ?_); refine Kd.event_run rfl (H.load1 24 (.tmp 60) rfl rfl (by repeat (first | exact Pick.here _ | apply Pick.there)) Try.underlying24 rfl rfl) ?_) | ((with_reducible refine gate_dst (N := 70) rfl ?_); refine gate_guard (by rfl) ?_; dsimp only; refine Kd.event_run rfl (H.load1 25 (.tmp 69) rfl rfl (by repeat (first | exact Pick.here _ | apply Pick.there)) Try.underlying25 rfl rfl) ?_) | ((with_reducible refine gate_dst (N := 73) rfl ?_); refine gate_guard (by rfl) ?_; dsimp only; refine Kd.event_run rfl (H.load1 25 (.tmp 72) rfl rfl (by repeat (first | exact Pick.here _ | apply Pick.there)) Try.underlying25 rfl rfl) ?_) | ((with_reducible refine gate_dst (N := 13) rfl ?_); refine ev_ rfl (H.new (cs := #[.int .u64 0, .int .u64 0, .int .u16 0, .slice none 0 0]) (t := 27) (by first | (go_simp; done) | (go_simp; rfl))) ?_; rintro _ w1 ⟨g13, rfl, H1⟩; replace H := H1; clear H1) | ((with_reducible refine gate_store (p := 13) rfl ?_); refine ev_ rfl (H.store 27 (.tmp 13) (.tmp 85) rfl rfl (by repeat (first | exact Pick.here _ | apply Pick.there)) (by first | (go_simp; done) | (go_simp; rfl)) _ rfl info27s (by simp [Value.oneCell', Value.cells]) (by simp [Value.cells]) rfl) ?_; rintro _ w1 ⟨rfl, H1⟩; (try simp only [putsAt, Value.cells, List.setIfInBounds_toArray, List.set_cons_zero, List.set_cons_succ, List.toList_toArray] at H1); replace H := H1; clear H1) | (go_at_call 13; refine H.call1 (awake_calls _) ?_; intro w1 H1; replace H := H1; clear H1) | (go_at_call 14; refine H.call0 (Put_ok _ a b q A d.length c d a0 a1 b0 b1 q0 q1 (H.data hd.out) hn.out (fun w1 => Check_type w1 a b q A d.length c a0 a1 b0 b1 q0 q1 hn.out hq.out)) ?_; rintro v l1 w1 ⟨bv, rfl, rfl⟩ H1; rw [hpb.out] at H1; obtain ⟨A7, c7, rfl, hc7, HC7⟩ := H1.reads (.here _); replace hc7 := Aside0.mk hc7; replace H := H1; clear H1 HC7) | (have tk := c9; clear tk; go_at_call 21; refine H.call0 (Get_all _ A7 m c7 (pb.take m) (C_front (H.readsN (by repeat (first | exact Pick.here _ | apply Pick.there))) m hmm.out) (Nat.le_trans hmm.out hc7.out) (by have := hmm.out; have := hpl.out; have := hn.out; omega) (fun y hy => hpy.out y (List.mem_of_mem_take hy))) ?_; rintro v l1 w1 ⟨dv, rfl, rfl⟩ H1; rw [hg2.out] at H1; rw [hg2.out]; dsimp only at H1; dsimp only; obtain ⟨A11, c11, rfl, hc11, HC11⟩ := H1.reads (.here _); clear hc11 HC11; replace H := H1; clear H1) | (go_at_call 21; refine H.call0 (Get_all _ A7 pb.length c7 pb (H.readsN (by repeat (first | exact Pick.here _ | apply Pick.there))) hc7.out (by have := hpl.out; have := hn.out; omega) hpy.out) ?_; rintro v l1 w1 ⟨dv, rfl, rfl⟩ H1; rw [hg1.out] at H1; rw [hg1.out]; dsimp only at H1; dsimp only; obtain ⟨A9, c9, rfl, hc9, HC9⟩ := H1.reads (.here _); clear hc9 HC9; replace H := H1; clear H1) | ((with_reducible refine gate_dst (N := 56) rfl ?_); refine Kd.event_run rfl (v := .slice A7 m c7) (w1 := _) (run_cut3 (t := 25) (e := 5) (j := m) rfl rfl rfl Try.underlying25 info5s hmm.out hc7.out _) ?_) | (go_at_call 19; refine H.call0 (Same_calls _ a b q A A9 d.length d.length c c9 d (H.data hd.out) (H.readsN (by repeat (first | exact Pick.here _ | apply Pick.there)))) ?_; rintro v l1 w1 ⟨rfl, rfl⟩ H1; replace H := H1; clear H1))
  go_ret
  exact ⟨rfl, H.below⟩

set_option maxHeartbeats 1000000 in
set_option maxRecDepth 100000 in
theorem Back_type0 (w : World) (a b q : Int) (A A2 : Option Addr) (n c n2 c2 k : Nat) (d more : List Int) (hd : (Kd.int .u8).C w A n d) (hm : (Kd.int .u8).C w A2 n2 more) (hc : n ≤ c) (hc2 : n2 ≤ c2) (hby : ∀ y ∈ d, 0 ≤ y ∧ y ≤ 255) (hby2 : ∀ y ∈ more, 0 ≤ y ∧ y ≤ 255) (hk : k < 65536) (hn : n ≤ 1500) (hn2 : n2 ≤ 3000) (a0 : 0 ≤ a) (a1 : a < 281474976710656) (b0 : 0 ≤ b) (b1 : b < 281474976710656) (q0 : 0 ≤ q) (q1 : q < 65536) (pb : List Int) (hpb : putF a b q d = pb) (m : Nat) (hmod : k % pb.length = m) (hg1 : getF pb = (a, b, q, d, 0)) (hq : 1536 ≤ q) (d2 : List Int) (hl : d2.length < d.length) (hg2 : getF (pb.take m) = (a, b, q, d2, 0)) :
    Calls Try.prog 7 #[.agg #[.int .u64 a, .int .u64 b, .int .u16 q, .slice A n c], .slice A2 n2 c2, .int .u16 (k : Int)] w (fun e w' => e = .returned (.bool true) ∧ Below w.heap.size w w') := by
  have H := Hp.nothing w
  obtain rfl : d.length = n := hd.1
  obtain rfl : more.length = n2 := hm.1
  have hpl : pb.length = 14 + d.length := by rw [← hpb]; exact putF_length a b q d
  have hpy : ∀ y ∈ pb, 0 ≤ y ∧ y ≤ 255 := by rw [← hpb]; exact putF_bytes hby
  have hmm : m ≤ pb.length := by have := Nat.mod_lt k (show 0 < pb.length by omega); omega
  have km : (k : Int).tmod (pb.length : Int) = (m : Int) := by rw [← hmod]; rfl
  have km2 : (k : Int) % (pb.length : Int) = (m : Int) := by rw [← hmod]; rfl
  have kw := (small_wrap hk).1
  have kw3 := (small_wrap hk).2
  have mk : m < 65536 := Nat.lt_of_le_of_lt (by rw [← hmod]; exact Nat.mod_le _ _) hk
  have mw := (small_wrap mk).2
  have mw2 := (small_wrap mk).1
  clear mk
  have z1 : ((pb.length : Int) == 0) = false := beq_eq_false_iff_ne.2 (by omega)
  have z2 : decide ((pb.length : Int) = 0) = false := decide_eq_false (by omega)
  have z3 : ¬ (pb.length : Int) = 0 := by omega
  have z4 : pb ≠ [] := by intro h; rw [h] at hpl; simp at hpl; omega
  have u1 : decide (3000 < (d.length : Int)) = false := decide_eq_false (by omega)
  have u1' : decide (3000 < d.length) = false := decide_eq_false (by omega)
  have u2 : decide (3000 < (more.length : Int)) = false := decide_eq_false (by omega)
  have u2' : decide (3000 < more.length) = false := decide_eq_false (by omega)
  have t1 : decide (1500 < q) = true := decide_eq_true (by omega)
  have t2 : decide (d2.length < d.length) = true := decide_eq_true (by omega)
  have t2' : decide ((d2.length : Int) < (d.length : Int)) = true := decide_eq_true (by omega)
  replace hq := Aside0.mk hq
  replace hg2 := Aside0.mk hg2
  clear hl
  clear km2
  replace hmod := Aside0.mk hmod
  replace hd := Aside0.mk hd
  replace hm := Aside0.mk hm
  replace hc2 := Aside0.mk hc2
  replace hc := Aside0.mk hc
  replace hby := Aside0.mk hby
  replace hby2 := Aside0.mk hby2
  replace hpb := Aside0.mk hpb
  replace hpl := Aside0.mk hpl
  replace hpy := Aside0.mk hpy
  replace hmm := Aside0.mk hmm
  replace hg1 := Aside0.mk hg1
  replace hn := Aside0.mk hn
  replace hn2 := Aside0.mk hn2
  clear hk
  go_enter Try.func7, Try.ntmps7
  go_wp2_with (first | ((with_reducible refine gate_dst (N := 3) rfl ?_); refine ev_ rfl (H.box rfl (by first | (go_simp; done) | (go_simp; rfl)) rfl) ?_; rintro _ w1 ⟨g3, rfl, H1⟩; (try simp only [Value.cells] at H1); replace H := H1; clear H1) | ((with_reducible refine gate_dst (N := 19) rfl ?_); refine gate_guard (by rfl) ?_; dsimp only; refine Kd.event_run rfl (H.load1 25 (.tmp 18) rfl rfl (by repeat (first | exact Pick.here _ | apply Pick.there)) Try.underlying25 rfl rfl) ?_) | ((with_reducible refine gate_dst (N := 30) rfl ?_); refine Kd.event_run rfl (H.loadN 27 (.tmp 3) rfl rfl (by repeat (first | exact Pick.here _ | apply Pick.there)) #[.int .u64 a, .int .u64 b, .int .u16 q, .slice A d.length c] Try.underlying27 rfl info27s (fun j u hj => by simpa using hj)) ?_) | ((with_reducible refine gate_dst (N := 9) rfl ?_); refine ev_ rfl (H.new (cs := #[.int .u64 0, .int .u64 0, .int .u16 0, .slice none 0 0]) (t := 27) (by first | (go_simp; done) | (go_simp; rfl))) ?_; rintro _ w1 ⟨g9, rfl, H1⟩; replace H := H1; clear H1) | ((with_reducible refine gate_store (p := 9) rfl ?_); refine ev_ rfl (H.store 27 (.tmp 9) (.tmp 39) rfl rfl (by repeat (first | exact Pick.here _ | apply Pick.there)) (by first | (go_simp; done) | (go_simp; rfl)) _ rfl info27s (by simp [Value.oneCell', Value.cells]) (by simp [Value.cells]) rfl) ?_; rintro _ w1 ⟨rfl, H1⟩; (try simp only [putsAt, Value.cells, List.setIfInBounds_toArray, List.set_cons_zero, List.set_cons_succ, List.toList_toArray] at H1); replace H := H1; clear H1) | ((with_reducible refine gate_dst (N := 44) rfl ?_); refine gate_guard (by rfl) ?_; dsimp only; refine Kd.event_run rfl (H.loadN 27 (.tmp 3) rfl rfl (by repeat (first | exact Pick.here _ | apply Pick.there)) #[.int .u64 a, .int .u64 b, .int .u16 q, .slice A d.length c] Try.underlying27 rfl info27s (fun j u hj => by simpa using hj)) ?_) | ((with_reducible refine gate_dst (N := 45) rfl ?_); refine gate_guard (by rfl) ?_; dsimp only; refine Kd.event_run rfl (H.loadN 27 (.tmp 9) rfl rfl (by repeat (first | exact Pick.here _ | apply Pick.there)) #[.int .u64 a, .int .u64 b, .int .u16 q, .slice A9 d.length c9] Try.underlying27 rfl info27s (fun j u hj => by simpa using hj)) ?_) | ((with_reducible refine gate_dst (N := 11) rfl ?_); refine ev_ rfl (H.new (cs := #[.int .u64 0, .int .u64 0, .int .u16 0, .slice none 0 0]) (t := 27) (by first | (go_simp; done) | (go_simp; rfl))) ?_; rintro _ w1 ⟨g11, rfl, H1⟩; replace H := H1; clear H1) | ((with_reducible refine gate_store (p := 11) rfl ?_); refine ev_ rfl (H.store 27 (.tmp 11) (.tmp 58) rfl rfl (by repeat (first | exact Pick.here _ | apply Pick.there)) (by first | (go_simp; done) | (go_simp; rfl)) _ rfl info27s (by simp [Value.oneCell', Value.cells]) (by simp [Value.cells]) rfl) ?_; rintro _ w1 ⟨rfl, H1⟩; (try simp only [putsAt, Value.cells, List.setIfInBounds_toArray, List.set_cons_zero, List.set_cons_succ, List.toList_toArray] at H1); replace H := H1; clear H1) | ((with_reducible refine gate_dst (N := 61) rfl ?_); refine Kd.event_run rfl (H.load1 24 (.tmp 60) rfl rfl (by repeat (first | exact Pick.here _ | apply Pick.there)) Try.underlying24 rfl rfl) ?_) | ((with_reducible refine gate_dst (N := 70) rfl ?_); refine gate_guard (by rfl) ?_; dsimp only; refine Kd.event_run rfl (H.load1 25 (.tmp 69) rfl rfl (by repeat (first | exact Pick.here _ | apply Pick.there)) Try.underlying25 rfl rfl) ?_) | ((with_reducible refine gate_dst (N := 73) rfl ?_); refine gate_guard (by rfl) ?_; dsimp only; refine Kd.event_run rfl (H.load1 25 (.tmp 72) rfl rfl (by repeat (first | exact Pick.here _ | apply Pick.there)) Try.underlying25 rfl rfl) ?_) | ((with_reducible refine gate_dst (N := 13) rfl ?_); refine ev_ rfl (H.new (cs := #[.int .u64 0, .int .u64 0, .int .u16 0, .slice none 0 0]) (t := 27) (by first | (go_simp; done) | (go_simp; rfl))) ?_; rintro _ w1 ⟨g13, rfl, H1⟩; replace H := H1; clear H1) | ((with_reducible refine gate_store (p := 13) rfl ?_); refine ev_ rfl (H.store 27 (.tmp 13) (.tmp 85) rfl rfl (by repeat (first | exact Pick.here _ | apply Pick.there)) (by first | (go_simp; done) | (go_simp; rfl)) _ rfl info27s (by simp [Value.oneCell', Value.cells]) (by simp [Value.cells]) rfl) ?_; rintro _ w1 ⟨rfl, H1⟩; (try simp only [putsAt, Value.cells, List.setIfInBounds_toArray, List.set_cons_zero, List.set_cons_succ, List.toList_toArray] at H1); replace H := H1; clear H1) | (go_at_call 13; refine H.call1 (awake_calls _) ?_; intro w1 H1; replace H := H1; clear H1) | (go_at_call 14; refine H.call0 (Put_ok _ a b q A d.length c d a0 a1 b0 b1 q0 q1 (H.data hd.out) hn.out (fun w1 => Check_type w1 a b q A d.length c a0 a1 b0 b1 q0 q1 hn.out hq.out)) ?_; rintro v l1 w1 ⟨bv, rfl, rfl⟩ H1; rw [hpb.out] at H1; obtain ⟨A7, c7, rfl, hc7, HC7⟩ := H1.reads (.here _); replace hc7 := Aside0.mk hc7; replace H := H1; clear H1 HC7) | (have tk := c9; clear tk; go_at_call 21; refine H.call0 (Get_all _ A7 m c7 (pb.take m) (C_front (H.readsN (by repeat (first | exact Pick.here _ | apply Pick.there))) m hmm.out) (Nat.le_trans hmm.out hc7.out) (by have := hmm.out; have := hpl.out; have := hn.out; omega) (fun y hy => hpy.out y (List.mem_of_mem_take hy))) ?_; rintro v l1 w1 ⟨dv, rfl, rfl⟩ H1; rw [hg2.out] at H1; rw [hg2.out]; dsimp only at H1; dsimp only; obtain ⟨A11, c11, rfl, hc11, HC11⟩ := H1.reads (.here _); clear hc11 HC11; replace H := H1; clear H1) | (go_at_call 21; refine H.call0 (Get_all _ A7 pb.length c7 pb (H.readsN (by repeat (first | exact Pick.here _ | apply Pick.there))) hc7.out (by have := hpl.out; have := hn.out; omega) hpy.out) ?_; rintro v l1 w1 ⟨dv, rfl, rfl⟩ H1; rw [hg1.out] at H1; rw [hg1.out]; dsimp only at H1; dsimp only; obtain ⟨A9, c9, rfl, hc9, HC9⟩ := H1.reads (.here _); clear hc9 HC9; replace H := H1; clear H1) | ((with_reducible refine gate_dst (N := 56) rfl ?_); refine Kd.event_run rfl (v := .slice A7 m c7) (w1 := _) (run_cut3 (t := 25) (e := 5) (j := m) rfl rfl rfl Try.underlying25 info5s hmm.out hc7.out _) ?_) | (go_at_call 19; refine H.call0 (Same_calls _ a b q A A9 d.length d.length c c9 d (H.data hd.out) (H.readsN (by repeat (first | exact Pick.here _ | apply Pick.there)))) ?_; rintro v l1 w1 ⟨rfl, rfl⟩ H1; replace H := H1; clear H1))
  go_ret
  exact ⟨rfl, H.below⟩

set_option maxHeartbeats 1000000 in
set_option maxRecDepth 100000 in
theorem Back_fit (w : World) (a b q : Int) (A A2 : Option Addr) (n c n2 c2 k : Nat) (d more : List Int) (hd : (Kd.int .u8).C w A n d) (hm : (Kd.int .u8).C w A2 n2 more) (hc : n ≤ c) (hc2 : n2 ≤ c2) (hby : ∀ y ∈ d, 0 ≤ y ∧ y ≤ 255) (hby2 : ∀ y ∈ more, 0 ≤ y ∧ y ≤ 255) (hk : k < 65536) (hn : n ≤ 1500) (hn2 : n2 ≤ 3000) (a0 : 0 ≤ a) (a1 : a < 281474976710656) (b0 : 0 ≤ b) (b1 : b < 281474976710656) (q0 : 0 ≤ q) (q1 : q < 65536) (pb : List Int) (hpb : putF a b q d = pb) (m : Nat) (hmod : k % pb.length = m) (hg1 : getF pb = (a, b, q, d, 0)) (hq : q = (n : Int)) (hg2 : getF (pb.take m) = (0, 0, 0, [], 2)) (tot : List Int) (htot : pb ++ more = tot) (hg3 : getF tot = (a, b, q, d, 0)) :
    Calls Try.prog 7 #[.agg #[.int .u64 a, .int .u64 b, .int .u16 q, .slice A n c], .slice A2 n2 c2, .int .u16 (k : Int)] w (fun e w' => e = .returned (.bool true) ∧ Below w.heap.size w w') := by
  have H := Hp.nothing w
  obtain rfl : d.length = n := hd.1
  obtain rfl : more.length = n2 := hm.1
  have hpl : pb.length = 14 + d.length := by rw [← hpb]; exact putF_length a b q d
  have hpy : ∀ y ∈ pb, 0 ≤ y ∧ y ≤ 255 := by rw [← hpb]; exact putF_bytes hby
  have hmm : m ≤ pb.length := by have := Nat.mod_lt k (show 0 < pb.length by omega); omega
  have km : (k : Int).tmod (pb.length : Int) = (m : Int) := by rw [← hmod]; rfl
  have km2 : (k : Int) % (pb.length : Int) = (m : Int) := by rw [← hmod]; rfl
  have kw := (small_wrap hk).1
  have kw3 := (small_wrap hk).2
  have mk : m < 65536 := Nat.lt_of_le_of_lt (by rw [← hmod]; exact Nat.mod_le _ _) hk
  have mw := (small_wrap mk).2
  have mw2 := (small_wrap mk).1
  clear mk
  have z1 : ((pb.length : Int) == 0) = false := beq_eq_false_iff_ne.2 (by omega)
  have z2 : decide ((pb.length : Int) = 0) = false := decide_eq_false (by omega)
  have z3 : ¬ (pb.length : Int) = 0 := by omega
  have z4 : pb ≠ [] := by intro h; rw [h] at hpl; simp at hpl; omega
  have u1 : decide (3000 < (d.length : Int)) = false := decide_eq_false (by omega)
  have u1' : decide (3000 < d.length) = false := decide_eq_false (by omega)
  have u2 : decide (3000 < (more.length : Int)) = false := decide_eq_false (by omega)
  have u2' : decide (3000 < more.length) = false := decide_eq_false (by omega)
  have t1 : decide (1500 < q) = false := decide_eq_false (by omega)
  replace hq := Aside0.mk hq
  replace hg2 := Aside0.mk hg2
  replace hg3 := Aside0.mk hg3
  have htl : tot.length = pb.length + more.length := by rw [← htot, List.length_append]
  have hty : ∀ y ∈ tot, 0 ≤ y ∧ y ≤ 255 := by rw [← htot]; exact fun y hy => (List.mem_append.1 hy).elim (hpy y) (hby2 y)
  replace htl := Aside0.mk htl
  replace hty := Aside0.mk hty
  replace htot := Aside0.mk htot
  clear km2
  replace hmod := Aside0.mk hmod
  replace hd := Aside0.mk hd
  replace hm := Aside0.mk hm
  replace hc2 := Aside0.mk hc2
  replace hc := Aside0.mk hc
  replace hby := Aside0.mk hby
  replace hby2 := Aside0.mk hby2
  replace hpb := Aside0.mk hpb
  replace hpl := Aside0.mk hpl
  replace hpy := Aside0.mk hpy
  replace hmm := Aside0.mk hmm
  replace hg1 := Aside0.mk hg1
  replace hn := Aside0.mk hn
  replace hn2 := Aside0.mk hn2
  clear hk
  go_enter Try.func7, Try.ntmps7
  go_wp2_with (first | ((with_reducible refine gate_dst (N := 3) rfl ?_); refine ev_ rfl (H.box rfl (by first | (go_simp; done) | (go_simp; rfl)) rfl) ?_; rintro _ w1 ⟨g3, rfl, H1⟩; (try simp only [Value.cells] at H1); replace H := H1; clear H1) | ((with_reducible refine gate_dst (N := 19) rfl ?_); refine gate_guard (by rfl) ?_; dsimp only; refine Kd.event_run rfl (H.load1 25 (.tmp 18) rfl rfl (by repeat (first | exact Pick.here _ | apply Pick.there)) Try.underlying25 rfl rfl) ?_) | ((with_reducible refine gate_dst (N := 30) rfl ?_); refine Kd.event_run rfl (H.loadN 27 (.tmp 3) rfl rfl (by repeat (first | exact Pick.here _ | apply Pick.there)) #[.int .u64 a, .int .u64 b, .int .u16 q, .slice A d.length c] Try.underlying27 rfl info27s (fun j u hj => by simpa using hj)) ?_) | ((with_reducible refine gate_dst (N := 9) rfl ?_); refine ev_ rfl (H.new (cs := #[.int .u64 0, .int .u64 0, .int .u16 0, .slice none 0 0]) (t := 27) (by first | (go_simp; done) | (go_simp; rfl))) ?_; rintro _ w1 ⟨g9, rfl, H1⟩; replace H := H1; clear H1) | ((with_reducible refine gate_store (p := 9) rfl ?_); refine ev_ rfl (H.store 27 (.tmp 9) (.tmp 39) rfl rfl (by repeat (first | exact Pick.here _ | apply Pick.there)) (by first | (go_simp; done) | (go_simp; rfl)) _ rfl info27s (by simp [Value.oneCell', Value.cells]) (by simp [Value.cells]) rfl) ?_; rintro _ w1 ⟨rfl, H1⟩; (try simp only [putsAt, Value.cells, List.setIfInBounds_toArray, List.set_cons_zero, List.set_cons_succ, List.toList_toArray] at H1); replace H := H1; clear H1) | ((with_reducible refine gate_dst (N := 44) rfl ?_); refine gate_guard (by rfl) ?_; dsimp only; refine Kd.event_run rfl (H.loadN 27 (.tmp 3) rfl rfl (by repeat (first | exact Pick.here _ | apply Pick.there)) #[.int .u64 a, .int .u64 b, .int .u16 q, .slice A d.length c] Try.underlying27 rfl info27s (fun j u hj => by simpa using hj)) ?_) | ((with_reducible refine gate_dst (N := 45) rfl ?_); refine gate_guard (by rfl) ?_; dsimp only; refine Kd.event_run rfl (H.loadN 27 (.tmp 9) rfl rfl (by repeat (first | exact Pick.here _ | apply Pick.there)) #[.int .u64 a, .int .u64 b, .int .u16 q, .slice A9 d.length c9] Try.underlying27 rfl info27s (fun j u hj => by simpa using hj)) ?_) | ((with_reducible refine gate_dst (N := 11) rfl ?_); refine ev_ rfl (H.new (cs := #[.int .u64 0, .int .u64 0, .int .u16 0, .slice none 0 0]) (t := 27) (by first | (go_simp; done) | (go_simp; rfl))) ?_; rintro _ w1 ⟨g11, rfl, H1⟩; replace H := H1; clear H1) | ((with_reducible refine gate_store (p := 11) rfl ?_); refine ev_ rfl (H.store 27 (.tmp 11) (.tmp 58) rfl rfl (by repeat (first | exact Pick.here _ | apply Pick.there)) (by first | (go_simp; done) | (go_simp; rfl)) _ rfl info27s (by simp [Value.oneCell', Value.cells]) (by simp [Value.cells]) rfl) ?_; rintro _ w1 ⟨rfl, H1⟩; (try simp only [putsAt, Value.cells, List.setIfInBounds_toArray, List.set_cons_zero, List.set_cons_succ, List.toList_toArray] at H1); replace H := H1; clear H1) | ((with_reducible refine gate_dst (N := 61) rfl ?_); refine Kd.event_run rfl (H.load1 24 (.tmp 60) rfl rfl (by repeat (first | exact Pick.here _ | apply Pick.there)) Try.underlying24 rfl rfl) ?_) | ((with_reducible refine gate_dst (N := 70) rfl ?_); refine gate_guard (by rfl) ?_; dsimp only; refine Kd.event_run rfl (H.load1 25 (.tmp 69) rfl rfl (by repeat (first | exact Pick.here _ | apply Pick.there)) Try.underlying25 rfl rfl) ?_) | ((with_reducible refine gate_dst (N := 73) rfl ?_); refine gate_guard (by rfl) ?_; dsimp only; refine Kd.event_run rfl (H.load1 25 (.tmp 72) rfl rfl (by repeat (first | exact Pick.here _ | apply Pick.there)) Try.underlying25 rfl rfl) ?_) | ((with_reducible refine gate_dst (N := 13) rfl ?_); refine ev_ rfl (H.new (cs := #[.int .u64 0, .int .u64 0, .int .u16 0, .slice none 0 0]) (t := 27) (by first | (go_simp; done) | (go_simp; rfl))) ?_; rintro _ w1 ⟨g13, rfl, H1⟩; replace H := H1; clear H1) | ((with_reducible refine gate_store (p := 13) rfl ?_); refine ev_ rfl (H.store 27 (.tmp 13) (.tmp 85) rfl rfl (by repeat (first | exact Pick.here _ | apply Pick.there)) (by first | (go_simp; done) | (go_simp; rfl)) _ rfl info27s (by simp [Value.oneCell', Value.cells]) (by simp [Value.cells]) rfl) ?_; rintro _ w1 ⟨rfl, H1⟩; (try simp only [putsAt, Value.cells, List.setIfInBounds_toArray, List.set_cons_zero, List.set_cons_succ, List.toList_toArray] at H1); replace H := H1; clear H1) | ((with_reducible refine gate_dst (N := 94) rfl ?_); refine gate_guard (by rfl) ?_; dsimp only; refine Kd.event_run rfl (H.loadN 27 (.tmp 3) rfl rfl (by repeat (first | exact Pick.here _ | apply Pick.there)) #[.int .u64 a, .int .u64 b, .int .u16 q, .slice A d.length c] Try.underlying27 rfl info27s (fun j u hj => by simpa using hj)) ?_) | ((with_reducible refine gate_dst (N := 95) rfl ?_); refine gate_guard (by rfl) ?_; dsimp only; refine Kd.event_run rfl (H.loadN 27 (.tmp 13) rfl rfl (by repeat (first | exact Pick.here _ | apply Pick.there)) #[.int .u64 a, .int .u64 b, .int .u16 q, .slice A13 d.length c13] Try.underlying27 rfl info27s (fun j u hj => by simpa using hj)) ?_) | (go_at_call 13; refine H.call1 (awake_calls _) ?_; intro w1 H1; replace H := H1; clear H1) | (go_at_call 14; refine H.call0 (Put_ok _ a b q A d.length c d a0 a1 b0 b1 q0 q1 (H.data hd.out) hn.out (fun w1 => Check_fit w1 a b q A d.length c a0 a1 b0 b1 q0 q1 hn.out hq.out)) ?_; rintro v l1 w1 ⟨bv, rfl, rfl⟩ H1; rw [hpb.out] at H1; obtain ⟨A7, c7, rfl, hc7, HC7⟩ := H1.reads (.here _); replace hc7 := Aside0.mk hc7; replace H := H1; clear H1 HC7) | ((with_reducible refine gate_dst (N := 79) rfl ?_); refine ev_ rfl (H.lit (cs := #[]) (e := 5) (n := 0) (by first | (go_simp; done) | (go_simp; rfl))) ?_; rintro v w1 ⟨g0, rfl, H1⟩; replace H := Hp.blk_row (d := Kd.int .u8) [] H1 (.cons (.here _) (.nil _)) (fun _ _ => reps_nil _ _ rfl rfl) rfl (Nat.zero_le _); clear H1) | ((with_reducible refine gate_dst (N := 81) rfl ?_); refine ev_ rfl (H.appendS (.tmp 79) (.tmp 80) 25 (.int .u8 0) 1 rfl rfl (.here _) Try.underlying25 info5 rfl (by decide) rfl (H.readsN (A := A7) (xs := pb) (by repeat (first | exact Pick.here _ | apply Pick.there))) (by have := hpl.out; have := hn.out; simp; omega)) ?_; intro v12 w5 H1; simp only [List.nil_append] at H1; replace H := H1; clear H1) | ((with_reducible refine gate_dst (N := 83) rfl ?_); refine ev_ rfl (H.appendS (.tmp 81) (.tmp 82) 25 (.int .u8 0) 1 rfl rfl (.here _) Try.underlying25 info5 rfl (by decide) rfl (H.data hm.out) (by have := hpl.out; have := hn.out; have := hn2.out; omega)) ?_; intro v13 w5 H1; rw [htot.out] at H1; obtain ⟨A12, c12, rfl, hc12, HC12⟩ := H1.reads (.here _); replace H := H1; replace hc12 := Aside0.mk hc12; clear H1 HC12) | (have tk := c12; clear tk; go_at_call 21; refine H.call0 (Get_all _ A12 tot.length c12 tot (H.readsN (by repeat (first | exact Pick.here _ | apply Pick.there))) hc12.out (by have := hpl.out; have := hn.out; have := hn2.out; have := htl.out; omega) hty.out) ?_; rintro v l1 w1 ⟨dv, rfl, rfl⟩ H1; rw [hg3.out] at H1; rw [hg3.out]; dsimp only at H1; dsimp only; obtain ⟨A13, c13, rfl, hc13, HC13⟩ := H1.reads (.here _); clear hc13 HC13; replace H := H1; clear H1) | (go_at_call 19; refine H.call0 (Same_calls _ a b q A A13 d.length d.length c c13 d (H.data hd.out) (H.readsN (by repeat (first | exact Pick.here _ | apply Pick.there)))) ?_; rintro v l1 w1 ⟨rfl, rfl⟩ H1; replace H := H1; clear H1) | (have tk := c9; clear tk; go_at_call 21; refine H.call0 (Get_all _ A7 m c7 (pb.take m) (C_front (H.readsN (by repeat (first | exact Pick.here _ | apply Pick.there))) m hmm.out) (Nat.le_trans hmm.out hc7.out) (by have := hmm.out; have := hpl.out; have := hn.out; omega) (fun y hy => hpy.out y (List.mem_of_mem_take hy))) ?_; rintro v l1 w1 ⟨dv, rfl, rfl⟩ H1; rw [hg2.out] at H1; rw [hg2.out]; dsimp only at H1; dsimp only; obtain ⟨A11, c11, rfl, hc11, HC11⟩ := H1.reads (.here _); clear hc11 HC11; replace H := H1; clear H1) | (go_at_call 21; refine H.call0 (Get_all _ A7 pb.length c7 pb (H.readsN (by repeat (first | exact Pick.here _ | apply Pick.there))) hc7.out (by have := hpl.out; have := hn.out; omega) hpy.out) ?_; rintro v l1 w1 ⟨dv, rfl, rfl⟩ H1; rw [hg1.out] at H1; rw [hg1.out]; dsimp only at H1; dsimp only; obtain ⟨A9, c9, rfl, hc9, HC9⟩ := H1.reads (.here _); clear hc9 HC9; replace H := H1; clear H1) | ((with_reducible refine gate_dst (N := 56) rfl ?_); refine Kd.event_run rfl (v := .slice A7 m c7) (w1 := _) (run_cut3 (t := 25) (e := 5) (j := m) rfl rfl rfl Try.underlying25 info5s hmm.out hc7.out _) ?_) | (go_at_call 19; refine H.call0 (Same_calls _ a b q A A9 d.length d.length c c9 d (H.data hd.out) (H.readsN (by repeat (first | exact Pick.here _ | apply Pick.there)))) ?_; rintro v l1 w1 ⟨rfl, rfl⟩ H1; replace H := H1; clear H1))
  go_ret
  exact ⟨rfl, H.below⟩

theorem FrameBack (W : World) (x : Int × Int × Int × List Int) (l1 : List Int) (k : Int) (w0 : (Lit.int .u64 x.1).wf = true ∧ (Lit.int .u64 x.2.1).wf = true ∧ (Lit.int .u16 x.2.2.1).wf = true ∧ ∀ y ∈ x.2.2.2, (Lit.int .u8 y).wf = true)
    (w1 : ∀ y ∈ l1, (Lit.int .u8 y).wf = true) (w2 : (Lit.int .u16 k).wf = true) {A0 A1 : Option Addr} {c0 c1 : Nat} (hC0 : (Kd.int .u8).C W A0 x.2.2.2.length x.2.2.2) (hc0 : x.2.2.2.length ≤ c0) (hC1 : (Kd.int .u8).C W A1 l1.length l1) (hc1 : l1.length ≤ c1) :
    Calls Try.prog 7 #[.agg #[.int .u64 x.1, .int .u64 x.2.1, .int .u16 x.2.2.1, .slice A0 x.2.2.2.length c0], .slice A1 l1.length c1, .int .u16 k] W (fun e w' => e = .returned (.bool true) ∧ Below W.heap.size W w') := by
  obtain ⟨a, b, q, d⟩ := x
  obtain ⟨wa, wb, wq, wd⟩ := w0
  dsimp only at *
  have ha := Ar.wf_u64 wa
  have hb := Ar.wf_u64 wb
  have hq := Ar.wf_u16 wq
  have hk := Ar.wf_u16 w2
  have hd : ∀ y ∈ d, 0 ≤ y ∧ y ≤ 255 := fun y hy => by have := Ar.wf_u8 (wd y hy); omega
  have hm : ∀ y ∈ l1, 0 ≤ y ∧ y ≤ 255 := fun y hy => by have := Ar.wf_u8 (w1 y hy); omega
  obtain ⟨k, rfl⟩ := Int.eq_ofNat_of_zero_le (show 0 ≤ k by omega)
  by_cases h1 : 3000 < d.length
  · exact Back_e1 W a b q A0 A1 _ c0 _ c1 k d l1 hC0 hC1 h1
  by_cases h2 : 3000 < l1.length
  · exact Back_e2 W a b q A0 A1 _ c0 _ c1 k d l1 hC0 hC1 (by omega) h2
  rcases Check_any a b q A0 d.length c0 (by omega) (by omega) (by omega) (by omega) with ⟨e, he, hck⟩ | ⟨a1, b1, hn, hor⟩
  · exact Back_no W a b q A0 A1 _ c0 _ c1 k d l1 hC0 hC1 (by omega) (by omega) e he hck
  · have g : ∀ r, _ := fun r => getF_putF a b q r (by omega) a1 (by omega) b1 (by omega) (by omega)
    have hL := putF_length a b q d
    obtain ⟨m, hmd⟩ : ∃ m, k % (putF a b q d).length = m := ⟨_, rfl⟩
    have hmlt : m < 14 + d.length := by rw [← hmd, hL]; exact Nat.mod_lt _ (by omega)
    have hshort : m < 14 → getF ((putF a b q d).take m) = (0, 0, 0, [], 2) := fun h => by
      unfold getF
      rw [if_pos (by rw [List.length_take]; omega)]
    rcases hor with hor | hor
    · have g1 : getF (putF a b q d) = (a, b, q, d, 0) := by rw [g, if_pos (by omega), if_neg (by omega), List.take_of_length_le (by omega)]
      have g2 : getF ((putF a b q d).take m) = (0, 0, 0, [], 2) := by
        by_cases h : m < 14
        · exact hshort h
        · rw [putF_take a b q d m (by omega), g, if_pos (by omega), if_pos (by rw [List.length_take]; omega)]
      have g3 : getF (putF a b q d ++ l1) = (a, b, q, d, 0) := by
        rw [putF_more, g, if_pos (by omega), if_neg (by rw [List.length_append]; omega), List.take_append, List.take_of_length_le (by omega), show q.toNat - d.length = 0 by omega]
        simp
      exact Back_fit W a b q A0 A1 _ c0 _ c1 k d l1 hC0 hC1 hc0 hc1 hd hm (by omega) hn (by omega) (by omega) a1 (by omega) b1 (by omega) (by omega) _ rfl m hmd g1 hor g2 _ rfl g3
    · have g1 : getF (putF a b q d) = (a, b, q, d, 0) := by rw [g, if_neg (by omega), if_neg (by omega), if_neg (by omega)]
      by_cases h : m < 14
      · exact Back_type2 W a b q A0 A1 _ c0 _ c1 k d l1 hC0 hC1 hc0 hc1 hd hm (by omega) hn (by omega) (by omega) a1 (by omega) b1 (by omega) (by omega) _ rfl m hmd g1 hor (hshort h)
      · exact Back_type0 W a b q A0 A1 _ c0 _ c1 k d l1 hC0 hC1 hc0 hc1 hd hm (by omega) hn (by omega) (by omega) a1 (by omega) b1 (by omega) (by omega) _ rfl m hmd g1 hor (d.take (m - 14)) (by rw [List.length_take]; omega) (by rw [putF_take a b q d m (by omega), g, if_neg (by omega), if_neg (by omega), if_neg (by rw [List.length_take]; omega)])

end Go.Proofs.Ytdmlpcbmmdddbaa.Pure
