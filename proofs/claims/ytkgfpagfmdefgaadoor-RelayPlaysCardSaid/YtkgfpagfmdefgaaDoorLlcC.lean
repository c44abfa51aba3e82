/- What functions that deal with frames of bridges come to. Walked by hand. -/
import Derived.Test.YtkgfpagfmdefgaaDoorLlcR
import Derived.Test.YtkgfpagfmdefgaaDoorAr
namespace Go.Proofs.YtkgfpagfmdefgaaDoor.Llc
open Go.RowKit Go.Proofs.YtkgfpagfmdefgaaDoorW.PrintWords Go.Proofs.YtkgfpagfmdefgaaDoorW.PrintLast Go.Proofs.YtkgfpagfmdefgaaDoorW.PrintMore
set_option linter.unusedVariables false
set_option linter.unusedSimpArgs false
open Go.Proofs.YtkgfpagfmdefgaaDoor.Sep
theorem info27s : (Tryd.prog.info? 27).map (·.size) = some 4 := by kernel_rfl
open Go.Proofs.YtkgfpagfmdefgaaDoor

/-- What a frame is to a bridge. -/
def clsOf (a q : Int) (d : List Int) : Int := if isB a q d then 0 else if a / 16 = 103282638848 then 1 else 2
theorem andNot_15 {x : Int} (h0 : 0 ≤ x) (h1 : x < 18446744073709551616) : (bits .andNot .u64 x 15 == 1652522221568) = decide (x / 16 = 103282638848) := by
  rw [Ar.clear15 h0 h1]
  by_cases h : x / 16 = 103282638848
  · rw [decide_eq_true h, h]; rfl
  · rw [decide_eq_false h, beq_eq_false_iff_ne]; omega
set_option maxHeartbeats 1000000 in
set_option maxRecDepth 100000 in
theorem Reserved_calls (w : World) (a : Int) (a0 : 0 ≤ a) (a1 : a < 18446744073709551616) (r : Bool) (hr : decide (a / 16 = 103282638848) = r) :
    Calls Tryd.prog 18 #[.int .u64 a] w (Ret (fun _ => False) w fun v l => v = .bool r ∧ l = []) := by
  have H := Hp.nothing w
  have h := (andNot_15 a0 a1).trans hr
  have h2 : (bits .andNot .u64 a 15 == 1652522221568) = r := h
  clear hr h
  go_enter Tryd.func18, Tryd.ntmps18
  go_wp2
  go_ret
  exact ⟨_, _, rfl, ⟨by first | rfl | exact congrArg Value.bool h2 | simpa using h2, rfl⟩, H⟩

set_option maxHeartbeats 1000000 in
set_option maxRecDepth 100000 in
theorem Class_told (w : World) (a b q : Int) (A : Option Addr) (n c : Nat) (d : List Int) (a0 : 0 ≤ a) (a1 : a < 18446744073709551616) (hG : Glob w) (hd : (Kd.int .u8).C w A n d) (hc : n ≤ c) (hn : n ≤ 100000) (hB : isB a q d = true) :
    Calls Tryd.prog 9 #[.agg #[.int .u64 a, .int .u64 b, .int .u16 q, .slice A n c]] w (Ret (fun _ => False) w (fun v l => v = .int .i64 0 ∧ l = [])) := by
  have H := Hp.nothing w
  have h2n : n ≤ 100000 := hn
  clear hn
  replace h2n := Aside0.mk h2n
  replace hG := Aside0.mk hG
  replace hd := Aside0.mk hd
  replace hc := Aside0.mk hc
  replace hB := Aside0.mk hB
  replace a0 := Aside0.mk a0
  replace a1 := Aside0.mk a1
  go_enter Tryd.func9, Tryd.ntmps9
  go_wp2_with (first | (go_at_call 17; refine H.call0 (Open_all _ a b q A n c d (hG.out.hp H.only) (H.data hd.out) hc.out h2n.out) ?_; rintro v l1 w1 ⟨bv, hv, hl1⟩ H1; rw [hB.out] at hv; subst hv; subst hl1; replace H := H1; clear H1) | (go_at_call 18; refine H.call0 (Reserved_calls _ a a0.out a1.out _ hr.out) ?_; rintro v l1 w1 ⟨rfl, rfl⟩ H1; replace H := H1; clear H1) | ((with_reducible refine gate_dst (N := 1) rfl ?_); refine ev_ rfl (H.box rfl (by first | (go_simp; done) | (go_simp; rfl)) rfl) ?_; rintro _ w1 ⟨g1, rfl, H1⟩; (try simp only [Value.cells] at H1); replace H := H1; clear H1) | ((with_reducible refine gate_dst (N := 6) rfl ?_); refine Kd.event_run rfl (H.loadN 27 (.tmp 1) rfl rfl (by repeat (first | exact Pick.here _ | apply Pick.there)) #[.int .u64 a, .int .u64 b, .int .u16 q, .slice A n c] Tryd.underlying27 rfl info27s (fun j u hj => by simpa using hj)) ?_) | ((with_reducible refine gate_dst (N := 12) rfl ?_); refine Kd.event_run rfl (H.load1 23 (.tmp 11) rfl rfl (by repeat (first | exact Pick.here _ | apply Pick.there)) Tryd.underlying23 rfl rfl) ?_))
  go_ret
  exact ⟨_, _, rfl, ⟨rfl, rfl⟩, H.only⟩

set_option maxHeartbeats 1000000 in
set_option maxRecDepth 100000 in
theorem Class_kept (w : World) (a b q : Int) (A : Option Addr) (n c : Nat) (d : List Int) (a0 : 0 ≤ a) (a1 : a < 18446744073709551616) (hG : Glob w) (hd : (Kd.int .u8).C w A n d) (hc : n ≤ c) (hn : n ≤ 100000) (hB : isB a q d = false) (hr : decide (a / 16 = 103282638848) = true) :
    Calls Tryd.prog 9 #[.agg #[.int .u64 a, .int .u64 b, .int .u16 q, .slice A n c]] w (Ret (fun _ => False) w (fun v l => v = .int .i64 1 ∧ l = [])) := by
  have H := Hp.nothing w
  have h2n : n ≤ 100000 := hn
  clear hn
  replace h2n := Aside0.mk h2n
  replace hG := Aside0.mk hG
  replace hd := Aside0.mk hd
  replace hc := Aside0.mk hc
  replace hB := Aside0.mk hB
  replace hr := Aside0.mk hr
  replace a0 := Aside0.mk a0
  replace a1 := Aside0.mk a1
  go_enter Tryd.func9, Tryd.ntmps9
  go_wp2_with (first | (go_at_call 17; refine H.call0 (Open_all _ a b q A n c d (hG.out.hp H.only) (H.data hd.out) hc.out h2n.out) ?_; rintro v l1 w1 ⟨bv, hv, hl1⟩ H1; rw [hB.out] at hv; subst hv; subst hl1; replace H := H1; clear H1) | (go_at_call 18; refine H.call0 (Reserved_calls _ a a0.out a1.out _ hr.out) ?_; rintro v l1 w1 ⟨rfl, rfl⟩ H1; replace H := H1; clear H1) | ((with_reducible refine gate_dst (N := 1) rfl ?_); refine ev_ rfl (H.box rfl (by first | (go_simp; done) | (go_simp; rfl)) rfl) ?_; rintro _ w1 ⟨g1, rfl, H1⟩; (try simp only [Value.cells] at H1); replace H := H1; clear H1) | ((with_reducible refine gate_dst (N := 6) rfl ?_); refine Kd.event_run rfl (H.loadN 27 (.tmp 1) rfl rfl (by repeat (first | exact Pick.here _ | apply Pick.there)) #[.int .u64 a, .int .u64 b, .int .u16 q, .slice A n c] Tryd.underlying27 rfl info27s (fun j u hj => by simpa using hj)) ?_) | ((with_reducible refine gate_dst (N := 12) rfl ?_); refine Kd.event_run rfl (H.load1 23 (.tmp 11) rfl rfl (by repeat (first | exact Pick.here _ | apply Pick.there)) Tryd.underlying23 rfl rfl) ?_))
  go_ret
  exact ⟨_, _, rfl, ⟨rfl, rfl⟩, H.only⟩

set_option maxHeartbeats 1000000 in
set_option maxRecDepth 100000 in
theorem Class_data (w : World) (a b q : Int) (A : Option Addr) (n c : Nat) (d : List Int) (a0 : 0 ≤ a) (a1 : a < 18446744073709551616) (hG : Glob w) (hd : (Kd.int .u8).C w A n d) (hc : n ≤ c) (hn : n ≤ 100000) (hB : isB a q d = false) (hr : decide (a / 16 = 103282638848) = false) :
    Calls Tryd.prog 9 #[.agg #[.int .u64 a, .int .u64 b, .int .u16 q, .slice A n c]] w (Ret (fun _ => False) w (fun v l => v = .int .i64 2 ∧ l = [])) := by
  have H := Hp.nothing w
  have h2n : n ≤ 100000 := hn
  clear hn
  replace h2n := Aside0.mk h2n
  replace hG := Aside0.mk hG
  replace hd := Aside0.mk hd
  replace hc := Aside0.mk hc
  replace hB := Aside0.mk hB
  replace hr := Aside0.mk hr
  replace a0 := Aside0.mk a0
  replace a1 := Aside0.mk a1
  go_enter Tryd.func9, Tryd.ntmps9
  go_wp2_with (first | (go_at_call 17; refine H.call0 (Open_all _ a b q A n c d (hG.out.hp H.only) (H.data hd.out) hc.out h2n.out) ?_; rintro v l1 w1 ⟨bv, hv, hl1⟩ H1; rw [hB.out] at hv; subst hv; subst hl1; replace H := H1; clear H1) | (go_at_call 18; refine H.call0 (Reserved_calls _ a a0.out a1.out _ hr.out) ?_; rintro v l1 w1 ⟨rfl, rfl⟩ H1; replace H := H1; clear H1) | ((with_reducible refine gate_dst (N := 1) rfl ?_); refine ev_ rfl (H.box rfl (by first | (go_simp; done) | (go_simp; rfl)) rfl) ?_; rintro _ w1 ⟨g1, rfl, H1⟩; (try simp only [Value.cells] at H1); replace H := H1; clear H1) | ((with_reducible refine gate_dst (N := 6) rfl ?_); refine Kd.event_run rfl (H.loadN 27 (.tmp 1) rfl rfl (by repeat (first | exact Pick.here _ | apply Pick.there)) #[.int .u64 a, .int .u64 b, .int .u16 q, .slice A n c] Tryd.underlying27 rfl info27s (fun j u hj => by simpa using hj)) ?_) | ((with_reducible refine gate_dst (N := 12) rfl ?_); refine Kd.event_run rfl (H.load1 23 (.tmp 11) rfl rfl (by repeat (first | exact Pick.here _ | apply Pick.there)) Tryd.underlying23 rfl rfl) ?_))
  go_ret
  exact ⟨_, _, rfl, ⟨rfl, rfl⟩, H.only⟩

theorem Class_all (w : World) (a b q : Int) (A : Option Addr) (n c : Nat) (d : List Int) (a0 : 0 ≤ a) (a1 : a < 18446744073709551616) (hG : Glob w) (hd : (Kd.int .u8).C w A n d) (hc : n ≤ c) (hn : n ≤ 100000) :
    Calls Tryd.prog 9 #[.agg #[.int .u64 a, .int .u64 b, .int .u16 q, .slice A n c]] w (Ret (fun _ => False) w fun v l => v = .int .i64 (clsOf a q d) ∧ l = []) := by
  unfold clsOf
  cases hB : isB a q d
  · by_cases hr : a / 16 = 103282638848
    · rw [if_neg (by simp), if_pos hr]
      exact Class_kept w a b q A n c d a0 a1 hG hd hc hn hB (decide_eq_true hr)
    · rw [if_neg (by simp), if_neg hr]
      exact Class_data w a b q A n c d a0 a1 hG hd hc hn hB (decide_eq_false hr)
  · rw [if_pos rfl]
    exact Class_told w a b q A n c d a0 a1 hG hd hc hn hB

set_option maxHeartbeats 1000000 in
set_option maxRecDepth 100000 in
theorem RefClass_told (w : World) (a b q : Int) (A : Option Addr) (n c : Nat) (d : List Int) (a0 : 0 ≤ a) (a1 : a < 18446744073709551616) (hG : Glob w) (hd : (Kd.int .u8).C w A n d) (hc : n ≤ c) (hn : n ≤ 100000) (hB : isB a q d = true) :
    Calls Tryd.prog 11 #[.agg #[.int .u64 a, .int .u64 b, .int .u16 q, .slice A n c]] w (Ret (fun _ => False) w (fun v l => v = .int .i64 0 ∧ l = [])) := by
  have H := Hp.nothing w
  have h2n : n ≤ 100000 := hn
  clear hn
  replace h2n := Aside0.mk h2n
  replace hG := Aside0.mk hG
  replace hd := Aside0.mk hd
  replace hc := Aside0.mk hc
  replace hB := Aside0.mk hB
  go_enter Tryd.func11, Tryd.ntmps11
  go_wp2_with (first | (go_at_call 19; refine H.call0 (RefOpen_all _ a b q A n c d (H.data hd.out) hc.out) ?_; rintro v l1 w1 ⟨hv, rfl⟩ H1; rw [hB.out] at hv; simp only [if_true, Bool.false_eq_true, if_false] at hv; subst hv; replace H := H1; clear H1) | ((with_reducible refine gate_dst (N := 1) rfl ?_); refine ev_ rfl (H.box rfl (by first | (go_simp; done) | (go_simp; rfl)) rfl) ?_; rintro _ w1 ⟨g1, rfl, H1⟩; (try simp only [Value.cells] at H1); replace H := H1; clear H1) | ((with_reducible refine gate_dst (N := 6) rfl ?_); refine Kd.event_run rfl (H.loadN 27 (.tmp 1) rfl rfl (by repeat (first | exact Pick.here _ | apply Pick.there)) #[.int .u64 a, .int .u64 b, .int .u16 q, .slice A n c] Tryd.underlying27 rfl info27s (fun j u hj => by simpa using hj)) ?_) | ((with_reducible refine gate_dst (N := 13) rfl ?_); refine Kd.event_run rfl (H.load1 23 (.tmp 12) rfl rfl (by repeat (first | exact Pick.here _ | apply Pick.there)) Tryd.underlying23 rfl rfl) ?_))
  go_ret
  exact ⟨_, _, rfl, ⟨rfl, rfl⟩, H.only⟩

set_option maxHeartbeats 1000000 in
set_option maxRecDepth 100000 in
theorem RefClass_kept (w : World) (a b q : Int) (A : Option Addr) (n c : Nat) (d : List Int) (a0 : 0 ≤ a) (a1 : a < 18446744073709551616) (hG : Glob w) (hd : (Kd.int .u8).C w A n d) (hc : n ≤ c) (hn : n ≤ 100000) (hB : isB a q d = false) (hr : decide (a / 16 = 103282638848) = true) :
    Calls Tryd.prog 11 #[.agg #[.int .u64 a, .int .u64 b, .int .u16 q, .slice A n c]] w (Ret (fun _ => False) w (fun v l => v = .int .i64 1 ∧ l = [])) := by
  have H := Hp.nothing w
  have hq2 : (a / 16 == 103282638848) = true := by
    have := hr; simp at this; simp [this]
  have h2n : n ≤ 100000 := hn
  clear hn
  replace h2n := Aside0.mk h2n
  replace hG := Aside0.mk hG
  replace hd := Aside0.mk hd
  replace hc := Aside0.mk hc
  replace hB := Aside0.mk hB
  have e1 := of_decide_eq_true hr
  clear hr hq2
  have hq3 : decide (a / 16 = 103282638848) = true := decide_eq_true e1
  have hq4 : (a / 16 == 103282638848) = true := by simpa using e1
  clear e1
  go_enter Tryd.func11, Tryd.ntmps11
  go_wp2_with (first | (go_at_call 19; refine H.call0 (RefOpen_all _ a b q A n c d (H.data hd.out) hc.out) ?_; rintro v l1 w1 ⟨hv, rfl⟩ H1; rw [hB.out] at hv; simp only [if_true, Bool.false_eq_true, if_false] at hv; subst hv; replace H := H1; clear H1) | ((with_reducible refine gate_dst (N := 1) rfl ?_); refine ev_ rfl (H.box rfl (by first | (go_simp; done) | (go_simp; rfl)) rfl) ?_; rintro _ w1 ⟨g1, rfl, H1⟩; (try simp only [Value.cells] at H1); replace H := H1; clear H1) | ((with_reducible refine gate_dst (N := 6) rfl ?_); refine Kd.event_run rfl (H.loadN 27 (.tmp 1) rfl rfl (by repeat (first | exact Pick.here _ | apply Pick.there)) #[.int .u64 a, .int .u64 b, .int .u16 q, .slice A n c] Tryd.underlying27 rfl info27s (fun j u hj => by simpa using hj)) ?_) | ((with_reducible refine gate_dst (N := 13) rfl ?_); refine Kd.event_run rfl (H.load1 23 (.tmp 12) rfl rfl (by repeat (first | exact Pick.here _ | apply Pick.there)) Tryd.underlying23 rfl rfl) ?_))
  go_ret
  exact ⟨_, _, rfl, ⟨rfl, rfl⟩, H.only⟩

set_option maxHeartbeats 1000000 in
set_option maxRecDepth 100000 in
theorem RefClass_data (w : World) (a b q : Int) (A : Option Addr) (n c : Nat) (d : List Int) (a0 : 0 ≤ a) (a1 : a < 18446744073709551616) (hG : Glob w) (hd : (Kd.int .u8).C w A n d) (hc : n ≤ c) (hn : n ≤ 100000) (hB : isB a q d = false) (hr : decide (a / 16 = 103282638848) = false) :
    Calls Tryd.prog 11 #[.agg #[.int .u64 a, .int .u64 b, .int .u16 q, .slice A n c]] w (Ret (fun _ => False) w (fun v l => v = .int .i64 2 ∧ l = [])) := by
  have H := Hp.nothing w
  have hq2 : (a / 16 == 103282638848) = false := by
    have := hr; simp at this; simp [this]
  have h2n : n ≤ 100000 := hn
  clear hn
  replace h2n := Aside0.mk h2n
  replace hG := Aside0.mk hG
  replace hd := Aside0.mk hd
  replace hc := Aside0.mk hc
  replace hB := Aside0.mk hB
  have e1 := of_decide_eq_false hr
  clear hr hq2
  have hq3 : decide (a / 16 = 103282638848) = false := decide_eq_false e1
  have hq4 : (a / 16 == 103282638848) = false := by simpa using e1
  clear e1
  go_enter Tryd.func11, Tryd.ntmps11
  go_wp2_with (first | (go_at_call 19; refine H.call0 (RefOpen_all _ a b q A n c d (H.data hd.out) hc.out) ?_; rintro v l1 w1 ⟨hv, rfl⟩ H1; rw [hB.out] at hv; simp only [if_true, Bool.false_eq_true, if_false] at hv; subst hv; replace H := H1; clear H1) | ((with_reducible refine gate_dst (N := 1) rfl ?_); refine ev_ rfl (H.box rfl (by first | (go_simp; done) | (go_simp; rfl)) rfl) ?_; rintro _ w1 ⟨g1, rfl, H1⟩; (try simp only [Value.cells] at H1); replace H := H1; clear H1) | ((with_reducible refine gate_dst (N := 6) rfl ?_); refine Kd.event_run rfl (H.loadN 27 (.tmp 1) rfl rfl (by repeat (first | exact Pick.here _ | apply Pick.there)) #[.int .u64 a, .int .u64 b, .int .u16 q, .slice A n c] Tryd.underlying27 rfl info27s (fun j u hj => by simpa using hj)) ?_) | ((with_reducible refine gate_dst (N := 13) rfl ?_); refine Kd.event_run rfl (H.load1 23 (.tmp 12) rfl rfl (by repeat (first | exact Pick.here _ | apply Pick.there)) Tryd.underlying23 rfl rfl) ?_))
  go_ret
  exact ⟨_, _, rfl, ⟨rfl, rfl⟩, H.only⟩

theorem RefClass_all (w : World) (a b q : Int) (A : Option Addr) (n c : Nat) (d : List Int) (a0 : 0 ≤ a) (a1 : a < 18446744073709551616) (hG : Glob w) (hd : (Kd.int .u8).C w A n d) (hc : n ≤ c) (hn : n ≤ 100000) :
    Calls Tryd.prog 11 #[.agg #[.int .u64 a, .int .u64 b, .int .u16 q, .slice A n c]] w (Ret (fun _ => False) w fun v l => v = .int .i64 (clsOf a q d) ∧ l = []) := by
  unfold clsOf
  cases hB : isB a q d
  · by_cases hr : a / 16 = 103282638848
    · rw [if_neg (by simp), if_pos hr]
      exact RefClass_kept w a b q A n c d a0 a1 hG hd hc hn hB (decide_eq_true hr)
    · rw [if_neg (by simp), if_neg hr]
      exact RefClass_data w a b q A n c d a0 a1 hG hd hc hn hB (decide_eq_false hr)
  · rw [if_pos rfl]
    exact RefClass_told w a b q A n c d a0 a1 hG hd hc hn hB

end Go.Proofs.YtkgfpagfmdefgaaDoor.Llc
