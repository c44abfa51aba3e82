/- The law BpduGets over what its functions come to. Walked by hand. -/
import Derived.Test.YtdmlpcbmmdddbaaOBpduGetsx2
import Derived.Test.YtdmlpcbmmdddbaaBpduH
import Derived.Test.YtdmlpcbmmdddbaaAr
namespace Go.Proofs.Ytdmlpcbmmdddbaa.Pure
open Go.RowKit Go.Proofs.YtdmlpcbmmdddbaaW.PrintWords Go.Proofs.YtdmlpcbmmdddbaaW.PrintLast Go.Proofs.YtdmlpcbmmdddbaaW.PrintMore
set_option linter.unusedVariables false
set_option linter.unusedSimpArgs false
open Go.Proofs.Ytdmlpcbmmdddbaa.Sep Go.Proofs.Ytdmlpcbmmdddbaa.Wire Go.Proofs.Ytdmlpcbmmdddbaa.Bpdu Go.Proofs.Ytdmlpcbmmdddbaa
theorem For_some (l : List Int) (hl : l.length ≤ 100000) (hby : ∀ y ∈ l, 0 ≤ y ∧ y ≤ 255) (b1 p1 : Int) : ∃ s, OBpduGets.bpdu_For.f l b1 p1 = some s := by
  obtain ⟨r, hr⟩ : ∃ r, OBpduGets.bpdu_Get.f l = some r := ⟨_, by unfold OBpduGets.bpdu_Get.f; rw [if_pos ⟨hl, hby⟩]⟩
  unfold OBpduGets.bpdu_For.f
  rw [hr]
  simp only [Option.bind_some]
  repeat' split
  all_goals exact ⟨_, rfl⟩
theorem For_ref (l : List Int) (b1 p1 : Int) : OBpduGets.treelineref05_For.f l b1 p1 = OBpduGets.bpdu_For.f l b1 p1 := by
  have h : OBpduGets.treelineref05_Get.f l = OBpduGets.bpdu_Get.f l := by unfold OBpduGets.treelineref05_Get.f OBpduGets.bpdu_Get.f; rfl
  unfold OBpduGets.treelineref05_For.f OBpduGets.bpdu_For.f
  rw [h]

set_option maxHeartbeats 1000000 in
set_option maxRecDepth 100000 in
theorem Gets_few (w : World) (A : Option Addr) (n c : Nat) (bs : List Int) (b1 p1 : Int) (hb : (Kd.int .u8).C w A n bs) (hc : n ≤ c) (hn : n ≤ 2000) (hby : ∀ y ∈ bs, 0 ≤ y ∧ y ≤ 255) :
    Calls Try.prog 11 #[.slice A n c, .int .u64 b1, .int .u16 p1] w (fun e w' => e = .returned (.bool true) ∧ Below w.heap.size w w') := by
  have H := Hp.nothing w
  obtain rfl : bs.length = n := hb.1
  obtain ⟨r, hr⟩ : ∃ r, getB bs = r := ⟨_, rfl⟩
  obtain ⟨⟨m0, m1, m2, m3, m4, m5, m6, m7, m8, m9, m10⟩, m11⟩ := r
  obtain ⟨s, hs⟩ := For_some bs (by omega) hby b1 p1
  obtain ⟨s0, s1, s2, s3, s4, s5, s6, s7, s8, s9, s10, s11⟩ := s
  have hs2 := (For_ref bs b1 p1).trans hs
  have d1 : decide (2000 < bs.length) = false := decide_eq_false (by omega)
  have d2 : decide ((2000 : Int) < (bs.length : Int)) = false := decide_eq_false (by omega)
  replace hr := Aside0.mk hr
  replace hs := Aside0.mk hs
  replace hs2 := Aside0.mk hs2
  replace hb := Aside0.mk hb
  replace hc := Aside0.mk hc
  replace hby := Aside0.mk hby
  have hn2 := Aside0.mk hn
  clear hn
  go_enter Try.func11, Try.ntmps11
  go_wp2_with (first | ((with_reducible refine gate_dst (N := 7) rfl ?_); refine ev_ rfl (H.new (cs := #[.bool false, .bool false, .bool false, .int .u64 0, .int .u32 0, .int .u64 0, .int .u16 0, .int .u16 0, .int .u16 0, .int .u16 0, .int .u16 0]) (t := 48) (by first | (go_simp; done) | (go_simp; rfl))) ?_; rintro _ w1 ⟨g7, rfl, H1⟩; replace H := H1; clear H1) | ((with_reducible refine gate_store (p := 7) rfl ?_); refine ev_ rfl (H.store 48 (.tmp 7) (.tmp 26) rfl rfl (by repeat (first | exact Pick.here _ | apply Pick.there)) (by first | (go_simp; done) | (go_simp; rfl)) _ rfl info48s (by simp [Value.oneCell', Value.cells]) (by simp [Value.cells]) rfl) ?_; rintro _ w1 ⟨rfl, H1⟩; (try simp only [putsAt, Value.cells, List.setIfInBounds_toArray, List.set_cons_zero, List.set_cons_succ, List.toList_toArray] at H1); replace H := H1; clear H1) | ((with_reducible refine gate_dst (N := 9) rfl ?_); refine ev_ rfl (H.new (cs := #[.bool false, .bool false, .bool false, .int .u64 0, .int .u32 0, .int .u64 0, .int .u16 0, .int .u16 0, .int .u16 0, .int .u16 0, .int .u16 0]) (t := 48) (by first | (go_simp; done) | (go_simp; rfl))) ?_; rintro _ w1 ⟨g9, rfl, H1⟩; replace H := H1; clear H1) | ((with_reducible refine gate_store (p := 9) rfl ?_); refine ev_ rfl (H.store 48 (.tmp 9) (.tmp 31) rfl rfl (by repeat (first | exact Pick.here _ | apply Pick.there)) (by first | (go_simp; done) | (go_simp; rfl)) _ rfl info48s (by simp [Value.oneCell', Value.cells]) (by simp [Value.cells]) rfl) ?_; rintro _ w1 ⟨rfl, H1⟩; (try simp only [putsAt, Value.cells, List.setIfInBounds_toArray, List.set_cons_zero, List.set_cons_succ, List.toList_toArray] at H1); replace H := H1; clear H1) | ((with_reducible refine gate_dst (N := 11) rfl ?_); refine ev_ rfl (H.new (cs := #[.bool false, .bool false, .bool false, .int .u64 0, .int .u32 0, .int .u64 0, .int .u16 0, .int .u16 0, .int .u16 0, .int .u16 0, .int .u16 0]) (t := 48) (by first | (go_simp; done) | (go_simp; rfl))) ?_; rintro _ w1 ⟨g11, rfl, H1⟩; replace H := H1; clear H1) | ((with_reducible refine gate_store (p := 11) rfl ?_); refine ev_ rfl (H.store 48 (.tmp 11) (.tmp 38) rfl rfl (by repeat (first | exact Pick.here _ | apply Pick.there)) (by first | (go_simp; done) | (go_simp; rfl)) _ rfl info48s (by simp [Value.oneCell', Value.cells]) (by simp [Value.cells]) rfl) ?_; rintro _ w1 ⟨rfl, H1⟩; (try simp only [putsAt, Value.cells, List.setIfInBounds_toArray, List.set_cons_zero, List.set_cons_succ, List.toList_toArray] at H1); replace H := H1; clear H1) | ((with_reducible refine gate_dst (N := 13) rfl ?_); refine ev_ rfl (H.new (cs := #[.bool false, .bool false, .bool false, .int .u64 0, .int .u32 0, .int .u64 0, .int .u16 0, .int .u16 0, .int .u16 0, .int .u16 0, .int .u16 0]) (t := 48) (by first | (go_simp; done) | (go_simp; rfl))) ?_; rintro _ w1 ⟨g13, rfl, H1⟩; replace H := H1; clear H1) | ((with_reducible refine gate_store (p := 13) rfl ?_); refine ev_ rfl (H.store 48 (.tmp 13) (.tmp 45) rfl rfl (by repeat (first | exact Pick.here _ | apply Pick.there)) (by first | (go_simp; done) | (go_simp; rfl)) _ rfl info48s (by simp [Value.oneCell', Value.cells]) (by simp [Value.cells]) rfl) ?_; rintro _ w1 ⟨rfl, H1⟩; (try simp only [putsAt, Value.cells, List.setIfInBounds_toArray, List.set_cons_zero, List.set_cons_succ, List.toList_toArray] at H1); replace H := H1; clear H1) | ((with_reducible refine gate_dst (N := 47) rfl ?_); refine Kd.event_run rfl (H.loadN 48 (.tmp 7) rfl rfl (by repeat (first | exact Pick.here _ | apply Pick.there)) #[.bool m0, .bool m1, .bool m2, .int .u64 m3, .int .u32 m4, .int .u64 m5, .int .u16 m6, .int .u16 m7, .int .u16 m8, .int .u16 m9, .int .u16 m10] Try.underlying48 rfl info48s (fun j u hj => by simpa using hj)) ?_) | ((with_reducible refine gate_dst (N := 48) rfl ?_); refine Kd.event_run rfl (H.loadN 48 (.tmp 9) rfl rfl (by repeat (first | exact Pick.here _ | apply Pick.there)) #[.bool m0, .bool m1, .bool m2, .int .u64 m3, .int .u32 m4, .int .u64 m5, .int .u16 m6, .int .u16 m7, .int .u16 m8, .int .u16 m9, .int .u16 m10] Try.underlying48 rfl info48s (fun j u hj => by simpa using hj)) ?_) | ((with_reducible refine gate_dst (N := 56) rfl ?_); refine gate_guard (by rfl) ?_; dsimp only; refine Kd.event_run rfl (H.loadN 48 (.tmp 11) rfl rfl (by repeat (first | exact Pick.here _ | apply Pick.there)) #[.bool s0, .bool s1, .bool s2, .int .u64 s3, .int .u32 s4, .int .u64 s5, .int .u16 s6, .int .u16 s7, .int .u16 s8, .int .u16 s9, .int .u16 s10] Try.underlying48 rfl info48s (fun j u hj => by simpa using hj)) ?_) | ((with_reducible refine gate_dst (N := 57) rfl ?_); refine gate_guard (by rfl) ?_; dsimp only; refine Kd.event_run rfl (H.loadN 48 (.tmp 13) rfl rfl (by repeat (first | exact Pick.here _ | apply Pick.there)) #[.bool s0, .bool s1, .bool s2, .int .u64 s3, .int .u32 s4, .int .u64 s5, .int .u16 s6, .int .u16 s7, .int .u16 s8, .int .u16 s9, .int .u16 s10] Try.underlying48 rfl info48s (fun j u hj => by simpa using hj)) ?_) | (go_at_call 23; refine H.call1 (awake_calls _) ?_; intro w1 H1; replace H := H1; clear H1) | (go_at_call 26; refine H.call0 (Get_all _ A bs.length c bs (H.data hb.out) hc.out (by have := hn2.out; omega) hby.out) ?_; rintro v l1 w1 ⟨hv, rfl⟩ H1; rw [hr.out] at hv; dsimp only at hv; subst hv; replace H := H1; clear H1) | (go_at_call 27; refine H.call0 (RefGet_all _ A bs.length c bs (H.data hb.out) hc.out (by have := hn2.out; omega) hby.out) ?_; rintro v l1 w1 ⟨hv, rfl⟩ H1; rw [hr.out] at hv; dsimp only at hv; subst hv; replace H := H1; clear H1) | (go_at_call 28; refine H.call1 (OBpduGets.bpdu_For.calls A c bs b1 p1 s0 s1 s2 s3 s4 s5 s6 s7 s8 s9 s10 s11 _ (H.data hb.out) hc.out hs.out) ?_; intro w1 H1; replace H := H1; clear H1) | (go_at_call 29; refine H.call1 (OBpduGets.treelineref05_For.calls A c bs b1 p1 s0 s1 s2 s3 s4 s5 s6 s7 s8 s9 s10 s11 _ (H.data hb.out) hc.out hs2.out) ?_; intro w1 H1; replace H := H1; clear H1))
  go_ret
  exact ⟨rfl, H.below⟩

set_option maxHeartbeats 1000000 in
set_option maxRecDepth 100000 in
theorem Gets_many (w : World) (A : Option Addr) (n c : Nat) (b1 p1 : Int) (hn : 2000 < n) :
    Calls Try.prog 11 #[.slice A n c, .int .u64 b1, .int .u16 p1] w (fun e w' => e = .returned (.bool true) ∧ Below w.heap.size w w') := by
  have H := Hp.nothing w
  have d1 : decide (2000 < n) = true := decide_eq_true hn
  have d2 : decide ((2000 : Int) < (n : Int)) = true := decide_eq_true (by omega)
  clear hn
  go_enter Try.func11, Try.ntmps11
  go_wp2_with (first | (go_at_call 23; refine H.call1 (awake_calls _) ?_; intro w1 H1; replace H := H1; clear H1))
  go_ret
  exact ⟨rfl, H.below⟩
theorem BpduGets (W : World) (l : List Int) (b1 p1 : Int) (w0 : ∀ y ∈ l, (Lit.int .u8 y).wf = true) (w1 : (Lit.int .u64 b1).wf = true) (w2 : (Lit.int .u16 p1).wf = true) {A : Option Addr} {c : Nat} (hC : (Kd.int .u8).C W A l.length l) (hc : l.length ≤ c) :
    Calls Try.prog 11 #[.slice A l.length c, .int .u64 b1, .int .u16 p1] W (fun e w' => e = .returned (.bool true) ∧ Below W.heap.size W w') := by
  by_cases h : l.length ≤ 2000
  · exact Gets_few W A _ c l b1 p1 hC hc h (fun y hy => by have := Ar.wf_u8 (w0 y hy); omega)
  · exact Gets_many W A _ c b1 p1 (by omega)

end Go.Proofs.Ytdmlpcbmmdddbaa.Pure
