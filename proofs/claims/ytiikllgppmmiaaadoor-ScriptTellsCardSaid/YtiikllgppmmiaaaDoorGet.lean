import Derived.Test.YtiikllgppmmiaaaDoorWire
namespace Go.Proofs.YtiikllgppmmiaaaDoor.FrameG
open Go.RowKit Go.Proofs.YtiikllgppmmiaaaDoorW.PrintWords Go.Proofs.YtiikllgppmmiaaaDoorW.PrintLast Go.Proofs.YtiikllgppmmiaaaDoorW.PrintMore
set_option linter.unusedVariables false
set_option linter.unusedSimpArgs false
open Go.Proofs.YtiikllgppmmiaaaDoor.Sep Go.Proofs.YtiikllgppmmiaaaDoor.Wire
theorem info22s : (Tryd.prog.info? 22).map (·.size) = some 1 := by kernel_rfl
theorem info43s : (Tryd.prog.info? 43).map (·.size) = some 4 := by kernel_rfl
set_option maxHeartbeats 1000000 in
set_option maxRecDepth 100000 in
theorem Check_fit (w : World) (a b q : Int) (A : Option Addr) (n c : Nat) (a0 : 0 ≤ a) (a1 : a < 281474976710656) (b0 : 0 ≤ b) (b1 : b < 281474976710656) (q0 : 0 ≤ q) (q1 : q < 65536) (h : n ≤ 1500) (h2 : q = (n : Int)) :
    Calls Tryd.prog 27 #[.agg #[.int .u64 a, .int .u64 b, .int .u16 q, .slice A n c]] w (Ret (fun _ => False) w fun v l => v = .int .i64 0 ∧ l = []) := by
  have H := Hp.nothing w
  have ca : decide (281474976710656 ≤ a) = false := decide_eq_false (by omega)
  have cb : decide (281474976710656 ≤ b) = false := decide_eq_false (by omega)
  subst h2
  have c1 : decide ((1500 : Int) < (n : Int)) = false := decide_eq_false (by omega)
  have c1' : decide (1500 < n) = false := decide_eq_false (by omega)
  have c3 : decide ((n : Int) ≤ 1500) = true := decide_eq_true (by omega)
  have c3' : decide (n ≤ 1500) = true := decide_eq_true (by omega)
  go_enter Tryd.func27, Tryd.ntmps27
  go_wp2_with (first | ((with_reducible refine gate_dst (N := 1) rfl ?_); refine ev_ rfl (H.box rfl (by first | (go_simp; done) | (go_simp; rfl)) rfl) ?_; rintro _ w1 ⟨g1, rfl, H1⟩; (try simp only [Value.cells] at H1); replace H := H1; clear H1) | ((with_reducible refine gate_dst (N := 5) rfl ?_); refine Kd.event_run rfl (H.load1 37 (.tmp 4) rfl rfl (by repeat (first | exact Pick.here _ | apply Pick.there)) Tryd.underlying37 rfl rfl) ?_) | ((with_reducible refine gate_dst (N := 9) rfl ?_); refine gate_guard (by rfl) ?_; dsimp only; refine Kd.event_run rfl (H.load1 37 (.tmp 8) rfl rfl (by repeat (first | exact Pick.here _ | apply Pick.there)) Tryd.underlying37 rfl rfl) ?_) | ((with_reducible refine gate_dst (N := 14) rfl ?_); refine Kd.event_run rfl (H.load1 22 (.tmp 13) rfl rfl (by repeat (first | exact Pick.here _ | apply Pick.there)) Tryd.underlying22 rfl rfl) ?_) | ((with_reducible refine gate_dst (N := 19) rfl ?_); refine Kd.event_run rfl (H.load1 41 (.tmp 18) rfl rfl (by repeat (first | exact Pick.here _ | apply Pick.there)) Tryd.underlying41 rfl rfl) ?_) | ((with_reducible refine gate_dst (N := 23) rfl ?_); refine gate_guard (by rfl) ?_; dsimp only; refine Kd.event_run rfl (H.load1 41 (.tmp 22) rfl rfl (by repeat (first | exact Pick.here _ | apply Pick.there)) Tryd.underlying41 rfl rfl) ?_) | ((with_reducible refine gate_dst (N := 28) rfl ?_); refine Kd.event_run rfl (H.load1 41 (.tmp 27) rfl rfl (by repeat (first | exact Pick.here _ | apply Pick.there)) Tryd.underlying41 rfl rfl) ?_) | ((with_reducible refine gate_dst (N := 32) rfl ?_); refine gate_guard (by rfl) ?_; dsimp only; refine Kd.event_run rfl (H.load1 41 (.tmp 31) rfl rfl (by repeat (first | exact Pick.here _ | apply Pick.there)) Tryd.underlying41 rfl rfl) ?_) | ((with_reducible refine gate_dst (N := 35) rfl ?_); refine gate_guard (by rfl) ?_; dsimp only; refine Kd.event_run rfl (H.load1 22 (.tmp 34) rfl rfl (by repeat (first | exact Pick.here _ | apply Pick.there)) Tryd.underlying22 rfl rfl) ?_))
  go_ret
  exact ⟨_, _, rfl, ⟨rfl, rfl⟩, H.only⟩
/-- The receiver, the sender, the kind, the data and what is wrong, of a frame's bytes. -/
def kindL (bs : List Int) : Int := numR ((bs.drop 12).take 2)
def getF (bs : List Int) : Int × Int × Int × List Int × Int :=
  if bs.length < 14 then (0, 0, 0, [], 2)
  else if kindL bs ≤ 1500 then (if ((bs.length - 14 : Nat) : Int) < kindL bs then (0, 0, 0, [], 2) else (numR ((bs.drop 0).take 6), numR ((bs.drop 6).take 6), kindL bs, (bs.drop 14).take (kindL bs).toNat, 0))
  else if kindL bs < 1536 then (0, 0, 0, [], 3)
  else if 1500 < bs.length - 14 then (0, 0, 0, [], 4)
  else (numR ((bs.drop 0).take 6), numR ((bs.drop 6).take 6), kindL bs, bs.drop 14, 0)
/-- A frame and what is wrong, as a call answers them. -/
def frAns (r : Int × Int × Int × List Int × Int) (v : Value) (l : List SP) : Prop := ∃ dv, v = .tuple #[.agg #[.int .u64 r.1, .int .u64 r.2.1, .int .u16 r.2.2.1, dv], .int .i64 r.2.2.2.2] ∧ l = [row (Kd.int .u8) 5 dv r.2.2.2.1]
set_option maxHeartbeats 1000000 in
set_option maxRecDepth 100000 in
theorem Get_fit (w : World) (A : Option Addr) (n c : Nat) (bs : List Int) (hb : (Kd.int .u8).C w A n bs) (hc : n ≤ c) (hn : n ≤ 100000) (hby : ∀ y ∈ bs, 0 ≤ y ∧ y ≤ 255) (h14 : 14 ≤ bs.length) (t s : Int) (k : Nat) (hTe : numR ((bs.drop 0).take 6) = t) (hSe : numR ((bs.drop 6).take 6) = s) (hKe : numR ((bs.drop 12).take 2) = (k : Int)) (hk : k ≤ 1500) (hl : 14 + k ≤ bs.length) :
    Calls Tryd.prog 14 #[.slice A n c] w (Ret (fun _ => False) w (frAns (getF bs))) := by
  have H := Hp.nothing w
  obtain rfl : bs.length = n := hb.1
  replace hb := Aside0.mk hb
  replace hc := Aside0.mk hc
  have hn2 := Aside0.mk hn
  have hg : getF bs = (t, s, (k : Int), (bs.drop 14).take k, 0) := by
    unfold getF kindL
    rw [if_neg (by omega), hKe, hTe, hSe]
    rw [if_pos (by omega), if_neg (by omega), Int.toNat_natCast]
  rw [hg]
  have hT := numLR_drop bs hby 0 6
  have hS := numLR_drop bs hby 6 6
  have hK := numLR_drop bs hby 12 2
  have rT := numR_lt ((bs.drop 0).take 6) (bytes_part hby 0 6) 6 (by simp; omega) (by decide)
  have rS := numR_lt ((bs.drop 6).take 6) (bytes_part hby 6 6) 6 (by simp; omega) (by decide)
  have rK := numR_lt ((bs.drop 12).take 2) (bytes_part hby 12 2) 2 (by simp; omega) (by decide)
  rw [hTe] at hT rT
  rw [hSe] at hS rS
  rw [hKe] at hK rK
  have t0 : 0 ≤ t := rT.1
  have t1 : t < 281474976710656 := rT.2
  have s0 : 0 ≤ s := rS.1
  have s1 : s < 281474976710656 := rS.2
  have k1 : k < 65536 := by have := rK.2; simp at this; omega
  clear rT rS rK hTe hSe hKe hby hg
  replace hT := Aside0.mk hT
  replace hS := Aside0.mk hS
  replace hK := Aside0.mk hK
  replace h14 := Aside0.mk h14
  have c1 : decide (k ≤ 1500) = true := decide_eq_true (by omega)
  have c1I : decide ((k : Int) ≤ 1500) = true := decide_eq_true (by omega)
  replace hl := Aside0.mk hl
  go_enter Tryd.func14, Tryd.ntmps14
  go_wp2_with (first | ((with_reducible refine gate_dst (N := 2) rfl ?_); refine ev_ rfl (H.new (cs := #[.int .u64 0, .int .u64 0, .int .u16 0, .slice none 0 0]) (t := 43) (by first | (go_simp; done) | (go_simp; rfl))) ?_; rintro _ w1 ⟨g2, rfl, H1⟩; replace H := H1; clear H1) | ((with_reducible refine gate_dst (N := 5) rfl ?_); refine ev_ rfl (H.new (cs := #[.int .u64 0, .int .u64 0, .int .u16 0, .slice none 0 0]) (t := 43) (by first | (go_simp; done) | (go_simp; rfl))) ?_; rintro _ w1 ⟨g5, rfl, H1⟩; replace H := H1; clear H1) | ((with_reducible refine gate_store (p := 5) rfl ?_); refine ev_ rfl (H.store 43 (.tmp 5) (.tmp 16) rfl rfl (by repeat (first | exact Pick.here _ | apply Pick.there)) (by first | (go_simp; done) | (go_simp; rfl)) _ rfl info43s (by simp [Value.oneCell', Value.cells]) (by simp [Value.cells]) rfl) ?_; rintro _ w1 ⟨rfl, H1⟩; (try simp only [putsAt, Value.cells, List.setIfInBounds_toArray, List.set_cons_zero, List.set_cons_succ, List.toList_toArray] at H1); replace H := H1; clear H1) | ((with_reducible refine gate_store (p := 2) rfl ?_); refine ev_ rfl (H.store 43 (.tmp 2) (.tmp 19) rfl rfl (by repeat (first | exact Pick.here _ | apply Pick.there)) (by first | (go_simp; done) | (go_simp; rfl)) _ rfl info43s (by simp [Value.oneCell', Value.cells]) (by simp [Value.cells]) rfl) ?_; rintro _ w1 ⟨rfl, H1⟩; (try simp only [putsAt, Value.cells, List.setIfInBounds_toArray, List.set_cons_zero, List.set_cons_succ, List.toList_toArray] at H1); replace H := H1; clear H1) | ((with_reducible refine gate_dst (N := 25) rfl ?_); refine Kd.event_run rfl (H.load1 41 (.tmp 24) rfl rfl (by repeat (first | exact Pick.here _ | apply Pick.there)) Tryd.underlying41 rfl rfl) ?_) | ((with_reducible refine gate_dst (N := 29) rfl ?_); refine Kd.event_run rfl (H.load1 41 (.tmp 28) rfl rfl (by repeat (first | exact Pick.here _ | apply Pick.there)) Tryd.underlying41 rfl rfl) ?_) | ((with_reducible refine gate_store (p := 32) rfl ?_); refine ev_ rfl (H.store 22 (.tmp 32) (.tmp 31) rfl rfl (by repeat (first | exact Pick.here _ | apply Pick.there)) (by first | (go_simp; done) | (go_simp; rfl)) _ rfl info22s (by simp [Value.oneCell', Value.cells]) (by simp [Value.cells]) rfl) ?_; rintro _ w1 ⟨rfl, H1⟩; (try simp only [putsAt, Value.cells, List.setIfInBounds_toArray, List.set_cons_zero, List.set_cons_succ, List.toList_toArray] at H1); replace H := H1; clear H1) | ((with_reducible refine gate_store (p := 2) rfl ?_); refine ev_ rfl (H.store 43 (.tmp 2) (.tmp 35) rfl rfl (by repeat (first | exact Pick.here _ | apply Pick.there)) (by first | (go_simp; done) | (go_simp; rfl)) _ rfl info43s (by simp [Value.oneCell', Value.cells]) (by simp [Value.cells]) rfl) ?_; rintro _ w1 ⟨rfl, H1⟩; (try simp only [putsAt, Value.cells, List.setIfInBounds_toArray, List.set_cons_zero, List.set_cons_succ, List.toList_toArray] at H1); replace H := H1; clear H1) | ((with_reducible refine gate_dst (N := 38) rfl ?_); refine Kd.event_run rfl (H.load1 41 (.tmp 37) rfl rfl (by repeat (first | exact Pick.here _ | apply Pick.there)) Tryd.underlying41 rfl rfl) ?_) | ((with_reducible refine gate_store (p := 2) rfl ?_); refine ev_ rfl (H.store 43 (.tmp 2) (.tmp 40) rfl rfl (by repeat (first | exact Pick.here _ | apply Pick.there)) (by first | (go_simp; done) | (go_simp; rfl)) _ rfl info43s (by simp [Value.oneCell', Value.cells]) (by simp [Value.cells]) rfl) ?_; rintro _ w1 ⟨rfl, H1⟩; (try simp only [putsAt, Value.cells, List.setIfInBounds_toArray, List.set_cons_zero, List.set_cons_succ, List.toList_toArray] at H1); replace H := H1; clear H1) | ((with_reducible refine gate_store (p := 22) rfl ?_); refine ev_ rfl (H.store 22 (.tmp 22) (.tmp 21) rfl rfl (by repeat (first | exact Pick.here _ | apply Pick.there)) (by first | (go_simp; done) | (go_simp; rfl)) _ rfl info22s (by simp [Value.oneCell', Value.cells]) (by simp [Value.cells]) rfl) ?_; rintro _ w1 ⟨rfl, H1⟩; (try simp only [putsAt, Value.cells, List.setIfInBounds_toArray, List.set_cons_zero, List.set_cons_succ, List.toList_toArray] at H1); replace H := H1; clear H1) | ((with_reducible refine gate_dst (N := 41) rfl ?_); refine Kd.event_run rfl (H.loadN 43 (.tmp 5) rfl rfl (by repeat (first | exact Pick.here _ | apply Pick.there)) #[.int .u64 t, .int .u64 s, .int .u16 (k : Int), .slice A5 k c5] Tryd.underlying43 rfl info43s (fun j u hj => by simpa using hj)) ?_) | ((with_reducible refine gate_store (p := 2) rfl ?_); refine ev_ rfl (H.store 43 (.tmp 2) (.tmp 45) rfl rfl (by repeat (first | exact Pick.here _ | apply Pick.there)) (by first | (go_simp; done) | (go_simp; rfl)) _ rfl info43s (by simp [Value.oneCell', Value.cells]) (by simp [Value.cells]) rfl) ?_; rintro _ w1 ⟨rfl, H1⟩; (try simp only [putsAt, Value.cells, List.setIfInBounds_toArray, List.set_cons_zero, List.set_cons_succ, List.toList_toArray] at H1); replace H := H1; clear H1) | ((with_reducible refine gate_dst (N := 47) rfl ?_); refine Kd.event_run rfl (H.loadN 43 (.tmp 5) rfl rfl (by repeat (first | exact Pick.here _ | apply Pick.there)) #[.int .u64 t, .int .u64 s, .int .u16 (k : Int), .slice A5 k c5] Tryd.underlying43 rfl info43s (fun j u hj => by simpa using hj)) ?_) | ((with_reducible refine gate_store (p := 2) rfl ?_); refine ev_ rfl (H.store 43 (.tmp 2) (.tmp 47) rfl rfl (by repeat (first | exact Pick.here _ | apply Pick.there)) (by first | (go_simp; done) | (go_simp; rfl)) _ rfl info43s (by simp [Value.oneCell', Value.cells]) (by simp [Value.cells]) rfl) ?_; rintro _ w1 ⟨rfl, H1⟩; (try simp only [putsAt, Value.cells, List.setIfInBounds_toArray, List.set_cons_zero, List.set_cons_succ, List.toList_toArray] at H1); replace H := H1; clear H1) | (go_at_call 22; refine H.call0 (New_calls _ A bs.length c bs (H.data hb.out) (by have := hn2.out; omega)) ?_; rintro v l1 w1 ⟨g, rfl, rfl⟩ H1; replace H := H1; clear H1) | (go_at_call 23; refine H.call (.cons (.here _) (.nil _)) (fun G hG hGl => Num_yes _ g bs j2 2 G hG hGl (by have := hj2.out; have := h14.out; omega) (by have := hn2.out; omega)) ?_; rintro v l1 w1 ⟨hv, rfl⟩ H1; rw [hj2.out, hK.out] at hv; subst hv; obtain ⟨j3, hj3⟩ : ∃ j, j = j2 + 2 := ⟨_, rfl⟩; rw [← hj3] at H1; replace hj3 : Aside0 (j3 = 14) := ⟨by rw [hj3, hj2.out]⟩; replace H := H1; clear H1) | (go_at_call 23; refine H.call (.cons (.here _) (.nil _)) (fun G hG hGl => Num_yes _ g bs j1 6 G hG hGl (by have := hj1.out; have := h14.out; omega) (by have := hn2.out; omega)) ?_; rintro v l1 w1 ⟨hv, rfl⟩ H1; rw [hj1.out, hS.out] at hv; subst hv; obtain ⟨j2, hj2⟩ : ∃ j, j = j1 + 6 := ⟨_, rfl⟩; rw [← hj2] at H1; replace hj2 : Aside0 (j2 = 12) := ⟨by rw [hj2, hj1.out]⟩; replace H := H1; clear H1) | (go_at_call 23; refine H.call (.cons (.here _) (.nil _)) (fun G hG hGl => Num_yes _ g bs 0 6 G hG hGl (by have := h14.out; omega) (by have := hn2.out; omega)) ?_; rintro v l1 w1 ⟨hv, rfl⟩ H1; rw [hT.out] at hv; subst hv; obtain ⟨j1, hj1⟩ : ∃ j, j = 0 + 6 := ⟨_, rfl⟩; rw [← hj1] at H1; replace hj1 : Aside0 (j1 = 6) := ⟨by rw [hj1]⟩; replace H := H1; clear H1) | (go_at_call 25; refine H.call (p := [reader g bs j3 false]) (.cons (by repeat (first | exact Pick.here _ | apply Pick.there)) (.nil _)) (fun G hG hGl => Bytes_yes _ g bs j3 k G hG hGl (by have := hj3.out; have := hl.out; omega) (by have := hn2.out; omega)) ?_; rintro v l1 w1 rfl H1; rw [hj3.out] at H1; have hdl : ((bs.drop 14).take k).length = k := (by have := hl.out; simp; omega); obtain ⟨A5, c5, hv, hc5, HC5⟩ := H1.reads (.here _); rw [hdl] at hv; subst hv; replace H := H1; clear H1 hc5 HC5 hdl) | (go_at_call 24; refine H.call (p := [reader g bs _ _]) (.cons (by repeat (first | exact Pick.here _ | apply Pick.there)) (.nil _)) (fun G hG hGl => Short_calls _ g bs _ _ G hG hGl) ?_; rintro v l1 w1 ⟨rfl, rfl⟩ H1; replace H := H1; clear H1) | (go_at_call 27; refine H.call0 (Check_fit _ t s (k : Int) A5 k c5 t0 t1 s0 s1 (by omega) (by omega) (by omega) rfl) ?_; rintro v l1 w1 ⟨rfl, rfl⟩ H1; replace H := H1; clear H1))
  refine bodyPost_ret (H.ret_ct (p := 2) (u := 3) rfl (.here _) rfl Tryd.underlying43 rfl info43s) rfl ⟨_, _, rfl, ⟨_, rfl, rfl⟩, ?_⟩
  exact H.take (.cons (by repeat (first | exact Pick.here _ | apply Pick.there)) (.nil _))
end Go.Proofs.YtiikllgppmmiaaaDoor.FrameG
