/- What the functions of frame come to, part 1. Walked by hand. -/
import Derived.Test.YtdmlpcbmmdddbaaFrame
namespace Go.Proofs.Ytdmlpcbmmdddbaa.Frame
open Go.RowKit Go.Proofs.YtdmlpcbmmdddbaaW.PrintWords Go.Proofs.YtdmlpcbmmdddbaaW.PrintLast Go.Proofs.YtdmlpcbmmdddbaaW.PrintMore
set_option linter.unusedVariables false
set_option linter.unusedSimpArgs false
open Go.Proofs.Ytdmlpcbmmdddbaa.Sep Go.Proofs.Ytdmlpcbmmdddbaa.Wire
set_option maxHeartbeats 1000000 in
set_option maxRecDepth 100000 in
theorem RefGet_short (w : World) (A : Option Addr) (n c : Nat) (bs : List Int) (hb : (Kd.int .u8).C w A n bs) (hc : n ≤ c) (hn : n ≤ 100000) (hby : ∀ y ∈ bs, 0 ≤ y ∧ y ≤ 255) (h : bs.length < 14) :
    Calls Try.prog 22 #[.slice A n c] w (Ret (fun _ => False) w (frAns (getF bs))) := by
  have H := Hp.nothing w
  obtain rfl : bs.length = n := hb.1
  replace hb := Aside0.mk hb
  replace hc := Aside0.mk hc
  have hn2 := Aside0.mk hn
  have hg : getF bs = (0, 0, 0, [], 2) := by unfold getF; rw [if_pos h]
  rw [hg]
  have d14 : decide (bs.length < 14) = true := decide_eq_true h
  have d14I : decide ((bs.length : Int) < 14) = true := decide_eq_true (by omega)
  clear hg h
  go_enter Try.func22, Try.ntmps22
  go_wp2_with (first | ((with_reducible refine gate_dst (N := 2) rfl ?_); refine ev_ rfl (H.new (cs := #[.int .u64 0, .int .u64 0, .int .u16 0, .slice none 0 0]) (t := 27) (by first | (go_simp; done) | (go_simp; rfl))) ?_; rintro _ w1 ⟨g2, rfl, H1⟩; replace H := H1; clear H1) | ((with_reducible refine gate_store (p := 2) rfl ?_); refine ev_ rfl (H.store 27 (.tmp 2) (.tmp 9) rfl rfl (by repeat (first | exact Pick.here _ | apply Pick.there)) (by first | (go_simp; done) | (go_simp; rfl)) _ rfl info27s (by simp [Value.oneCell', Value.cells]) (by simp [Value.cells]) rfl) ?_; rintro _ w1 ⟨rfl, H1⟩; (try simp only [putsAt, Value.cells, List.setIfInBounds_toArray, List.set_cons_zero, List.set_cons_succ, List.toList_toArray] at H1); replace H := H1; clear H1) | ((with_reducible refine gate_dst (N := 24) rfl ?_); refine Kd.event_run rfl (H.load1 24 (.tmp 23) rfl rfl (by repeat (first | exact Pick.here _ | apply Pick.there)) Try.underlying24 rfl rfl) ?_) | ((with_reducible refine gate_dst (N := 29) rfl ?_); refine Kd.event_run rfl (H.load1 24 (.tmp 28) rfl rfl (by repeat (first | exact Pick.here _ | apply Pick.there)) Try.underlying24 rfl rfl) ?_) | ((with_reducible refine gate_store (p := 2) rfl ?_); refine ev_ rfl (H.store 27 (.tmp 2) (.tmp 32) rfl rfl (by repeat (first | exact Pick.here _ | apply Pick.there)) (by first | (go_simp; done) | (go_simp; rfl)) _ rfl info27s (by simp [Value.oneCell', Value.cells]) (by simp [Value.cells]) rfl) ?_; rintro _ w1 ⟨rfl, H1⟩; (try simp only [putsAt, Value.cells, List.setIfInBounds_toArray, List.set_cons_zero, List.set_cons_succ, List.toList_toArray] at H1); replace H := H1; clear H1) | ((with_reducible refine gate_store (p := 2) rfl ?_); refine ev_ rfl (H.store 27 (.tmp 2) (.tmp 42) rfl rfl (by repeat (first | exact Pick.here _ | apply Pick.there)) (by first | (go_simp; done) | (go_simp; rfl)) _ rfl info27s (by simp [Value.oneCell', Value.cells]) (by simp [Value.cells]) rfl) ?_; rintro _ w1 ⟨rfl, H1⟩; (try simp only [putsAt, Value.cells, List.setIfInBounds_toArray, List.set_cons_zero, List.set_cons_succ, List.toList_toArray] at H1); replace H := H1; clear H1) | ((with_reducible refine gate_dst (N := 44) rfl ?_); refine Kd.event_run rfl (H.load1 24 (.tmp 43) rfl rfl (by repeat (first | exact Pick.here _ | apply Pick.there)) Try.underlying24 rfl rfl) ?_) | ((with_reducible refine gate_store (p := 2) rfl ?_); refine ev_ rfl (H.store 27 (.tmp 2) (.tmp 46) rfl rfl (by repeat (first | exact Pick.here _ | apply Pick.there)) (by first | (go_simp; done) | (go_simp; rfl)) _ rfl info27s (by simp [Value.oneCell', Value.cells]) (by simp [Value.cells]) rfl) ?_; rintro _ w1 ⟨rfl, H1⟩; (try simp only [putsAt, Value.cells, List.setIfInBounds_toArray, List.set_cons_zero, List.set_cons_succ, List.toList_toArray] at H1); replace H := H1; clear H1) | ((with_reducible refine gate_store (p := 2) rfl ?_); refine ev_ rfl (H.store 27 (.tmp 2) (.tmp 50) rfl rfl (by repeat (first | exact Pick.here _ | apply Pick.there)) (by first | (go_simp; done) | (go_simp; rfl)) _ rfl info27s (by simp [Value.oneCell', Value.cells]) (by simp [Value.cells]) rfl) ?_; rintro _ w1 ⟨rfl, H1⟩; (try simp only [putsAt, Value.cells, List.setIfInBounds_toArray, List.set_cons_zero, List.set_cons_succ, List.toList_toArray] at H1); replace H := H1; clear H1) | ((with_reducible refine gate_dst (N := 52) rfl ?_); refine Kd.event_run rfl (H.load1 25 (.tmp 51) rfl rfl (by repeat (first | exact Pick.here _ | apply Pick.there)) Try.underlying25 rfl rfl) ?_) | ((with_reducible refine gate_store (p := 55) rfl ?_); refine ev_ rfl (H.store 25 (.tmp 55) (.tmp 54) rfl rfl (by repeat (first | exact Pick.here _ | apply Pick.there)) (by first | (go_simp; done) | (go_simp; rfl)) _ rfl info25s (by simp [Value.oneCell', Value.cells]) (by simp [Value.cells]) rfl) ?_; rintro _ w1 ⟨rfl, H1⟩; (try simp only [putsAt, Value.cells, List.setIfInBounds_toArray, List.set_cons_zero, List.set_cons_succ, List.toList_toArray] at H1); replace H := H1; clear H1) | ((with_reducible refine gate_store (p := 2) rfl ?_); refine ev_ rfl (H.store 27 (.tmp 2) (.tmp 56) rfl rfl (by repeat (first | exact Pick.here _ | apply Pick.there)) (by first | (go_simp; done) | (go_simp; rfl)) _ rfl info27s (by simp [Value.oneCell', Value.cells]) (by simp [Value.cells]) rfl) ?_; rintro _ w1 ⟨rfl, H1⟩; (try simp only [putsAt, Value.cells, List.setIfInBounds_toArray, List.set_cons_zero, List.set_cons_succ, List.toList_toArray] at H1); replace H := H1; clear H1))
  refine bodyPost_ret (H.ret_ct (p := 2) (u := 3) rfl (.here _) rfl Try.underlying27 rfl info27s) rfl ⟨_, _, rfl, ⟨.slice none 0 0, rfl, rfl⟩, ?_⟩
  exact (H.only).nil_row _ _

set_option maxHeartbeats 1000000 in
set_option maxRecDepth 100000 in
theorem RefGet_lack (w : World) (A : Option Addr) (n c : Nat) (bs : List Int) (hb : (Kd.int .u8).C w A n bs) (hc : n ≤ c) (hn : n ≤ 100000) (hby : ∀ y ∈ bs, 0 ≤ y ∧ y ≤ 255) (h14 : 14 ≤ bs.length) (t s : Int) (k : Nat) (hTe : numR ((bs.drop 0).take 6) = t) (hSe : numR ((bs.drop 6).take 6) = s) (hKe : numR ((bs.drop 12).take 2) = (k : Int)) (hk : k ≤ 1500) (hl : bs.length - 14 < k) :
    Calls Try.prog 22 #[.slice A n c] w (Ret (fun _ => False) w (frAns (getF bs))) := by
  have H := Hp.nothing w
  obtain rfl : bs.length = n := hb.1
  replace hb := Aside0.mk hb
  replace hc := Aside0.mk hc
  have hn2 := Aside0.mk hn
  have hg : getF bs = (0, 0, 0, [], 2) := by
    unfold getF kindL
    rw [if_neg (by omega), hKe, hTe, hSe]
    rw [if_pos (by omega), if_pos (by omega)]
  rw [hg]
  have rK := numR_lt ((bs.drop 12).take 2) (bytes_part hby 12 2) 2 (by simp; omega) (by decide)
  rw [hKe] at rK
  have k1 : k < 65536 := by have := rK.2; simp at this; omega
  have kw : IntKind.u16.wrap (k : Int) = (k : Int) := by rw [IntKind.wrap_u16]; omega
  have kw2 : IntKind.i64.wrap (k : Int) = (k : Int) := by rw [IntKind.wrap_i64]; omega
  have kw3 : wrap64 (k : Int) = (k : Int) := by unfold wrap64; omega
  have C0 : (Kd.int .u8).C w A 6 (bs.take 6) := C_front hb.out 6 (by omega)
  have C6 : (Kd.int .u8).C w (cutA A c 6) 6 ((bs.drop 6).take 6) := C_front (C_cutS (h1 := fun _ => rfl) hb.out 6 (by omega) hc.out) 6 (by omega)
  have C12 : (Kd.int .u8).C w (cutA A c 12) 2 ((bs.drop 12).take 2) := C_front (C_cutS (h1 := fun _ => rfl) hb.out 12 (by omega) hc.out) 2 (by omega)
  have C14 : (Kd.int .u8).C w (cutA A c 14) (bs.length - 14) (bs.drop 14) := C_cutS (h1 := fun _ => rfl) hb.out 14 (by omega) hc.out
  rw [List.drop_zero] at hTe
  have hT := Aside0.mk hTe
  have hS := Aside0.mk hSe
  have hKK := Aside0.mk hKe
  replace C0 := Aside0.mk C0
  replace C6 := Aside0.mk C6
  replace C12 := Aside0.mk C12
  replace C14 := Aside0.mk C14
  have d14 : decide (bs.length < 14) = false := decide_eq_false (by omega)
  have d14I : decide ((bs.length : Int) < 14) = false := decide_eq_false (by omega)
  clear rK hTe hSe hKe hby hg
  have c1 : decide (k ≤ 1500) = true := decide_eq_true (by omega)
  have c1I : decide ((k : Int) ≤ 1500) = true := decide_eq_true (by omega)
  have c5 : decide (bs.length - 14 < k) = true := decide_eq_true (by omega)
  have c5I : decide (((bs.length - 14 : Nat) : Int) < (k : Int)) = true := decide_eq_true (by omega)
  go_enter Try.func22, Try.ntmps22
  go_wp2_with (first | ((with_reducible refine gate_dst (N := 2) rfl ?_); refine ev_ rfl (H.new (cs := #[.int .u64 0, .int .u64 0, .int .u16 0, .slice none 0 0]) (t := 27) (by first | (go_simp; done) | (go_simp; rfl))) ?_; rintro _ w1 ⟨g2, rfl, H1⟩; replace H := H1; clear H1))
  refine startH H.only (n := 13) [12] #[false, false, false, false, false, false, false, false, false, false, false, false, false] (by kernel_rfl) rfl rfl (fun hHeld => ?_)
  have HD := H.drew
  refine pure_ (i := 0) (N := some 10) (v := ?_) (a' := ?_) #[true, false, false, false, false, false, false, false, false, false, false, false, false] rfl rfl (by kernel_rfl) (fun _ _ _ h => h) (Or.inl ⟨by rfl, ?_⟩) ?_ ?_
  rotate_left
  · intro w'
    go_simp
    with_reducible rfl
  rotate_left
  · simp only [Act.put, List.setIfInBounds_toArray, List.set_cons_zero, List.set_cons_succ, i64_w, i32_w]
    rfl
  refine pure_ (i := 1) (N := some 11) (v := .slice A 6 c) (a' := ?_) #[true, true, false, false, false, false, false, false, false, false, false, false, false] rfl rfl (by kernel_rfl) (fun _ _ _ h => h) (Or.inl ⟨by rfl, run_cut3 (t := 25) (e := 5) (j := 6) rfl rfl rfl Try.underlying25 info5s (by omega) hc.out⟩) ?_ ?_
  rotate_left
  · simp only [Act.put, List.setIfInBounds_toArray, List.set_cons_zero, List.set_cons_succ, i64_w, i32_w]
    rfl
  refine pure_ (i := 3) (N := some 13) (v := ?_) (a' := ?_) #[true, true, false, true, false, false, false, false, false, false, false, false, false] rfl rfl (by kernel_rfl) (fun _ _ _ h => h) (Or.inl ⟨by rfl, ?_⟩) ?_ ?_
  rotate_left
  · intro w'
    go_simp
    with_reducible rfl
  rotate_left
  · simp only [Act.put, List.setIfInBounds_toArray, List.set_cons_zero, List.set_cons_succ, i64_w, i32_w]
    rfl
  refine pure_ (i := 4) (N := some 14) (v := .slice (cutA A c 6) 6 (c - 6)) (a' := ?_) #[true, true, false, true, true, false, false, false, false, false, false, false, false] rfl rfl (by kernel_rfl) (fun _ _ _ h => h) (Or.inl ⟨by rfl, run_cut2 (t := 25) (e := 5) (i := 6) (j := 12) rfl rfl rfl rfl Try.underlying25 info5s (by omega) (by omega) hc.out⟩) ?_ ?_
  rotate_left
  · simp only [Act.put, List.setIfInBounds_toArray, List.set_cons_zero, List.set_cons_succ, i64_w, i32_w]
    rfl
  refine pure_ (i := 6) (N := some 16) (v := ?_) (a' := ?_) #[true, true, false, true, true, false, true, false, false, false, false, false, false] rfl rfl (by kernel_rfl) (fun _ _ _ h => h) (Or.inl ⟨by rfl, ?_⟩) ?_ ?_
  rotate_left
  · intro w'
    go_simp
    with_reducible rfl
  rotate_left
  · simp only [Act.put, List.setIfInBounds_toArray, List.set_cons_zero, List.set_cons_succ, i64_w, i32_w]
    rfl
  refine pure_ (i := 7) (N := some 17) (v := .slice (cutA A c 12) 2 (c - 12)) (a' := ?_) #[true, true, false, true, true, false, true, true, false, false, false, false, false] rfl rfl (by kernel_rfl) (fun _ _ _ h => h) (Or.inl ⟨by rfl, run_cut2 (t := 25) (e := 5) (i := 12) (j := 14) rfl rfl rfl rfl Try.underlying25 info5s (by omega) (by omega) hc.out⟩) ?_ ?_
  rotate_left
  · simp only [Act.put, List.setIfInBounds_toArray, List.set_cons_zero, List.set_cons_succ, i64_w, i32_w]
    rfl
  refine two_ (i := 2) (j := 11) (Ni := some 12) (Nj := some 4) #[true, true, true, true, true, false, true, true, false, false, false, false, false] #[true, true, false, true, true, false, true, true, false, false, false, true, false] rfl rfl rfl rfl (by kernel_rfl) (by decide) (by decide) (fun K hK => ?_) (fun K hK => ?_)
  · skip
    refine goes_ Try.func38 (by kernel_rfl) rfl #[.slice A 6 c] (by rfl) rfl rfl (by simp only [List.map_toArray, List.map_cons, List.map_nil]; rfl) ?_
    refine HD.call0 (RefNum_calls _ A 6 c (bs.take 6) (HD.data C0.out) (by omega)) ?_
    rintro v l1 w3 ⟨hv, rfl⟩ H3
    rw [hT.out] at hv
    subst hv
    replace HD := H3
    clear H3
    refine ⟨_, rfl, ?_⟩
    refine hK.out _ _ (HD.only) (fun hHeld => ?_)
    clear hK K
    refine norm_ (a' := ?_) ?_ ?_
    rotate_left
    · show Act.put _ (some 12) _ = _
      simp only [Act.put, List.setIfInBounds_toArray, List.set_cons_zero, List.set_cons_succ, i64_w, i32_w]
      rfl
    refine two_ (i := 5) (j := 11) (Ni := some 15) (Nj := some 4) #[true, true, true, true, true, true, true, true, false, false, false, false, false] #[true, true, true, true, true, false, true, true, false, false, false, true, false] rfl rfl rfl rfl (by kernel_rfl) (by decide) (by decide) (fun K hK => ?_) (fun K hK => ?_)
    · skip
      refine goes_ Try.func38 (by kernel_rfl) rfl #[.slice (cutA A c 6) 6 (c - 6)] (by rfl) rfl rfl (by simp only [List.map_toArray, List.map_cons, List.map_nil]; rfl) ?_
      refine HD.call0 (RefNum_calls _ (cutA A c 6) 6 (c - 6) ((bs.drop 6).take 6) (HD.data C6.out) (by omega)) ?_
      rintro v l1 w3 ⟨hv, rfl⟩ H3
      rw [hS.out] at hv
      subst hv
      replace HD := H3
      clear H3
      refine ⟨_, rfl, ?_⟩
      refine hK.out _ _ (HD.only) (fun hHeld => ?_)
      clear hK K
      refine norm_ (a' := ?_) ?_ ?_
      rotate_left
      · show Act.put _ (some 15) _ = _
        simp only [Act.put, List.setIfInBounds_toArray, List.set_cons_zero, List.set_cons_succ, i64_w, i32_w]
        rfl
      refine two_ (i := 8) (j := 11) (Ni := some 18) (Nj := some 4) #[true, true, true, true, true, true, true, true, true, false, false, false, false] #[true, true, true, true, true, true, true, true, false, false, false, true, false] rfl rfl rfl rfl (by kernel_rfl) (by decide) (by decide) (fun K hK => ?_) (fun K hK => ?_)
      · skip
        refine goes_ Try.func38 (by kernel_rfl) rfl #[.slice (cutA A c 12) 2 (c - 12)] (by rfl) rfl rfl (by simp only [List.map_toArray, List.map_cons, List.map_nil]; rfl) ?_
        refine HD.call0 (RefNum_calls _ (cutA A c 12) 2 (c - 12) ((bs.drop 12).take 2) (HD.data C12.out) (by omega)) ?_
        rintro v l1 w3 ⟨hv, rfl⟩ H3
        rw [hKK.out] at hv
        subst hv
        replace HD := H3
        clear H3
        refine ⟨_, rfl, ?_⟩
        refine hK.out _ _ (HD.only) (fun hHeld => ?_)
        clear hK K
        refine norm_ (a' := ?_) ?_ ?_
        rotate_left
        · show Act.put _ (some 18) _ = _
          simp only [Act.put, List.setIfInBounds_toArray, List.set_cons_zero, List.set_cons_succ, i64_w, i32_w]
          rfl
        refine pure_ (i := 9) (N := some 19) (v := ?_) (a' := ?_) #[true, true, true, true, true, true, true, true, true, true, false, false, false] rfl rfl (by kernel_rfl) (fun _ _ _ h => h) (Or.inl ⟨by rfl, ?_⟩) ?_ ?_
        rotate_left
        · intro w'
          go_simp
          with_reducible rfl
        rotate_left
        · simp only [Act.put, List.setIfInBounds_toArray, List.set_cons_zero, List.set_cons_succ, i64_w, i32_w]
          rfl
        refine pure_ (i := 10) (N := some 20) (v := ?_) (a' := ?_) #[true, true, true, true, true, true, true, true, true, true, true, false, false] rfl rfl (by kernel_rfl) (fun _ _ _ h => h) (Or.inl ⟨by rfl, ?_⟩) ?_ ?_
        rotate_left
        · intro w'
          go_simp
          with_reducible rfl
        rotate_left
        · simp only [Act.put, List.setIfInBounds_toArray, List.set_cons_zero, List.set_cons_succ, i64_w, i32_w]
          rfl
        refine one_ (i := 11) (N := some 4) #[true, true, true, true, true, true, true, true, true, true, true, true, false] rfl rfl (by kernel_rfl) (by decide) (fun K hK => ?_)
        refine step_ (by rfl) rfl (HD.new (cs := #[.int .u64 0, .int .u64 0, .int .u16 0, .slice none 0 0]) (t := 27) (by first | (go_simp; done) | (go_simp; rfl))) ?_
        rintro _ w4 ⟨g4, rfl, H4⟩
        replace HD := H4
        clear H4
        refine hK.out _ _ (HD.only) (fun hHeld => ?_)
        clear hK K
        refine norm_ (a' := ?_) ?_ ?_
        rotate_left
        · show Act.put _ (some 4) _ = _
          simp only [Act.put, List.setIfInBounds_toArray, List.set_cons_zero, List.set_cons_succ, i64_w, i32_w]
          rfl
        refine last_ (i := 12) (N := none) #[true, true, true, true, true, true, true, true, true, true, true, true, true] rfl rfl (by kernel_rfl) (by decide) (fun K hK => ?_)
        refine step_ (by rfl) rfl (HD.store 27 (.tmp 4) (.tmp 20) rfl rfl (by repeat (first | exact Pick.here _ | apply Pick.there)) (by first | (go_simp; done) | (go_simp; rfl)) _ rfl info27s (by simp [Value.oneCell', Value.cells]) (by simp [Value.cells]) rfl) ?_
        rintro _ w5 ⟨rfl, H5⟩
        simp only [putsAt, Value.cells, List.setIfInBounds_toArray, List.set_cons_zero, List.set_cons_succ, List.toList_toArray] at H5
        replace HD := H5
        clear H5
        refine hK.out _ _ ?_
        clear hK K
        refine done_ (by kernel_rfl) ?_
        replace H := HD
        clear HD hHeld
        go_wp2_with (first | ((with_reducible refine gate_dst (N := 2) rfl ?_); refine ev_ rfl (H.new (cs := #[.int .u64 0, .int .u64 0, .int .u16 0, .slice none 0 0]) (t := 27) (by first | (go_simp; done) | (go_simp; rfl))) ?_; rintro _ w1 ⟨g2, rfl, H1⟩; replace H := H1; clear H1) | ((with_reducible refine gate_store (p := 2) rfl ?_); refine ev_ rfl (H.store 27 (.tmp 2) (.tmp 9) rfl rfl (by repeat (first | exact Pick.here _ | apply Pick.there)) (by first | (go_simp; done) | (go_simp; rfl)) _ rfl info27s (by simp [Value.oneCell', Value.cells]) (by simp [Value.cells]) rfl) ?_; rintro _ w1 ⟨rfl, H1⟩; (try simp only [putsAt, Value.cells, List.setIfInBounds_toArray, List.set_cons_zero, List.set_cons_succ, List.toList_toArray] at H1); replace H := H1; clear H1) | ((with_reducible refine gate_dst (N := 24) rfl ?_); refine Kd.event_run rfl (H.load1 24 (.tmp 23) rfl rfl (by repeat (first | exact Pick.here _ | apply Pick.there)) Try.underlying24 rfl rfl) ?_) | ((with_reducible refine gate_dst (N := 29) rfl ?_); refine Kd.event_run rfl (H.load1 24 (.tmp 28) rfl rfl (by repeat (first | exact Pick.here _ | apply Pick.there)) Try.underlying24 rfl rfl) ?_) | ((with_reducible refine gate_store (p := 2) rfl ?_); refine ev_ rfl (H.store 27 (.tmp 2) (.tmp 32) rfl rfl (by repeat (first | exact Pick.here _ | apply Pick.there)) (by first | (go_simp; done) | (go_simp; rfl)) _ rfl info27s (by simp [Value.oneCell', Value.cells]) (by simp [Value.cells]) rfl) ?_; rintro _ w1 ⟨rfl, H1⟩; (try simp only [putsAt, Value.cells, List.setIfInBounds_toArray, List.set_cons_zero, List.set_cons_succ, List.toList_toArray] at H1); replace H := H1; clear H1) | ((with_reducible refine gate_store (p := 2) rfl ?_); refine ev_ rfl (H.store 27 (.tmp 2) (.tmp 42) rfl rfl (by repeat (first | exact Pick.here _ | apply Pick.there)) (by first | (go_simp; done) | (go_simp; rfl)) _ rfl info27s (by simp [Value.oneCell', Value.cells]) (by simp [Value.cells]) rfl) ?_; rintro _ w1 ⟨rfl, H1⟩; (try simp only [putsAt, Value.cells, List.setIfInBounds_toArray, List.set_cons_zero, List.set_cons_succ, List.toList_toArray] at H1); replace H := H1; clear H1) | ((with_reducible refine gate_dst (N := 44) rfl ?_); refine Kd.event_run rfl (H.load1 24 (.tmp 43) rfl rfl (by repeat (first | exact Pick.here _ | apply Pick.there)) Try.underlying24 rfl rfl) ?_) | ((with_reducible refine gate_store (p := 2) rfl ?_); refine ev_ rfl (H.store 27 (.tmp 2) (.tmp 46) rfl rfl (by repeat (first | exact Pick.here _ | apply Pick.there)) (by first | (go_simp; done) | (go_simp; rfl)) _ rfl info27s (by simp [Value.oneCell', Value.cells]) (by simp [Value.cells]) rfl) ?_; rintro _ w1 ⟨rfl, H1⟩; (try simp only [putsAt, Value.cells, List.setIfInBounds_toArray, List.set_cons_zero, List.set_cons_succ, List.toList_toArray] at H1); replace H := H1; clear H1) | ((with_reducible refine gate_store (p := 2) rfl ?_); refine ev_ rfl (H.store 27 (.tmp 2) (.tmp 50) rfl rfl (by repeat (first | exact Pick.here _ | apply Pick.there)) (by first | (go_simp; done) | (go_simp; rfl)) _ rfl info27s (by simp [Value.oneCell', Value.cells]) (by simp [Value.cells]) rfl) ?_; rintro _ w1 ⟨rfl, H1⟩; (try simp only [putsAt, Value.cells, List.setIfInBounds_toArray, List.set_cons_zero, List.set_cons_succ, List.toList_toArray] at H1); replace H := H1; clear H1) | ((with_reducible refine gate_dst (N := 52) rfl ?_); refine Kd.event_run rfl (H.load1 25 (.tmp 51) rfl rfl (by repeat (first | exact Pick.here _ | apply Pick.there)) Try.underlying25 rfl rfl) ?_) | ((with_reducible refine gate_store (p := 55) rfl ?_); refine ev_ rfl (H.store 25 (.tmp 55) (.tmp 54) rfl rfl (by repeat (first | exact Pick.here _ | apply Pick.there)) (by first | (go_simp; done) | (go_simp; rfl)) _ rfl info25s (by simp [Value.oneCell', Value.cells]) (by simp [Value.cells]) rfl) ?_; rintro _ w1 ⟨rfl, H1⟩; (try simp only [putsAt, Value.cells, List.setIfInBounds_toArray, List.set_cons_zero, List.set_cons_succ, List.toList_toArray] at H1); replace H := H1; clear H1) | ((with_reducible refine gate_store (p := 2) rfl ?_); refine ev_ rfl (H.store 27 (.tmp 2) (.tmp 56) rfl rfl (by repeat (first | exact Pick.here _ | apply Pick.there)) (by first | (go_simp; done) | (go_simp; rfl)) _ rfl info27s (by simp [Value.oneCell', Value.cells]) (by simp [Value.cells]) rfl) ?_; rintro _ w1 ⟨rfl, H1⟩; (try simp only [putsAt, Value.cells, List.setIfInBounds_toArray, List.set_cons_zero, List.set_cons_succ, List.toList_toArray] at H1); replace H := H1; clear H1) | ((with_reducible refine gate_dst (N := 22) rfl ?_); refine Kd.event_run rfl (v := .slice (cutA A c 14) (bs.length - 14) (c - 14)) (w1 := _) (run_cut (t := 25) (e := 5) (j := 14) rfl rfl rfl Try.underlying25 info5s (by omega) _) ?_))
        refine bodyPost_ret (H.ret_ct (p := 2) (u := 3) rfl (.here _) rfl Try.underlying27 rfl info27s) rfl ⟨_, _, rfl, ⟨.slice none 0 0, rfl, rfl⟩, ?_⟩
        exact (H.only).nil_row _ _
      · skip
        refine step_ (by rfl) rfl (HD.new (cs := #[.int .u64 0, .int .u64 0, .int .u16 0, .slice none 0 0]) (t := 27) (by first | (go_simp; done) | (go_simp; rfl))) ?_
        rintro _ w4 ⟨g4, rfl, H4⟩
        replace HD := H4
        clear H4
        refine hK.out _ _ (HD.only) (fun hHeld => ?_)
        clear hK K
        refine norm_ (a' := ?_) ?_ ?_
        rotate_left
        · show Act.put _ (some 4) _ = _
          simp only [Act.put, List.setIfInBounds_toArray, List.set_cons_zero, List.set_cons_succ, i64_w, i32_w]
          rfl
        refine one_ (i := 8) (N := some 18) #[true, true, true, true, true, true, true, true, true, false, false, true, false] rfl rfl (by kernel_rfl) (by decide) (fun K hK => ?_)
        refine goes_ Try.func38 (by kernel_rfl) rfl #[.slice (cutA A c 12) 2 (c - 12)] (by rfl) rfl rfl (by simp only [List.map_toArray, List.map_cons, List.map_nil]; rfl) ?_
        refine HD.call0 (RefNum_calls _ (cutA A c 12) 2 (c - 12) ((bs.drop 12).take 2) (HD.data C12.out) (by omega)) ?_
        rintro v l1 w3 ⟨hv, rfl⟩ H3
        rw [hKK.out] at hv
        subst hv
        replace HD := H3
        clear H3
        refine ⟨_, rfl, ?_⟩
        refine hK.out _ _ (HD.only) (fun hHeld => ?_)
        clear hK K
        refine norm_ (a' := ?_) ?_ ?_
        rotate_left
        · show Act.put _ (some 18) _ = _
          simp only [Act.put, List.setIfInBounds_toArray, List.set_cons_zero, List.set_cons_succ, i64_w, i32_w]
          rfl
        refine pure_ (i := 9) (N := some 19) (v := ?_) (a' := ?_) #[true, true, true, true, true, true, true, true, true, true, false, true, false] rfl rfl (by kernel_rfl) (fun _ _ _ h => h) (Or.inl ⟨by rfl, ?_⟩) ?_ ?_
        rotate_left
        · intro w'
          go_simp
          with_reducible rfl
        rotate_left
        · simp only [Act.put, List.setIfInBounds_toArray, List.set_cons_zero, List.set_cons_succ, i64_w, i32_w]
          rfl
        refine pure_ (i := 10) (N := some 20) (v := ?_) (a' := ?_) #[true, true, true, true, true, true, true, true, true, true, true, true, false] rfl rfl (by kernel_rfl) (fun _ _ _ h => h) (Or.inl ⟨by rfl, ?_⟩) ?_ ?_
        rotate_left
        · intro w'
          go_simp
          with_reducible rfl
        rotate_left
        · simp only [Act.put, List.setIfInBounds_toArray, List.set_cons_zero, List.set_cons_succ, i64_w, i32_w]
          rfl
        refine last_ (i := 12) (N := none) #[true, true, true, true, true, true, true, true, true, true, true, true, true] rfl rfl (by kernel_rfl) (by decide) (fun K hK => ?_)
        refine step_ (by rfl) rfl (HD.store 27 (.tmp 4) (.tmp 20) rfl rfl (by repeat (first | exact Pick.here _ | apply Pick.there)) (by first | (go_simp; done) | (go_simp; rfl)) _ rfl info27s (by simp [Value.oneCell', Value.cells]) (by simp [Value.cells]) rfl) ?_
        rintro _ w5 ⟨rfl, H5⟩
        simp only [putsAt, Value.cells, List.setIfInBounds_toArray, List.set_cons_zero, List.set_cons_succ, List.toList_toArray] at H5
        replace HD := H5
        clear H5
        refine hK.out _ _ ?_
        clear hK K
        refine done_ (by kernel_rfl) ?_
        replace H := HD
        clear HD hHeld
        go_wp2_with (first | ((with_reducible refine gate_dst (N := 2) rfl ?_); refine ev_ rfl (H.new (cs := #[.int .u64 0, .int .u64 0, .int .u16 0, .slice none 0 0]) (t := 27) (by first | (go_simp; done) | (go_simp; rfl))) ?_; rintro _ w1 ⟨g2, rfl, H1⟩; replace H := H1; clear H1) | ((with_reducible refine gate_store (p := 2) rfl ?_); refine ev_ rfl (H.store 27 (.tmp 2) (.tmp 9) rfl rfl (by repeat (first | exact Pick.here _ | apply Pick.there)) (by first | (go_simp; done) | (go_simp; rfl)) _ rfl info27s (by simp [Value.oneCell', Value.cells]) (by simp [Value.cells]) rfl) ?_; rintro _ w1 ⟨rfl, H1⟩; (try simp only [putsAt, Value.cells, List.setIfInBounds_toArray, List.set_cons_zero, List.set_cons_succ, List.toList_toArray] at H1); replace H := H1; clear H1) | ((with_reducible refine gate_dst (N := 24) rfl ?_); refine Kd.event_run rfl (H.load1 24 (.tmp 23) rfl rfl (by repeat (first | exact Pick.here _ | apply Pick.there)) Try.underlying24 rfl rfl) ?_) | ((with_reducible refine gate_dst (N := 29) rfl ?_); refine Kd.event_run rfl (H.load1 24 (.tmp 28) rfl rfl (by repeat (first | exact Pick.here _ | apply Pick.there)) Try.underlying24 rfl rfl) ?_) | ((with_reducible refine gate_store (p := 2) rfl ?_); refine ev_ rfl (H.store 27 (.tmp 2) (.tmp 32) rfl rfl (by repeat (first | exact Pick.here _ | apply Pick.there)) (by first | (go_simp; done) | (go_simp; rfl)) _ rfl info27s (by simp [Value.oneCell', Value.cells]) (by simp [Value.cells]) rfl) ?_; rintro _ w1 ⟨rfl, H1⟩; (try simp only [putsAt, Value.cells, List.setIfInBounds_toArray, List.set_cons_zero, List.set_cons_succ, List.toList_toArray] at H1); replace H := H1; clear H1) | ((with_reducible refine gate_store (p := 2) rfl ?_); refine ev_ rfl (H.store 27 (.tmp 2) (.tmp 42) rfl rfl (by repeat (first | exact Pick.here _ | apply Pick.there)) (by first | (go_simp; done) | (go_simp; rfl)) _ rfl info27s (by simp [Value.oneCell', Value.cells]) (by simp [Value.cells]) rfl) ?_; rintro _ w1 ⟨rfl, H1⟩; (try simp only [putsAt, Value.cells, List.setIfInBounds_toArray, List.set_cons_zero, List.set_cons_succ, List.toList_toArray] at H1); replace H := H1; clear H1) | ((with_reducible refine gate_dst (N := 44) rfl ?_); refine Kd.event_run rfl (H.load1 24 (.tmp 43) rfl rfl (by repeat (first | exact Pick.here _ | apply Pick.there)) Try.underlying24 rfl rfl) ?_) | ((with_reducible refine gate_store (p := 2) rfl ?_); refine ev_ rfl (H.store 27 (.tmp 2) (.tmp 46) rfl rfl (by repeat (first | exact Pick.here _ | apply Pick.there)) (by first | (go_simp; done) | (go_simp; rfl)) _ rfl info27s (by simp [Value.oneCell', Value.cells]) (by simp [Value.cells]) rfl) ?_; rintro _ w1 ⟨rfl, H1⟩; (try simp only [putsAt, Value.cells, List.setIfInBounds_toArray, List.set_cons_zero, List.set_cons_succ, List.toList_toArray] at H1); replace H := H1; clear H1) | ((with_reducible refine gate_store (p := 2) rfl ?_); refine ev_ rfl (H.store 27 (.tmp 2) (.tmp 50) rfl rfl (by repeat (first | exact Pick.here _ | apply Pick.there)) (by first | (go_simp; done) | (go_simp; rfl)) _ rfl info27s (by simp [Value.oneCell', Value.cells]) (by simp [Value.cells]) rfl) ?_; rintro _ w1 ⟨rfl, H1⟩; (try simp only [putsAt, Value.cells, List.setIfInBounds_toArray, List.set_cons_zero, List.set_cons_succ, List.toList_toArray] at H1); replace H := H1; clear H1) | ((with_reducible refine gate_dst (N := 52) rfl ?_); refine Kd.event_run rfl (H.load1 25 (.tmp 51) rfl rfl (by repeat (first | exact Pick.here _ | apply Pick.there)) Try.underlying25 rfl rfl) ?_) | ((with_reducible refine gate_store (p := 55) rfl ?_); refine ev_ rfl (H.store 25 (.tmp 55) (.tmp 54) rfl rfl (by repeat (first | exact Pick.here _ | apply Pick.there)) (by first | (go_simp; done) | (go_simp; rfl)) _ rfl info25s (by simp [Value.oneCell', Value.cells]) (by simp [Value.cells]) rfl) ?_; rintro _ w1 ⟨rfl, H1⟩; (try simp only [putsAt, Value.cells, List.setIfInBounds_toArray, List.set_cons_zero, List.set_cons_succ, List.toList_toArray] at H1); replace H := H1; clear H1) | ((with_reducible refine gate_store (p := 2) rfl ?_); refine ev_ rfl (H.store 27 (.tmp 2) (.tmp 56) rfl rfl (by repeat (first | exact Pick.here _ | apply Pick.there)) (by first | (go_simp; done) | (go_simp; rfl)) _ rfl info27s (by simp [Value.oneCell', Value.cells]) (by simp [Value.cells]) rfl) ?_; rintro _ w1 ⟨rfl, H1⟩; (try simp only [putsAt, Value.cells, List.setIfInBounds_toArray, List.set_cons_zero, List.set_cons_succ, List.toList_toArray] at H1); replace H := H1; clear H1) | ((with_reducible refine gate_dst (N := 22) rfl ?_); refine Kd.event_run rfl (v := .slice (cutA A c 14) (bs.length - 14) (c - 14)) (w1 := _) (run_cut (t := 25) (e := 5) (j := 14) rfl rfl rfl Try.underlying25 info5s (by omega) _) ?_))
        refine bodyPost_ret (H.ret_ct (p := 2) (u := 3) rfl (.here _) rfl Try.underlying27 rfl info27s) rfl ⟨_, _, rfl, ⟨.slice none 0 0, rfl, rfl⟩, ?_⟩
        exact (H.only).nil_row _ _
    · skip
      refine step_ (by rfl) rfl (HD.new (cs := #[.int .u64 0, .int .u64 0, .int .u16 0, .slice none 0 0]) (t := 27) (by first | (go_simp; done) | (go_simp; rfl))) ?_
      rintro _ w4 ⟨g4, rfl, H4⟩
      replace HD := H4
      clear H4
      refine hK.out _ _ (HD.only) (fun hHeld => ?_)
      clear hK K
      refine norm_ (a' := ?_) ?_ ?_
      rotate_left
      · show Act.put _ (some 4) _ = _
        simp only [Act.put, List.setIfInBounds_toArray, List.set_cons_zero, List.set_cons_succ, i64_w, i32_w]
        rfl
      refine one_ (i := 5) (N := some 15) #[true, true, true, true, true, true, true, true, false, false, false, true, false] rfl rfl (by kernel_rfl) (by decide) (fun K hK => ?_)
      refine goes_ Try.func38 (by kernel_rfl) rfl #[.slice (cutA A c 6) 6 (c - 6)] (by rfl) rfl rfl (by simp only [List.map_toArray, List.map_cons, List.map_nil]; rfl) ?_
      refine HD.call0 (RefNum_calls _ (cutA A c 6) 6 (c - 6) ((bs.drop 6).take 6) (HD.data C6.out) (by omega)) ?_
      rintro v l1 w3 ⟨hv, rfl⟩ H3
      rw [hS.out] at hv
      subst hv
      replace HD := H3
      clear H3
      refine ⟨_, rfl, ?_⟩
      refine hK.out _ _ (HD.only) (fun hHeld => ?_)
      clear hK K
      refine norm_ (a' := ?_) ?_ ?_
      rotate_left
      · show Act.put _ (some 15) _ = _
        simp only [Act.put, List.setIfInBounds_toArray, List.set_cons_zero, List.set_cons_succ, i64_w, i32_w]
        rfl
      refine one_ (i := 8) (N := some 18) #[true, true, true, true, true, true, true, true, true, false, false, true, false] rfl rfl (by kernel_rfl) (by decide) (fun K hK => ?_)
      refine goes_ Try.func38 (by kernel_rfl) rfl #[.slice (cutA A c 12) 2 (c - 12)] (by rfl) rfl rfl (by simp only [List.map_toArray, List.map_cons, List.map_nil]; rfl) ?_
      refine HD.call0 (RefNum_calls _ (cutA A c 12) 2 (c - 12) ((bs.drop 12).take 2) (HD.data C12.out) (by omega)) ?_
      rintro v l1 w3 ⟨hv, rfl⟩ H3
      rw [hKK.out] at hv
      subst hv
      replace HD := H3
      clear H3
      refine ⟨_, rfl, ?_⟩
      refine hK.out _ _ (HD.only) (fun hHeld => ?_)
      clear hK K
      refine norm_ (a' := ?_) ?_ ?_
      rotate_left
      · show Act.put _ (some 18) _ = _
        simp only [Act.put, List.setIfInBounds_toArray, List.set_cons_zero, List.set_cons_succ, i64_w, i32_w]
        rfl
      refine pure_ (i := 9) (N := some 19) (v := ?_) (a' := ?_) #[true, true, true, true, true, true, true, true, true, true, false, true, false] rfl rfl (by kernel_rfl) (fun _ _ _ h => h) (Or.inl ⟨by rfl, ?_⟩) ?_ ?_
      rotate_left
      · intro w'
        go_simp
        with_reducible rfl
      rotate_left
      · simp only [Act.put, List.setIfInBounds_toArray, List.set_cons_zero, List.set_cons_succ, i64_w, i32_w]
        rfl
      refine pure_ (i := 10) (N := some 20) (v := ?_) (a' := ?_) #[true, true, true, true, true, true, true, true, true, true, true, true, false] rfl rfl (by kernel_rfl) (fun _ _ _ h => h) (Or.inl ⟨by rfl, ?_⟩) ?_ ?_
      rotate_left
      · intro w'
        go_simp
        with_reducible rfl
      rotate_left
      · simp only [Act.put, List.setIfInBounds_toArray, List.set_cons_zero, List.set_cons_succ, i64_w, i32_w]
        rfl
      refine last_ (i := 12) (N := none) #[true, true, true, true, true, true, true, true, true, true, true, true, true] rfl rfl (by kernel_rfl) (by decide) (fun K hK => ?_)
      refine step_ (by rfl) rfl (HD.store 27 (.tmp 4) (.tmp 20) rfl rfl (by repeat (first | exact Pick.here _ | apply Pick.there)) (by first | (go_simp; done) | (go_simp; rfl)) _ rfl info27s (by simp [Value.oneCell', Value.cells]) (by simp [Value.cells]) rfl) ?_
      rintro _ w5 ⟨rfl, H5⟩
      simp only [putsAt, Value.cells, List.setIfInBounds_toArray, List.set_cons_zero, List.set_cons_succ, List.toList_toArray] at H5
      replace HD := H5
      clear H5
      refine hK.out _ _ ?_
      clear hK K
      refine done_ (by kernel_rfl) ?_
      replace H := HD
      clear HD hHeld
      go_wp2_with (first | ((with_reducible refine gate_dst (N := 2) rfl ?_); refine ev_ rfl (H.new (cs := #[.int .u64 0, .int .u64 0, .int .u16 0, .slice none 0 0]) (t := 27) (by first | (go_simp; done) | (go_simp; rfl))) ?_; rintro _ w1 ⟨g2, rfl, H1⟩; replace H := H1; clear H1) | ((with_reducible refine gate_store (p := 2) rfl ?_); refine ev_ rfl (H.store 27 (.tmp 2) (.tmp 9) rfl rfl (by repeat (first | exact Pick.here _ | apply Pick.there)) (by first | (go_simp; done) | (go_simp; rfl)) _ rfl info27s (by simp [Value.oneCell', Value.cells]) (by simp [Value.cells]) rfl) ?_; rintro _ w1 ⟨rfl, H1⟩; (try simp only [putsAt, Value.cells, List.setIfInBounds_toArray, List.set_cons_zero, List.set_cons_succ, List.toList_toArray] at H1); replace H := H1; clear H1) | ((with_reducible refine gate_dst (N := 24) rfl ?_); refine Kd.event_run rfl (H.load1 24 (.tmp 23) rfl rfl (by repeat (first | exact Pick.here _ | apply Pick.there)) Try.underlying24 rfl rfl) ?_) | ((with_reducible refine gate_dst (N := 29) rfl ?_); refine Kd.event_run rfl (H.load1 24 (.tmp 28) rfl rfl (by repeat (first | exact Pick.here _ | apply Pick.there)) Try.underlying24 rfl rfl) ?_) | ((with_reducible refine gate_store (p := 2) rfl ?_); refine ev_ rfl (H.store 27 (.tmp 2) (.tmp 32) rfl rfl (by repeat (first | exact Pick.here _ | apply Pick.there)) (by first | (go_simp; done) | (go_simp; rfl)) _ rfl info27s (by simp [Value.oneCell', Value.cells]) (by simp [Value.cells]) rfl) ?_; rintro _ w1 ⟨rfl, H1⟩; (try simp only [putsAt, Value.cells, List.setIfInBounds_toArray, List.set_cons_zero, List.set_cons_succ, List.toList_toArray] at H1); replace H := H1; clear H1) | ((with_reducible refine gate_store (p := 2) rfl ?_); refine ev_ rfl (H.store 27 (.tmp 2) (.tmp 42) rfl rfl (by repeat (first | exact Pick.here _ | apply Pick.there)) (by first | (go_simp; done) | (go_simp; rfl)) _ rfl info27s (by simp [Value.oneCell', Value.cells]) (by simp [Value.cells]) rfl) ?_; rintro _ w1 ⟨rfl, H1⟩; (try simp only [putsAt, Value.cells, List.setIfInBounds_toArray, List.set_cons_zero, List.set_cons_succ, List.toList_toArray] at H1); replace H := H1; clear H1) | ((with_reducible refine gate_dst (N := 44) rfl ?_); refine Kd.event_run rfl (H.load1 24 (.tmp 43) rfl rfl (by repeat (first | exact Pick.here _ | apply Pick.there)) Try.underlying24 rfl rfl) ?_) | ((with_reducible refine gate_store (p := 2) rfl ?_); refine ev_ rfl (H.store 27 (.tmp 2) (.tmp 46) rfl rfl (by repeat (first | exact Pick.here _ | apply Pick.there)) (by first | (go_simp; done) | (go_simp; rfl)) _ rfl info27s (by simp [Value.oneCell', Value.cells]) (by simp [Value.cells]) rfl) ?_; rintro _ w1 ⟨rfl, H1⟩; (try simp only [putsAt, Value.cells, List.setIfInBounds_toArray, List.set_cons_zero, List.set_cons_succ, List.toList_toArray] at H1); replace H := H1; clear H1) | ((with_reducible refine gate_store (p := 2) rfl ?_); refine ev_ rfl (H.store 27 (.tmp 2) (.tmp 50) rfl rfl (by repeat (first | exact Pick.here _ | apply Pick.there)) (by first | (go_simp; done) | (go_simp; rfl)) _ rfl info27s (by simp [Value.oneCell', Value.cells]) (by simp [Value.cells]) rfl) ?_; rintro _ w1 ⟨rfl, H1⟩; (try simp only [putsAt, Value.cells, List.setIfInBounds_toArray, List.set_cons_zero, List.set_cons_succ, List.toList_toArray] at H1); replace H := H1; clear H1) | ((with_reducible refine gate_dst (N := 52) rfl ?_); refine Kd.event_run rfl (H.load1 25 (.tmp 51) rfl rfl (by repeat (first | exact Pick.here _ | apply Pick.there)) Try.underlying25 rfl rfl) ?_) | ((with_reducible refine gate_store (p := 55) rfl ?_); refine ev_ rfl (H.store 25 (.tmp 55) (.tmp 54) rfl rfl (by repeat (first | exact Pick.here _ | apply Pick.there)) (by first | (go_simp; done) | (go_simp; rfl)) _ rfl info25s (by simp [Value.oneCell', Value.cells]) (by simp [Value.cells]) rfl) ?_; rintro _ w1 ⟨rfl, H1⟩; (try simp only [putsAt, Value.cells, List.setIfInBounds_toArray, List.set_cons_zero, List.set_cons_succ, List.toList_toArray] at H1); replace H := H1; clear H1) | ((with_reducible refine gate_store (p := 2) rfl ?_); refine ev_ rfl (H.store 27 (.tmp 2) (.tmp 56) rfl rfl (by repeat (first | exact Pick.here _ | apply Pick.there)) (by first | (go_simp; done) | (go_simp; rfl)) _ rfl info27s (by simp [Value.oneCell', Value.cells]) (by simp [Value.cells]) rfl) ?_; rintro _ w1 ⟨rfl, H1⟩; (try simp only [putsAt, Value.cells, List.setIfInBounds_toArray, List.set_cons_zero, List.set_cons_succ, List.toList_toArray] at H1); replace H := H1; clear H1) | ((with_reducible refine gate_dst (N := 22) rfl ?_); refine Kd.event_run rfl (v := .slice (cutA A c 14) (bs.length - 14) (c - 14)) (w1 := _) (run_cut (t := 25) (e := 5) (j := 14) rfl rfl rfl Try.underlying25 info5s (by omega) _) ?_))
      refine bodyPost_ret (H.ret_ct (p := 2) (u := 3) rfl (.here _) rfl Try.underlying27 rfl info27s) rfl ⟨_, _, rfl, ⟨.slice none 0 0, rfl, rfl⟩, ?_⟩
      exact (H.only).nil_row _ _
  · skip
    refine step_ (by rfl) rfl (HD.new (cs := #[.int .u64 0, .int .u64 0, .int .u16 0, .slice none 0 0]) (t := 27) (by first | (go_simp; done) | (go_simp; rfl))) ?_
    rintro _ w4 ⟨g4, rfl, H4⟩
    replace HD := H4
    clear H4
    refine hK.out _ _ (HD.only) (fun hHeld => ?_)
    clear hK K
    refine norm_ (a' := ?_) ?_ ?_
    rotate_left
    · show Act.put _ (some 4) _ = _
      simp only [Act.put, List.setIfInBounds_toArray, List.set_cons_zero, List.set_cons_succ, i64_w, i32_w]
      rfl
    refine one_ (i := 2) (N := some 12) #[true, true, true, true, true, false, true, true, false, false, false, true, false] rfl rfl (by kernel_rfl) (by decide) (fun K hK => ?_)
    refine goes_ Try.func38 (by kernel_rfl) rfl #[.slice A 6 c] (by rfl) rfl rfl (by simp only [List.map_toArray, List.map_cons, List.map_nil]; rfl) ?_
    refine HD.call0 (RefNum_calls _ A 6 c (bs.take 6) (HD.data C0.out) (by omega)) ?_
    rintro v l1 w3 ⟨hv, rfl⟩ H3
    rw [hT.out] at hv
    subst hv
    replace HD := H3
    clear H3
    refine ⟨_, rfl, ?_⟩
    refine hK.out _ _ (HD.only) (fun hHeld => ?_)
    clear hK K
    refine norm_ (a' := ?_) ?_ ?_
    rotate_left
    · show Act.put _ (some 12) _ = _
      simp only [Act.put, List.setIfInBounds_toArray, List.set_cons_zero, List.set_cons_succ, i64_w, i32_w]
      rfl
    refine one_ (i := 5) (N := some 15) #[true, true, true, true, true, true, true, true, false, false, false, true, false] rfl rfl (by kernel_rfl) (by decide) (fun K hK => ?_)
    refine goes_ Try.func38 (by kernel_rfl) rfl #[.slice (cutA A c 6) 6 (c - 6)] (by rfl) rfl rfl (by simp only [List.map_toArray, List.map_cons, List.map_nil]; rfl) ?_
    refine HD.call0 (RefNum_calls _ (cutA A c 6) 6 (c - 6) ((bs.drop 6).take 6) (HD.data C6.out) (by omega)) ?_
    rintro v l1 w3 ⟨hv, rfl⟩ H3
    rw [hS.out] at hv
    subst hv
    replace HD := H3
    clear H3
    refine ⟨_, rfl, ?_⟩
    refine hK.out _ _ (HD.only) (fun hHeld => ?_)
    clear hK K
    refine norm_ (a' := ?_) ?_ ?_
    rotate_left
    · show Act.put _ (some 15) _ = _
      simp only [Act.put, List.setIfInBounds_toArray, List.set_cons_zero, List.set_cons_succ, i64_w, i32_w]
      rfl
    refine one_ (i := 8) (N := some 18) #[true, true, true, true, true, true, true, true, true, false, false, true, false] rfl rfl (by kernel_rfl) (by decide) (fun K hK => ?_)
    refine goes_ Try.func38 (by kernel_rfl) rfl #[.slice (cutA A c 12) 2 (c - 12)] (by rfl) rfl rfl (by simp only [List.map_toArray, List.map_cons, List.map_nil]; rfl) ?_
    refine HD.call0 (RefNum_calls _ (cutA A c 12) 2 (c - 12) ((bs.drop 12).take 2) (HD.data C12.out) (by omega)) ?_
    rintro v l1 w3 ⟨hv, rfl⟩ H3
    rw [hKK.out] at hv
    subst hv
    replace HD := H3
    clear H3
    refine ⟨_, rfl, ?_⟩
    refine hK.out _ _ (HD.only) (fun hHeld => ?_)
    clear hK K
    refine norm_ (a' := ?_) ?_ ?_
    rotate_left
    · show Act.put _ (some 18) _ = _
      simp only [Act.put, List.setIfInBounds_toArray, List.set_cons_zero, List.set_cons_succ, i64_w, i32_w]
      rfl
    refine pure_ (i := 9) (N := some 19) (v := ?_) (a' := ?_) #[true, true, true, true, true, true, true, true, true, true, false, true, false] rfl rfl (by kernel_rfl) (fun _ _ _ h => h) (Or.inl ⟨by rfl, ?_⟩) ?_ ?_
    rotate_left
    · intro w'
      go_simp
      with_reducible rfl
    rotate_left
    · simp only [Act.put, List.setIfInBounds_toArray, List.set_cons_zero, List.set_cons_succ, i64_w, i32_w]
      rfl
    refine pure_ (i := 10) (N := some 20) (v := ?_) (a' := ?_) #[true, true, true, true, true, true, true, true, true, true, true, true, false] rfl rfl (by kernel_rfl) (fun _ _ _ h => h) (Or.inl ⟨by rfl, ?_⟩) ?_ ?_
    rotate_left
    · intro w'
      go_simp
      with_reducible rfl
    rotate_left
    · simp only [Act.put, List.setIfInBounds_toArray, List.set_cons_zero, List.set_cons_succ, i64_w, i32_w]
      rfl
    refine last_ (i := 12) (N := none) #[true, true, true, true, true, true, true, true, true, true, true, true, true] rfl rfl (by kernel_rfl) (by decide) (fun K hK => ?_)
    refine step_ (by rfl) rfl (HD.store 27 (.tmp 4) (.tmp 20) rfl rfl (by repeat (first | exact Pick.here _ | apply Pick.there)) (by first | (go_simp; done) | (go_simp; rfl)) _ rfl info27s (by simp [Value.oneCell', Value.cells]) (by simp [Value.cells]) rfl) ?_
    rintro _ w5 ⟨rfl, H5⟩
    simp only [putsAt, Value.cells, List.setIfInBounds_toArray, List.set_cons_zero, List.set_cons_succ, List.toList_toArray] at H5
    replace HD := H5
    clear H5
    refine hK.out _ _ ?_
    clear hK K
    refine done_ (by kernel_rfl) ?_
    replace H := HD
    clear HD hHeld
    go_wp2_with (first | ((with_reducible refine gate_dst (N := 2) rfl ?_); refine ev_ rfl (H.new (cs := #[.int .u64 0, .int .u64 0, .int .u16 0, .slice none 0 0]) (t := 27) (by first | (go_simp; done) | (go_simp; rfl))) ?_; rintro _ w1 ⟨g2, rfl, H1⟩; replace H := H1; clear H1) | ((with_reducible refine gate_store (p := 2) rfl ?_); refine ev_ rfl (H.store 27 (.tmp 2) (.tmp 9) rfl rfl (by repeat (first | exact Pick.here _ | apply Pick.there)) (by first | (go_simp; done) | (go_simp; rfl)) _ rfl info27s (by simp [Value.oneCell', Value.cells]) (by simp [Value.cells]) rfl) ?_; rintro _ w1 ⟨rfl, H1⟩; (try simp only [putsAt, Value.cells, List.setIfInBounds_toArray, List.set_cons_zero, List.set_cons_succ, List.toList_toArray] at H1); replace H := H1; clear H1) | ((with_reducible refine gate_dst (N := 24) rfl ?_); refine Kd.event_run rfl (H.load1 24 (.tmp 23) rfl rfl (by repeat (first | exact Pick.here _ | apply Pick.there)) Try.underlying24 rfl rfl) ?_) | ((with_reducible refine gate_dst (N := 29) rfl ?_); refine Kd.event_run rfl (H.load1 24 (.tmp 28) rfl rfl (by repeat (first | exact Pick.here _ | apply Pick.there)) Try.underlying24 rfl rfl) ?_) | ((with_reducible refine gate_store (p := 2) rfl ?_); refine ev_ rfl (H.store 27 (.tmp 2) (.tmp 32) rfl rfl (by repeat (first | exact Pick.here _ | apply Pick.there)) (by first | (go_simp; done) | (go_simp; rfl)) _ rfl info27s (by simp [Value.oneCell', Value.cells]) (by simp [Value.cells]) rfl) ?_; rintro _ w1 ⟨rfl, H1⟩; (try simp only [putsAt, Value.cells, List.setIfInBounds_toArray, List.set_cons_zero, List.set_cons_succ, List.toList_toArray] at H1); replace H := H1; clear H1) | ((with_reducible refine gate_store (p := 2) rfl ?_); refine ev_ rfl (H.store 27 (.tmp 2) (.tmp 42) rfl rfl (by repeat (first | exact Pick.here _ | apply Pick.there)) (by first | (go_simp; done) | (go_simp; rfl)) _ rfl info27s (by simp [Value.oneCell', Value.cells]) (by simp [Value.cells]) rfl) ?_; rintro _ w1 ⟨rfl, H1⟩; (try simp only [putsAt, Value.cells, List.setIfInBounds_toArray, List.set_cons_zero, List.set_cons_succ, List.toList_toArray] at H1); replace H := H1; clear H1) | ((with_reducible refine gate_dst (N := 44) rfl ?_); refine Kd.event_run rfl (H.load1 24 (.tmp 43) rfl rfl (by repeat (first | exact Pick.here _ | apply Pick.there)) Try.underlying24 rfl rfl) ?_) | ((with_reducible refine gate_store (p := 2) rfl ?_); refine ev_ rfl (H.store 27 (.tmp 2) (.tmp 46) rfl rfl (by repeat (first | exact Pick.here _ | apply Pick.there)) (by first | (go_simp; done) | (go_simp; rfl)) _ rfl info27s (by simp [Value.oneCell', Value.cells]) (by simp [Value.cells]) rfl) ?_; rintro _ w1 ⟨rfl, H1⟩; (try simp only [putsAt, Value.cells, List.setIfInBounds_toArray, List.set_cons_zero, List.set_cons_succ, List.toList_toArray] at H1); replace H := H1; clear H1) | ((with_reducible refine gate_store (p := 2) rfl ?_); refine ev_ rfl (H.store 27 (.tmp 2) (.tmp 50) rfl rfl (by repeat (first | exact Pick.here _ | apply Pick.there)) (by first | (go_simp; done) | (go_simp; rfl)) _ rfl info27s (by simp [Value.oneCell', Value.cells]) (by simp [Value.cells]) rfl) ?_; rintro _ w1 ⟨rfl, H1⟩; (try simp only [putsAt, Value.cells, List.setIfInBounds_toArray, List.set_cons_zero, List.set_cons_succ, List.toList_toArray] at H1); replace H := H1; clear H1) | ((with_reducible refine gate_dst (N := 52) rfl ?_); refine Kd.event_run rfl (H.load1 25 (.tmp 51) rfl rfl (by repeat (first | exact Pick.here _ | apply Pick.there)) Try.underlying25 rfl rfl) ?_) | ((with_reducible refine gate_store (p := 55) rfl ?_); refine ev_ rfl (H.store 25 (.tmp 55) (.tmp 54) rfl rfl (by repeat (first | exact Pick.here _ | apply Pick.there)) (by first | (go_simp; done) | (go_simp; rfl)) _ rfl info25s (by simp [Value.oneCell', Value.cells]) (by simp [Value.cells]) rfl) ?_; rintro _ w1 ⟨rfl, H1⟩; (try simp only [putsAt, Value.cells, List.setIfInBounds_toArray, List.set_cons_zero, List.set_cons_succ, List.toList_toArray] at H1); replace H := H1; clear H1) | ((with_reducible refine gate_store (p := 2) rfl ?_); refine ev_ rfl (H.store 27 (.tmp 2) (.tmp 56) rfl rfl (by repeat (first | exact Pick.here _ | apply Pick.there)) (by first | (go_simp; done) | (go_simp; rfl)) _ rfl info27s (by simp [Value.oneCell', Value.cells]) (by simp [Value.cells]) rfl) ?_; rintro _ w1 ⟨rfl, H1⟩; (try simp only [putsAt, Value.cells, List.setIfInBounds_toArray, List.set_cons_zero, List.set_cons_succ, List.toList_toArray] at H1); replace H := H1; clear H1) | ((with_reducible refine gate_dst (N := 22) rfl ?_); refine Kd.event_run rfl (v := .slice (cutA A c 14) (bs.length - 14) (c - 14)) (w1 := _) (run_cut (t := 25) (e := 5) (j := 14) rfl rfl rfl Try.underlying25 info5s (by omega) _) ?_))
    refine bodyPost_ret (H.ret_ct (p := 2) (u := 3) rfl (.here _) rfl Try.underlying27 rfl info27s) rfl ⟨_, _, rfl, ⟨.slice none 0 0, rfl, rfl⟩, ?_⟩
    exact (H.only).nil_row _ _

set_option maxHeartbeats 1000000 in
set_option maxRecDepth 100000 in
theorem RefGet_fit (w : World) (A : Option Addr) (n c : Nat) (bs : List Int) (hb : (Kd.int .u8).C w A n bs) (hc : n ≤ c) (hn : n ≤ 100000) (hby : ∀ y ∈ bs, 0 ≤ y ∧ y ≤ 255) (h14 : 14 ≤ bs.length) (t s : Int) (k : Nat) (hTe : numR ((bs.drop 0).take 6) = t) (hSe : numR ((bs.drop 6).take 6) = s) (hKe : numR ((bs.drop 12).take 2) = (k : Int)) (hk : k ≤ 1500) (hl : 14 + k ≤ bs.length) :
    Calls Try.prog 22 #[.slice A n c] w (Ret (fun _ => False) w (frAns (getF bs))) := by
  have H := Hp.nothing w
  obtain rfl : bs.length = n := hb.1
  replace hb := Aside0.mk hb
  replace hc := Aside0.mk hc
  have hn2 := Aside0.mk hn
  have hg : getF bs = (t, s, (k : Int), (bs.drop 14).take k, 0) := by
    unfold getF kindL
    rw [if_neg (by omega), hKe, hTe, hSe]
    rw [if_pos (by omega), if_neg (by omega), Int.toNat_natCast]
  rw [hg]
  have rK := numR_lt ((bs.drop 12).take 2) (bytes_part hby 12 2) 2 (by simp; omega) (by decide)
  rw [hKe] at rK
  have k1 : k < 65536 := by have := rK.2; simp at this; omega
  have kw : IntKind.u16.wrap (k : Int) = (k : Int) := by rw [IntKind.wrap_u16]; omega
  have kw2 : IntKind.i64.wrap (k : Int) = (k : Int) := by rw [IntKind.wrap_i64]; omega
  have kw3 : wrap64 (k : Int) = (k : Int) := by unfold wrap64; omega
  have C0 : (Kd.int .u8).C w A 6 (bs.take 6) := C_front hb.out 6 (by omega)
  have C6 : (Kd.int .u8).C w (cutA A c 6) 6 ((bs.drop 6).take 6) := C_front (C_cutS (h1 := fun _ => rfl) hb.out 6 (by omega) hc.out) 6 (by omega)
  have C12 : (Kd.int .u8).C w (cutA A c 12) 2 ((bs.drop 12).take 2) := C_front (C_cutS (h1 := fun _ => rfl) hb.out 12 (by omega) hc.out) 2 (by omega)
  have C14 : (Kd.int .u8).C w (cutA A c 14) (bs.length - 14) (bs.drop 14) := C_cutS (h1 := fun _ => rfl) hb.out 14 (by omega) hc.out
  rw [List.drop_zero] at hTe
  have hT := Aside0.mk hTe
  have hS := Aside0.mk hSe
  have hKK := Aside0.mk hKe
  replace C0 := Aside0.mk C0
  replace C6 := Aside0.mk C6
  replace C12 := Aside0.mk C12
  replace C14 := Aside0.mk C14
  have d14 : decide (bs.length < 14) = false := decide_eq_false (by omega)
  have d14I : decide ((bs.length : Int) < 14) = false := decide_eq_false (by omega)
  clear rK hTe hSe hKe hby hg
  have c1 : decide (k ≤ 1500) = true := decide_eq_true (by omega)
  have c1I : decide ((k : Int) ≤ 1500) = true := decide_eq_true (by omega)
  have c5 : decide (bs.length - 14 < k) = false := decide_eq_false (by omega)
  have c5I : decide (((bs.length - 14 : Nat) : Int) < (k : Int)) = false := decide_eq_false (by omega)
  go_enter Try.func22, Try.ntmps22
  go_wp2_with (first | ((with_reducible refine gate_dst (N := 2) rfl ?_); refine ev_ rfl (H.new (cs := #[.int .u64 0, .int .u64 0, .int .u16 0, .slice none 0 0]) (t := 27) (by first | (go_simp; done) | (go_simp; rfl))) ?_; rintro _ w1 ⟨g2, rfl, H1⟩; replace H := H1; clear H1))
  refine startH H.only (n := 13) [12] #[false, false, false, false, false, false, false, false, false, false, false, false, false] (by kernel_rfl) rfl rfl (fun hHeld => ?_)
  have HD := H.drew
  refine pure_ (i := 0) (N := some 10) (v := ?_) (a' := ?_) #[true, false, false, false, false, false, false, false, false, false, false, false, false] rfl rfl (by kernel_rfl) (fun _ _ _ h => h) (Or.inl ⟨by rfl, ?_⟩) ?_ ?_
  rotate_left
  · intro w'
    go_simp
    with_reducible rfl
  rotate_left
  · simp only [Act.put, List.setIfInBounds_toArray, List.set_cons_zero, List.set_cons_succ, i64_w, i32_w]
    rfl
  refine pure_ (i := 1) (N := some 11) (v := .slice A 6 c) (a' := ?_) #[true, true, false, false, false, false, false, false, false, false, false, false, false] rfl rfl (by kernel_rfl) (fun _ _ _ h => h) (Or.inl ⟨by rfl, run_cut3 (t := 25) (e := 5) (j := 6) rfl rfl rfl Try.underlying25 info5s (by omega) hc.out⟩) ?_ ?_
  rotate_left
  · simp only [Act.put, List.setIfInBounds_toArray, List.set_cons_zero, List.set_cons_succ, i64_w, i32_w]
    rfl
  refine pure_ (i := 3) (N := some 13) (v := ?_) (a' := ?_) #[true, true, false, true, false, false, false, false, false, false, false, false, false] rfl rfl (by kernel_rfl) (fun _ _ _ h => h) (Or.inl ⟨by rfl, ?_⟩) ?_ ?_
  rotate_left
  · intro w'
    go_simp
    with_reducible rfl
  rotate_left
  · simp only [Act.put, List.setIfInBounds_toArray, List.set_cons_zero, List.set_cons_succ, i64_w, i32_w]
    rfl
  refine pure_ (i := 4) (N := some 14) (v := .slice (cutA A c 6) 6 (c - 6)) (a' := ?_) #[true, true, false, true, true, false, false, false, false, false, false, false, false] rfl rfl (by kernel_rfl) (fun _ _ _ h => h) (Or.inl ⟨by rfl, run_cut2 (t := 25) (e := 5) (i := 6) (j := 12) rfl rfl rfl rfl Try.underlying25 info5s (by omega) (by omega) hc.out⟩) ?_ ?_
  rotate_left
  · simp only [Act.put, List.setIfInBounds_toArray, List.set_cons_zero, List.set_cons_succ, i64_w, i32_w]
    rfl
  refine pure_ (i := 6) (N := some 16) (v := ?_) (a' := ?_) #[true, true, false, true, true, false, true, false, false, false, false, false, false] rfl rfl (by kernel_rfl) (fun _ _ _ h => h) (Or.inl ⟨by rfl, ?_⟩) ?_ ?_
  rotate_left
  · intro w'
    go_simp
    with_reducible rfl
  rotate_left
  · simp only [Act.put, List.setIfInBounds_toArray, List.set_cons_zero, List.set_cons_succ, i64_w, i32_w]
    rfl
  refine pure_ (i := 7) (N := some 17) (v := .slice (cutA A c 12) 2 (c - 12)) (a' := ?_) #[true, true, false, true, true, false, true, true, false, false, false, false, false] rfl rfl (by kernel_rfl) (fun _ _ _ h => h) (Or.inl ⟨by rfl, run_cut2 (t := 25) (e := 5) (i := 12) (j := 14) rfl rfl rfl rfl Try.underlying25 info5s (by omega) (by omega) hc.out⟩) ?_ ?_
  rotate_left
  · simp only [Act.put, List.setIfInBounds_toArray, List.set_cons_zero, List.set_cons_succ, i64_w, i32_w]
    rfl
  refine two_ (i := 2) (j := 11) (Ni := some 12) (Nj := some 4) #[true, true, true, true, true, false, true, true, false, false, false, false, false] #[true, true, false, true, true, false, true, true, false, false, false, true, false] rfl rfl rfl rfl (by kernel_rfl) (by decide) (by decide) (fun K hK => ?_) (fun K hK => ?_)
  · skip
    refine goes_ Try.func38 (by kernel_rfl) rfl #[.slice A 6 c] (by rfl) rfl rfl (by simp only [List.map_toArray, List.map_cons, List.map_nil]; rfl) ?_
    refine HD.call0 (RefNum_calls _ A 6 c (bs.take 6) (HD.data C0.out) (by omega)) ?_
    rintro v l1 w3 ⟨hv, rfl⟩ H3
    rw [hT.out] at hv
    subst hv
    replace HD := H3
    clear H3
    refine ⟨_, rfl, ?_⟩
    refine hK.out _ _ (HD.only) (fun hHeld => ?_)
    clear hK K
    refine norm_ (a' := ?_) ?_ ?_
    rotate_left
    · show Act.put _ (some 12) _ = _
      simp only [Act.put, List.setIfInBounds_toArray, List.set_cons_zero, List.set_cons_succ, i64_w, i32_w]
      rfl
    refine two_ (i := 5) (j := 11) (Ni := some 15) (Nj := some 4) #[true, true, true, true, true, true, true, true, false, false, false, false, false] #[true, true, true, true, true, false, true, true, false, false, false, true, false] rfl rfl rfl rfl (by kernel_rfl) (by decide) (by decide) (fun K hK => ?_) (fun K hK => ?_)
    · skip
      refine goes_ Try.func38 (by kernel_rfl) rfl #[.slice (cutA A c 6) 6 (c - 6)] (by rfl) rfl rfl (by simp only [List.map_toArray, List.map_cons, List.map_nil]; rfl) ?_
      refine HD.call0 (RefNum_calls _ (cutA A c 6) 6 (c - 6) ((bs.drop 6).take 6) (HD.data C6.out) (by omega)) ?_
      rintro v l1 w3 ⟨hv, rfl⟩ H3
      rw [hS.out] at hv
      subst hv
      replace HD := H3
      clear H3
      refine ⟨_, rfl, ?_⟩
      refine hK.out _ _ (HD.only) (fun hHeld => ?_)
      clear hK K
      refine norm_ (a' := ?_) ?_ ?_
      rotate_left
      · show Act.put _ (some 15) _ = _
        simp only [Act.put, List.setIfInBounds_toArray, List.set_cons_zero, List.set_cons_succ, i64_w, i32_w]
        rfl
      refine two_ (i := 8) (j := 11) (Ni := some 18) (Nj := some 4) #[true, true, true, true, true, true, true, true, true, false, false, false, false] #[true, true, true, true, true, true, true, true, false, false, false, true, false] rfl rfl rfl rfl (by kernel_rfl) (by decide) (by decide) (fun K hK => ?_) (fun K hK => ?_)
      · skip
        refine goes_ Try.func38 (by kernel_rfl) rfl #[.slice (cutA A c 12) 2 (c - 12)] (by rfl) rfl rfl (by simp only [List.map_toArray, List.map_cons, List.map_nil]; rfl) ?_
        refine HD.call0 (RefNum_calls _ (cutA A c 12) 2 (c - 12) ((bs.drop 12).take 2) (HD.data C12.out) (by omega)) ?_
        rintro v l1 w3 ⟨hv, rfl⟩ H3
        rw [hKK.out] at hv
        subst hv
        replace HD := H3
        clear H3
        refine ⟨_, rfl, ?_⟩
        refine hK.out _ _ (HD.only) (fun hHeld => ?_)
        clear hK K
        refine norm_ (a' := ?_) ?_ ?_
        rotate_left
        · show Act.put _ (some 18) _ = _
          simp only [Act.put, List.setIfInBounds_toArray, List.set_cons_zero, List.set_cons_succ, i64_w, i32_w]
          rfl
        refine pure_ (i := 9) (N := some 19) (v := ?_) (a' := ?_) #[true, true, true, true, true, true, true, true, true, true, false, false, false] rfl rfl (by kernel_rfl) (fun _ _ _ h => h) (Or.inl ⟨by rfl, ?_⟩) ?_ ?_
        rotate_left
        · intro w'
          go_simp
          with_reducible rfl
        rotate_left
        · simp only [Act.put, List.setIfInBounds_toArray, List.set_cons_zero, List.set_cons_succ, i64_w, i32_w]
          rfl
        refine pure_ (i := 10) (N := some 20) (v := ?_) (a' := ?_) #[true, true, true, true, true, true, true, true, true, true, true, false, false] rfl rfl (by kernel_rfl) (fun _ _ _ h => h) (Or.inl ⟨by rfl, ?_⟩) ?_ ?_
        rotate_left
        · intro w'
          go_simp
          with_reducible rfl
        rotate_left
        · simp only [Act.put, List.setIfInBounds_toArray, List.set_cons_zero, List.set_cons_succ, i64_w, i32_w]
          rfl
        refine one_ (i := 11) (N := some 4) #[true, true, true, true, true, true, true, true, true, true, true, true, false] rfl rfl (by kernel_rfl) (by decide) (fun K hK => ?_)
        refine step_ (by rfl) rfl (HD.new (cs := #[.int .u64 0, .int .u64 0, .int .u16 0, .slice none 0 0]) (t := 27) (by first | (go_simp; done) | (go_simp; rfl))) ?_
        rintro _ w4 ⟨g4, rfl, H4⟩
        replace HD := H4
        clear H4
        refine hK.out _ _ (HD.only) (fun hHeld => ?_)
        clear hK K
        refine norm_ (a' := ?_) ?_ ?_
        rotate_left
        · show Act.put _ (some 4) _ = _
          simp only [Act.put, List.setIfInBounds_toArray, List.set_cons_zero, List.set_cons_succ, i64_w, i32_w]
          rfl
        refine last_ (i := 12) (N := none) #[true, true, true, true, true, true, true, true, true, true, true, true, true] rfl rfl (by kernel_rfl) (by decide) (fun K hK => ?_)
        refine step_ (by rfl) rfl (HD.store 27 (.tmp 4) (.tmp 20) rfl rfl (by repeat (first | exact Pick.here _ | apply Pick.there)) (by first | (go_simp; done) | (go_simp; rfl)) _ rfl info27s (by simp [Value.oneCell', Value.cells]) (by simp [Value.cells]) rfl) ?_
        rintro _ w5 ⟨rfl, H5⟩
        simp only [putsAt, Value.cells, List.setIfInBounds_toArray, List.set_cons_zero, List.set_cons_succ, List.toList_toArray] at H5
        replace HD := H5
        clear H5
        refine hK.out _ _ ?_
        clear hK K
        refine done_ (by kernel_rfl) ?_
        replace H := HD
        clear HD hHeld
        go_wp2_with (first | ((with_reducible refine gate_dst (N := 2) rfl ?_); refine ev_ rfl (H.new (cs := #[.int .u64 0, .int .u64 0, .int .u16 0, .slice none 0 0]) (t := 27) (by first | (go_simp; done) | (go_simp; rfl))) ?_; rintro _ w1 ⟨g2, rfl, H1⟩; replace H := H1; clear H1) | ((with_reducible refine gate_store (p := 2) rfl ?_); refine ev_ rfl (H.store 27 (.tmp 2) (.tmp 9) rfl rfl (by repeat (first | exact Pick.here _ | apply Pick.there)) (by first | (go_simp; done) | (go_simp; rfl)) _ rfl info27s (by simp [Value.oneCell', Value.cells]) (by simp [Value.cells]) rfl) ?_; rintro _ w1 ⟨rfl, H1⟩; (try simp only [putsAt, Value.cells, List.setIfInBounds_toArray, List.set_cons_zero, List.set_cons_succ, List.toList_toArray] at H1); replace H := H1; clear H1) | ((with_reducible refine gate_dst (N := 24) rfl ?_); refine Kd.event_run rfl (H.load1 24 (.tmp 23) rfl rfl (by repeat (first | exact Pick.here _ | apply Pick.there)) Try.underlying24 rfl rfl) ?_) | ((with_reducible refine gate_dst (N := 29) rfl ?_); refine Kd.event_run rfl (H.load1 24 (.tmp 28) rfl rfl (by repeat (first | exact Pick.here _ | apply Pick.there)) Try.underlying24 rfl rfl) ?_) | ((with_reducible refine gate_store (p := 2) rfl ?_); refine ev_ rfl (H.store 27 (.tmp 2) (.tmp 32) rfl rfl (by repeat (first | exact Pick.here _ | apply Pick.there)) (by first | (go_simp; done) | (go_simp; rfl)) _ rfl info27s (by simp [Value.oneCell', Value.cells]) (by simp [Value.cells]) rfl) ?_; rintro _ w1 ⟨rfl, H1⟩; (try simp only [putsAt, Value.cells, List.setIfInBounds_toArray, List.set_cons_zero, List.set_cons_succ, List.toList_toArray] at H1); replace H := H1; clear H1) | ((with_reducible refine gate_store (p := 2) rfl ?_); refine ev_ rfl (H.store 27 (.tmp 2) (.tmp 42) rfl rfl (by repeat (first | exact Pick.here _ | apply Pick.there)) (by first | (go_simp; done) | (go_simp; rfl)) _ rfl info27s (by simp [Value.oneCell', Value.cells]) (by simp [Value.cells]) rfl) ?_; rintro _ w1 ⟨rfl, H1⟩; (try simp only [putsAt, Value.cells, List.setIfInBounds_toArray, List.set_cons_zero, List.set_cons_succ, List.toList_toArray] at H1); replace H := H1; clear H1) | ((with_reducible refine gate_dst (N := 44) rfl ?_); refine Kd.event_run rfl (H.load1 24 (.tmp 43) rfl rfl (by repeat (first | exact Pick.here _ | apply Pick.there)) Try.underlying24 rfl rfl) ?_) | ((with_reducible refine gate_store (p := 2) rfl ?_); refine ev_ rfl (H.store 27 (.tmp 2) (.tmp 46) rfl rfl (by repeat (first | exact Pick.here _ | apply Pick.there)) (by first | (go_simp; done) | (go_simp; rfl)) _ rfl info27s (by simp [Value.oneCell', Value.cells]) (by simp [Value.cells]) rfl) ?_; rintro _ w1 ⟨rfl, H1⟩; (try simp only [putsAt, Value.cells, List.setIfInBounds_toArray, List.set_cons_zero, List.set_cons_succ, List.toList_toArray] at H1); replace H := H1; clear H1) | ((with_reducible refine gate_store (p := 2) rfl ?_); refine ev_ rfl (H.store 27 (.tmp 2) (.tmp 50) rfl rfl (by repeat (first | exact Pick.here _ | apply Pick.there)) (by first | (go_simp; done) | (go_simp; rfl)) _ rfl info27s (by simp [Value.oneCell', Value.cells]) (by simp [Value.cells]) rfl) ?_; rintro _ w1 ⟨rfl, H1⟩; (try simp only [putsAt, Value.cells, List.setIfInBounds_toArray, List.set_cons_zero, List.set_cons_succ, List.toList_toArray] at H1); replace H := H1; clear H1) | ((with_reducible refine gate_dst (N := 52) rfl ?_); refine Kd.event_run rfl (H.load1 25 (.tmp 51) rfl rfl (by repeat (first | exact Pick.here _ | apply Pick.there)) Try.underlying25 rfl rfl) ?_) | ((with_reducible refine gate_store (p := 55) rfl ?_); refine ev_ rfl (H.store 25 (.tmp 55) (.tmp 54) rfl rfl (by repeat (first | exact Pick.here _ | apply Pick.there)) (by first | (go_simp; done) | (go_simp; rfl)) _ rfl info25s (by simp [Value.oneCell', Value.cells]) (by simp [Value.cells]) rfl) ?_; rintro _ w1 ⟨rfl, H1⟩; (try simp only [putsAt, Value.cells, List.setIfInBounds_toArray, List.set_cons_zero, List.set_cons_succ, List.toList_toArray] at H1); replace H := H1; clear H1) | ((with_reducible refine gate_store (p := 2) rfl ?_); refine ev_ rfl (H.store 27 (.tmp 2) (.tmp 56) rfl rfl (by repeat (first | exact Pick.here _ | apply Pick.there)) (by first | (go_simp; done) | (go_simp; rfl)) _ rfl info27s (by simp [Value.oneCell', Value.cells]) (by simp [Value.cells]) rfl) ?_; rintro _ w1 ⟨rfl, H1⟩; (try simp only [putsAt, Value.cells, List.setIfInBounds_toArray, List.set_cons_zero, List.set_cons_succ, List.toList_toArray] at H1); replace H := H1; clear H1) | ((with_reducible refine gate_dst (N := 22) rfl ?_); refine Kd.event_run rfl (v := .slice (cutA A c 14) (bs.length - 14) (c - 14)) (w1 := _) (run_cut (t := 25) (e := 5) (j := 14) rfl rfl rfl Try.underlying25 info5s (by omega) _) ?_))
        refine startH H (n := 10) [9] #[false, false, false, false, false, false, false, false, false, false] (by kernel_rfl) rfl rfl (fun hHeld => ?_)
        refine pure_ (i := 0) (N := some 33) (v := ?_) (a' := ?_) #[true, false, false, false, false, false, false, false, false, false] rfl rfl (by kernel_rfl) (fun _ _ _ h => h) (Or.inl ⟨by rfl, ?_⟩) ?_ ?_
        rotate_left
        · intro w'
          go_simp
          with_reducible rfl
        rotate_left
        · simp only [Act.put, List.setIfInBounds_toArray, List.set_cons_zero, List.set_cons_succ, i64_w, i32_w]
          rfl
        refine pure_ (i := 2) (N := some 35) (v := ?_) (a' := ?_) #[true, false, true, false, false, false, false, false, false, false] rfl rfl (by kernel_rfl) (fun _ _ _ h => h) (Or.inl ⟨by rfl, ?_⟩) ?_ ?_
        rotate_left
        · intro w'
          go_simp
          with_reducible rfl
        rotate_left
        · simp only [Act.put, List.setIfInBounds_toArray, List.set_cons_zero, List.set_cons_succ, i64_w, i32_w]
          rfl
        refine pure_ (i := 3) (N := some 36) (v := ?_) (a' := ?_) #[true, false, true, true, false, false, false, false, false, false] rfl rfl (by kernel_rfl) (fun _ _ _ h => h) (Or.inl ⟨by rfl, ?_⟩) ?_ ?_
        rotate_left
        · intro w'
          go_simp
          with_reducible rfl
        rotate_left
        · simp only [Act.put, List.setIfInBounds_toArray, List.set_cons_zero, List.set_cons_succ, i64_w, i32_w]
          rfl
        refine take_ (i := 1) (N := some 34) (v := _) (a' := ?_) #[true, true, true, true, false, false, false, false, false, false] rfl rfl (by kernel_rfl) (fun _ _ _ h => h) (Or.inl ⟨by rfl, fun w2 h => h.load1 25 (.tmp 33) rfl rfl (by repeat (first | exact Pick.here _ | apply Pick.there)) Try.underlying25 rfl rfl⟩) hHeld ?_ ?_
        rotate_left
        · simp only [Act.put, List.setIfInBounds_toArray, List.set_cons_zero, List.set_cons_succ, i64_w, i32_w]
          rfl
        refine take_ (i := 4) (N := some 37) (v := _) (a' := ?_) #[true, true, true, true, true, false, false, false, false, false] rfl rfl (by kernel_rfl) (fun _ _ _ h => h) (Or.inl ⟨by rfl, fun w2 h => h.load1 24 (.tmp 36) rfl rfl (by repeat (first | exact Pick.here _ | apply Pick.there)) Try.underlying24 rfl rfl⟩) hHeld ?_ ?_
        rotate_left
        · simp only [Act.put, List.setIfInBounds_toArray, List.set_cons_zero, List.set_cons_succ, i64_w, i32_w]
          rfl
        refine pure_ (i := 5) (N := some 38) (v := ?_) (a' := ?_) #[true, true, true, true, true, true, false, false, false, false] rfl rfl (by kernel_rfl) (fun _ _ _ h => h) (Or.inl ⟨by rfl, ?_⟩) ?_ ?_
        rotate_left
        · intro w'
          go_simp
          with_reducible rfl
        rotate_left
        · simp only [Act.put, List.setIfInBounds_toArray, List.set_cons_zero, List.set_cons_succ, i64_w, i32_w]
          rfl
        refine pure_ (i := 6) (N := some 39) (v := .slice (cutA A c 14) k (c - 14)) (a' := ?_) #[true, true, true, true, true, true, true, false, false, false] rfl rfl (by kernel_rfl) (fun _ _ _ h => h) (Or.inl ⟨by rfl, run_cut3 (t := 25) (e := 5) (j := k) rfl rfl rfl Try.underlying25 info5s (by omega) (by have := hc.out; omega)⟩) ?_ ?_
        rotate_left
        · simp only [Act.put, List.setIfInBounds_toArray, List.set_cons_zero, List.set_cons_succ, i64_w, i32_w]
          rfl
        refine one_ (i := 7) (N := some 40) #[true, true, true, true, true, true, true, true, false, false] rfl rfl (by kernel_rfl) (by decide) (fun K hK => ?_)
        refine step_ (by rfl) rfl ((hHeld.nil_row (Kd.int .u8) 5).appendS (.tmp 34) (.tmp 39) 25 (.int .u8 0) 1 rfl rfl (.here _) Try.underlying25 info5 rfl (by decide) rfl (hHeld.data (C_front C14.out k (by omega))) (by simp; omega)) ?_
        rintro v6 w6 H6
        simp only [List.nil_append] at H6
        have hdl : ((bs.drop 14).take k).length = k := (by simp; omega)
        obtain ⟨A5, c5, hv, hc5, HC5⟩ := H6.reads (.here _)
        rw [hdl] at hv
        subst hv
        clear hc5 HC5 hdl
        refine hK.out _ _ (H6.drop (.cons (.here _) (.nil _))) (fun hHeld => ?_)
        clear hK K
        refine norm_ (a' := ?_) ?_ ?_
        rotate_left
        · show Act.put _ (some 40) _ = _
          simp only [Act.put, List.setIfInBounds_toArray, List.set_cons_zero, List.set_cons_succ, i64_w, i32_w]
          rfl
        refine pure_ (i := 8) (N := some 41) (v := ?_) (a' := ?_) #[true, true, true, true, true, true, true, true, true, false] rfl rfl (by kernel_rfl) (fun _ _ _ h => h) (Or.inl ⟨by rfl, ?_⟩) ?_ ?_
        rotate_left
        · intro w'
          go_simp
          with_reducible rfl
        rotate_left
        · simp only [Act.put, List.setIfInBounds_toArray, List.set_cons_zero, List.set_cons_succ, i64_w, i32_w]
          rfl
        refine last_ (i := 9) (N := none) #[true, true, true, true, true, true, true, true, true, true] rfl rfl (by kernel_rfl) (by decide) (fun K hK => ?_)
        refine step_ (by rfl) rfl (H6.store 25 (.tmp 41) (.tmp 40) rfl rfl (by repeat (first | exact Pick.here _ | apply Pick.there)) (by first | (go_simp; done) | (go_simp; rfl)) _ rfl info25s (by simp [Value.oneCell', Value.cells]) (by simp [Value.cells]) rfl) ?_
        rintro _ w7 ⟨rfl, H7⟩
        simp only [putsAt, Value.cells, List.setIfInBounds_toArray, List.set_cons_zero, List.set_cons_succ, List.toList_toArray] at H7
        refine hK.out _ _ ?_
        clear hK K
        refine done_ (by kernel_rfl) ?_
        replace H := H7
        clear H7 H6 hHeld
        go_wp2_with (first | ((with_reducible refine gate_dst (N := 2) rfl ?_); refine ev_ rfl (H.new (cs := #[.int .u64 0, .int .u64 0, .int .u16 0, .slice none 0 0]) (t := 27) (by first | (go_simp; done) | (go_simp; rfl))) ?_; rintro _ w1 ⟨g2, rfl, H1⟩; replace H := H1; clear H1) | ((with_reducible refine gate_store (p := 2) rfl ?_); refine ev_ rfl (H.store 27 (.tmp 2) (.tmp 9) rfl rfl (by repeat (first | exact Pick.here _ | apply Pick.there)) (by first | (go_simp; done) | (go_simp; rfl)) _ rfl info27s (by simp [Value.oneCell', Value.cells]) (by simp [Value.cells]) rfl) ?_; rintro _ w1 ⟨rfl, H1⟩; (try simp only [putsAt, Value.cells, List.setIfInBounds_toArray, List.set_cons_zero, List.set_cons_succ, List.toList_toArray] at H1); replace H := H1; clear H1) | ((with_reducible refine gate_dst (N := 24) rfl ?_); refine Kd.event_run rfl (H.load1 24 (.tmp 23) rfl rfl (by repeat (first | exact Pick.here _ | apply Pick.there)) Try.underlying24 rfl rfl) ?_) | ((with_reducible refine gate_dst (N := 29) rfl ?_); refine Kd.event_run rfl (H.load1 24 (.tmp 28) rfl rfl (by repeat (first | exact Pick.here _ | apply Pick.there)) Try.underlying24 rfl rfl) ?_) | ((with_reducible refine gate_store (p := 2) rfl ?_); refine ev_ rfl (H.store 27 (.tmp 2) (.tmp 32) rfl rfl (by repeat (first | exact Pick.here _ | apply Pick.there)) (by first | (go_simp; done) | (go_simp; rfl)) _ rfl info27s (by simp [Value.oneCell', Value.cells]) (by simp [Value.cells]) rfl) ?_; rintro _ w1 ⟨rfl, H1⟩; (try simp only [putsAt, Value.cells, List.setIfInBounds_toArray, List.set_cons_zero, List.set_cons_succ, List.toList_toArray] at H1); replace H := H1; clear H1) | ((with_reducible refine gate_dst (N := 42) rfl ?_); refine Kd.event_run rfl (H.loadN 27 (.tmp 4) rfl rfl (by repeat (first | exact Pick.here _ | apply Pick.there)) #[.int .u64 t, .int .u64 s, .int .u16 (k : Int), .slice A5 k c5] Try.underlying27 rfl info27s (fun j u hj => by simpa using hj)) ?_) | ((with_reducible refine gate_store (p := 2) rfl ?_); refine ev_ rfl (H.store 27 (.tmp 2) (.tmp 42) rfl rfl (by repeat (first | exact Pick.here _ | apply Pick.there)) (by first | (go_simp; done) | (go_simp; rfl)) _ rfl info27s (by simp [Value.oneCell', Value.cells]) (by simp [Value.cells]) rfl) ?_; rintro _ w1 ⟨rfl, H1⟩; (try simp only [putsAt, Value.cells, List.setIfInBounds_toArray, List.set_cons_zero, List.set_cons_succ, List.toList_toArray] at H1); replace H := H1; clear H1) | ((with_reducible refine gate_dst (N := 44) rfl ?_); refine Kd.event_run rfl (H.load1 24 (.tmp 43) rfl rfl (by repeat (first | exact Pick.here _ | apply Pick.there)) Try.underlying24 rfl rfl) ?_) | ((with_reducible refine gate_store (p := 2) rfl ?_); refine ev_ rfl (H.store 27 (.tmp 2) (.tmp 46) rfl rfl (by repeat (first | exact Pick.here _ | apply Pick.there)) (by first | (go_simp; done) | (go_simp; rfl)) _ rfl info27s (by simp [Value.oneCell', Value.cells]) (by simp [Value.cells]) rfl) ?_; rintro _ w1 ⟨rfl, H1⟩; (try simp only [putsAt, Value.cells, List.setIfInBounds_toArray, List.set_cons_zero, List.set_cons_succ, List.toList_toArray] at H1); replace H := H1; clear H1) | ((with_reducible refine gate_store (p := 2) rfl ?_); refine ev_ rfl (H.store 27 (.tmp 2) (.tmp 50) rfl rfl (by repeat (first | exact Pick.here _ | apply Pick.there)) (by first | (go_simp; done) | (go_simp; rfl)) _ rfl info27s (by simp [Value.oneCell', Value.cells]) (by simp [Value.cells]) rfl) ?_; rintro _ w1 ⟨rfl, H1⟩; (try simp only [putsAt, Value.cells, List.setIfInBounds_toArray, List.set_cons_zero, List.set_cons_succ, List.toList_toArray] at H1); replace H := H1; clear H1) | ((with_reducible refine gate_dst (N := 52) rfl ?_); refine Kd.event_run rfl (H.load1 25 (.tmp 51) rfl rfl (by repeat (first | exact Pick.here _ | apply Pick.there)) Try.underlying25 rfl rfl) ?_) | ((with_reducible refine gate_store (p := 55) rfl ?_); refine ev_ rfl (H.store 25 (.tmp 55) (.tmp 54) rfl rfl (by repeat (first | exact Pick.here _ | apply Pick.there)) (by first | (go_simp; done) | (go_simp; rfl)) _ rfl info25s (by simp [Value.oneCell', Value.cells]) (by simp [Value.cells]) rfl) ?_; rintro _ w1 ⟨rfl, H1⟩; (try simp only [putsAt, Value.cells, List.setIfInBounds_toArray, List.set_cons_zero, List.set_cons_succ, List.toList_toArray] at H1); replace H := H1; clear H1) | ((with_reducible refine gate_store (p := 2) rfl ?_); refine ev_ rfl (H.store 27 (.tmp 2) (.tmp 56) rfl rfl (by repeat (first | exact Pick.here _ | apply Pick.there)) (by first | (go_simp; done) | (go_simp; rfl)) _ rfl info27s (by simp [Value.oneCell', Value.cells]) (by simp [Value.cells]) rfl) ?_; rintro _ w1 ⟨rfl, H1⟩; (try simp only [putsAt, Value.cells, List.setIfInBounds_toArray, List.set_cons_zero, List.set_cons_succ, List.toList_toArray] at H1); replace H := H1; clear H1))
        refine bodyPost_ret (H.ret_ct (p := 2) (u := 3) rfl (.here _) rfl Try.underlying27 rfl info27s) rfl ⟨_, _, rfl, ⟨_, rfl, rfl⟩, ?_⟩
        exact H.take (.cons (by repeat (first | exact Pick.here _ | apply Pick.there)) (.nil _))
      · skip
        refine step_ (by rfl) rfl (HD.new (cs := #[.int .u64 0, .int .u64 0, .int .u16 0, .slice none 0 0]) (t := 27) (by first | (go_simp; done) | (go_simp; rfl))) ?_
        rintro _ w4 ⟨g4, rfl, H4⟩
        replace HD := H4
        clear H4
        refine hK.out _ _ (HD.only) (fun hHeld => ?_)
        clear hK K
        refine norm_ (a' := ?_) ?_ ?_
        rotate_left
        · show Act.put _ (some 4) _ = _
          simp only [Act.put, List.setIfInBounds_toArray, List.set_cons_zero, List.set_cons_succ, i64_w, i32_w]
          rfl
        refine one_ (i := 8) (N := some 18) #[true, true, true, true, true, true, true, true, true, false, false, true, false] rfl rfl (by kernel_rfl) (by decide) (fun K hK => ?_)
        refine goes_ Try.func38 (by kernel_rfl) rfl #[.slice (cutA A c 12) 2 (c - 12)] (by rfl) rfl rfl (by simp only [List.map_toArray, List.map_cons, List.map_nil]; rfl) ?_
        refine HD.call0 (RefNum_calls _ (cutA A c 12) 2 (c - 12) ((bs.drop 12).take 2) (HD.data C12.out) (by omega)) ?_
        rintro v l1 w3 ⟨hv, rfl⟩ H3
        rw [hKK.out] at hv
        subst hv
        replace HD := H3
        clear H3
        refine ⟨_, rfl, ?_⟩
        refine hK.out _ _ (HD.only) (fun hHeld => ?_)
        clear hK K
        refine norm_ (a' := ?_) ?_ ?_
        rotate_left
        · show Act.put _ (some 18) _ = _
          simp only [Act.put, List.setIfInBounds_toArray, List.set_cons_zero, List.set_cons_succ, i64_w, i32_w]
          rfl
        refine pure_ (i := 9) (N := some 19) (v := ?_) (a' := ?_) #[true, true, true, true, true, true, true, true, true, true, false, true, false] rfl rfl (by kernel_rfl) (fun _ _ _ h => h) (Or.inl ⟨by rfl, ?_⟩) ?_ ?_
        rotate_left
        · intro w'
          go_simp
          with_reducible rfl
        rotate_left
        · simp only [Act.put, List.setIfInBounds_toArray, List.set_cons_zero, List.set_cons_succ, i64_w, i32_w]
          rfl
        refine pure_ (i := 10) (N := some 20) (v := ?_) (a' := ?_) #[true, true, true, true, true, true, true, true, true, true, true, true, false] rfl rfl (by kernel_rfl) (fun _ _ _ h => h) (Or.inl ⟨by rfl, ?_⟩) ?_ ?_
        rotate_left
        · intro w'
          go_simp
          with_reducible rfl
        rotate_left
        · simp only [Act.put, List.setIfInBounds_toArray, List.set_cons_zero, List.set_cons_succ, i64_w, i32_w]
          rfl
        refine last_ (i := 12) (N := none) #[true, true, true, true, true, true, true, true, true, true, true, true, true] rfl rfl (by kernel_rfl) (by decide) (fun K hK => ?_)
        refine step_ (by rfl) rfl (HD.store 27 (.tmp 4) (.tmp 20) rfl rfl (by repeat (first | exact Pick.here _ | apply Pick.there)) (by first | (go_simp; done) | (go_simp; rfl)) _ rfl info27s (by simp [Value.oneCell', Value.cells]) (by simp [Value.cells]) rfl) ?_
        rintro _ w5 ⟨rfl, H5⟩
        simp only [putsAt, Value.cells, List.setIfInBounds_toArray, List.set_cons_zero, List.set_cons_succ, List.toList_toArray] at H5
        replace HD := H5
        clear H5
        refine hK.out _ _ ?_
        clear hK K
        refine done_ (by kernel_rfl) ?_
        replace H := HD
        clear HD hHeld
        go_wp2_with (first | ((with_reducible refine gate_dst (N := 2) rfl ?_); refine ev_ rfl (H.new (cs := #[.int .u64 0, .int .u64 0, .int .u16 0, .slice none 0 0]) (t := 27) (by first | (go_simp; done) | (go_simp; rfl))) ?_; rintro _ w1 ⟨g2, rfl, H1⟩; replace H := H1; clear H1) | ((with_reducible refine gate_store (p := 2) rfl ?_); refine ev_ rfl (H.store 27 (.tmp 2) (.tmp 9) rfl rfl (by repeat (first | exact Pick.here _ | apply Pick.there)) (by first | (go_simp; done) | (go_simp; rfl)) _ rfl info27s (by simp [Value.oneCell', Value.cells]) (by simp [Value.cells]) rfl) ?_; rintro _ w1 ⟨rfl, H1⟩; (try simp only [putsAt, Value.cells, List.setIfInBounds_toArray, List.set_cons_zero, List.set_cons_succ, List.toList_toArray] at H1); replace H := H1; clear H1) | ((with_reducible refine gate_dst (N := 24) rfl ?_); refine Kd.event_run rfl (H.load1 24 (.tmp 23) rfl rfl (by repeat (first | exact Pick.here _ | apply Pick.there)) Try.underlying24 rfl rfl) ?_) | ((with_reducible refine gate_dst (N := 29) rfl ?_); refine Kd.event_run rfl (H.load1 24 (.tmp 28) rfl rfl (by repeat (first | exact Pick.here _ | apply Pick.there)) Try.underlying24 rfl rfl) ?_) | ((with_reducible refine gate_store (p := 2) rfl ?_); refine ev_ rfl (H.store 27 (.tmp 2) (.tmp 32) rfl rfl (by repeat (first | exact Pick.here _ | apply Pick.there)) (by first | (go_simp; done) | (go_simp; rfl)) _ rfl info27s (by simp [Value.oneCell', Value.cells]) (by simp [Value.cells]) rfl) ?_; rintro _ w1 ⟨rfl, H1⟩; (try simp only [putsAt, Value.cells, List.setIfInBounds_toArray, List.set_cons_zero, List.set_cons_succ, List.toList_toArray] at H1); replace H := H1; clear H1) | ((with_reducible refine gate_store (p := 2) rfl ?_); refine ev_ rfl (H.store 27 (.tmp 2) (.tmp 42) rfl rfl (by repeat (first | exact Pick.here _ | apply Pick.there)) (by first | (go_simp; done) | (go_simp; rfl)) _ rfl info27s (by simp [Value.oneCell', Value.cells]) (by simp [Value.cells]) rfl) ?_; rintro _ w1 ⟨rfl, H1⟩; (try simp only [putsAt, Value.cells, List.setIfInBounds_toArray, List.set_cons_zero, List.set_cons_succ, List.toList_toArray] at H1); replace H := H1; clear H1) | ((with_reducible refine gate_dst (N := 44) rfl ?_); refine Kd.event_run rfl (H.load1 24 (.tmp 43) rfl rfl (by repeat (first | exact Pick.here _ | apply Pick.there)) Try.underlying24 rfl rfl) ?_) | ((with_reducible refine gate_store (p := 2) rfl ?_); refine ev_ rfl (H.store 27 (.tmp 2) (.tmp 46) rfl rfl (by repeat (first | exact Pick.here _ | apply Pick.there)) (by first | (go_simp; done) | (go_simp; rfl)) _ rfl info27s (by simp [Value.oneCell', Value.cells]) (by simp [Value.cells]) rfl) ?_; rintro _ w1 ⟨rfl, H1⟩; (try simp only [putsAt, Value.cells, List.setIfInBounds_toArray, List.set_cons_zero, List.set_cons_succ, List.toList_toArray] at H1); replace H := H1; clear H1) | ((with_reducible refine gate_store (p := 2) rfl ?_); refine ev_ rfl (H.store 27 (.tmp 2) (.tmp 50) rfl rfl (by repeat (first | exact Pick.here _ | apply Pick.there)) (by first | (go_simp; done) | (go_simp; rfl)) _ rfl info27s (by simp [Value.oneCell', Value.cells]) (by simp [Value.cells]) rfl) ?_; rintro _ w1 ⟨rfl, H1⟩; (try simp only [putsAt, Value.cells, List.setIfInBounds_toArray, List.set_cons_zero, List.set_cons_succ, List.toList_toArray] at H1); replace H := H1; clear H1) | ((with_reducible refine gate_dst (N := 52) rfl ?_); refine Kd.event_run rfl (H.load1 25 (.tmp 51) rfl rfl (by repeat (first | exact Pick.here _ | apply Pick.there)) Try.underlying25 rfl rfl) ?_) | ((with_reducible refine gate_store (p := 55) rfl ?_); refine ev_ rfl (H.store 25 (.tmp 55) (.tmp 54) rfl rfl (by repeat (first | exact Pick.here _ | apply Pick.there)) (by first | (go_simp; done) | (go_simp; rfl)) _ rfl info25s (by simp [Value.oneCell', Value.cells]) (by simp [Value.cells]) rfl) ?_; rintro _ w1 ⟨rfl, H1⟩; (try simp only [putsAt, Value.cells, List.setIfInBounds_toArray, List.set_cons_zero, List.set_cons_succ, List.toList_toArray] at H1); replace H := H1; clear H1) | ((with_reducible refine gate_store (p := 2) rfl ?_); refine ev_ rfl (H.store 27 (.tmp 2) (.tmp 56) rfl rfl (by repeat (first | exact Pick.here _ | apply Pick.there)) (by first | (go_simp; done) | (go_simp; rfl)) _ rfl info27s (by simp [Value.oneCell', Value.cells]) (by simp [Value.cells]) rfl) ?_; rintro _ w1 ⟨rfl, H1⟩; (try simp only [putsAt, Value.cells, List.setIfInBounds_toArray, List.set_cons_zero, List.set_cons_succ, List.toList_toArray] at H1); replace H := H1; clear H1) | ((with_reducible refine gate_dst (N := 22) rfl ?_); refine Kd.event_run rfl (v := .slice (cutA A c 14) (bs.length - 14) (c - 14)) (w1 := _) (run_cut (t := 25) (e := 5) (j := 14) rfl rfl rfl Try.underlying25 info5s (by omega) _) ?_))
        refine startH H (n := 10) [9] #[false, false, false, false, false, false, false, false, false, false] (by kernel_rfl) rfl rfl (fun hHeld => ?_)
        refine pure_ (i := 0) (N := some 33) (v := ?_) (a' := ?_) #[true, false, false, false, false, false, false, false, false, false] rfl rfl (by kernel_rfl) (fun _ _ _ h => h) (Or.inl ⟨by rfl, ?_⟩) ?_ ?_
        rotate_left
        · intro w'
          go_simp
          with_reducible rfl
        rotate_left
        · simp only [Act.put, List.setIfInBounds_toArray, List.set_cons_zero, List.set_cons_succ, i64_w, i32_w]
          rfl
        refine pure_ (i := 2) (N := some 35) (v := ?_) (a' := ?_) #[true, false, true, false, false, false, false, false, false, false] rfl rfl (by kernel_rfl) (fun _ _ _ h => h) (Or.inl ⟨by rfl, ?_⟩) ?_ ?_
        rotate_left
        · intro w'
          go_simp
          with_reducible rfl
        rotate_left
        · simp only [Act.put, List.setIfInBounds_toArray, List.set_cons_zero, List.set_cons_succ, i64_w, i32_w]
          rfl
        refine pure_ (i := 3) (N := some 36) (v := ?_) (a' := ?_) #[true, false, true, true, false, false, false, false, false, false] rfl rfl (by kernel_rfl) (fun _ _ _ h => h) (Or.inl ⟨by rfl, ?_⟩) ?_ ?_
        rotate_left
        · intro w'
          go_simp
          with_reducible rfl
        rotate_left
        · simp only [Act.put, List.setIfInBounds_toArray, List.set_cons_zero, List.set_cons_succ, i64_w, i32_w]
          rfl
        refine take_ (i := 1) (N := some 34) (v := _) (a' := ?_) #[true, true, true, true, false, false, false, false, false, false] rfl rfl (by kernel_rfl) (fun _ _ _ h => h) (Or.inl ⟨by rfl, fun w2 h => h.load1 25 (.tmp 33) rfl rfl (by repeat (first | exact Pick.here _ | apply Pick.there)) Try.underlying25 rfl rfl⟩) hHeld ?_ ?_
        rotate_left
        · simp only [Act.put, List.setIfInBounds_toArray, List.set_cons_zero, List.set_cons_succ, i64_w, i32_w]
          rfl
        refine take_ (i := 4) (N := some 37) (v := _) (a' := ?_) #[true, true, true, true, true, false, false, false, false, false] rfl rfl (by kernel_rfl) (fun _ _ _ h => h) (Or.inl ⟨by rfl, fun w2 h => h.load1 24 (.tmp 36) rfl rfl (by repeat (first | exact Pick.here _ | apply Pick.there)) Try.underlying24 rfl rfl⟩) hHeld ?_ ?_
        rotate_left
        · simp only [Act.put, List.setIfInBounds_toArray, List.set_cons_zero, List.set_cons_succ, i64_w, i32_w]
          rfl
        refine pure_ (i := 5) (N := some 38) (v := ?_) (a' := ?_) #[true, true, true, true, true, true, false, false, false, false] rfl rfl (by kernel_rfl) (fun _ _ _ h => h) (Or.inl ⟨by rfl, ?_⟩) ?_ ?_
        rotate_left
        · intro w'
          go_simp
          with_reducible rfl
        rotate_left
        · simp only [Act.put, List.setIfInBounds_toArray, List.set_cons_zero, List.set_cons_succ, i64_w, i32_w]
          rfl
        refine pure_ (i := 6) (N := some 39) (v := .slice (cutA A c 14) k (c - 14)) (a' := ?_) #[true, true, true, true, true, true, true, false, false, false] rfl rfl (by kernel_rfl) (fun _ _ _ h => h) (Or.inl ⟨by rfl, run_cut3 (t := 25) (e := 5) (j := k) rfl rfl rfl Try.underlying25 info5s (by omega) (by have := hc.out; omega)⟩) ?_ ?_
        rotate_left
        · simp only [Act.put, List.setIfInBounds_toArray, List.set_cons_zero, List.set_cons_succ, i64_w, i32_w]
          rfl
        refine one_ (i := 7) (N := some 40) #[true, true, true, true, true, true, true, true, false, false] rfl rfl (by kernel_rfl) (by decide) (fun K hK => ?_)
        refine step_ (by rfl) rfl ((hHeld.nil_row (Kd.int .u8) 5).appendS (.tmp 34) (.tmp 39) 25 (.int .u8 0) 1 rfl rfl (.here _) Try.underlying25 info5 rfl (by decide) rfl (hHeld.data (C_front C14.out k (by omega))) (by simp; omega)) ?_
        rintro v6 w6 H6
        simp only [List.nil_append] at H6
        have hdl : ((bs.drop 14).take k).length = k := (by simp; omega)
        obtain ⟨A5, c5, hv, hc5, HC5⟩ := H6.reads (.here _)
        rw [hdl] at hv
        subst hv
        clear hc5 HC5 hdl
        refine hK.out _ _ (H6.drop (.cons (.here _) (.nil _))) (fun hHeld => ?_)
        clear hK K
        refine norm_ (a' := ?_) ?_ ?_
        rotate_left
        · show Act.put _ (some 40) _ = _
          simp only [Act.put, List.setIfInBounds_toArray, List.set_cons_zero, List.set_cons_succ, i64_w, i32_w]
          rfl
        refine pure_ (i := 8) (N := some 41) (v := ?_) (a' := ?_) #[true, true, true, true, true, true, true, true, true, false] rfl rfl (by kernel_rfl) (fun _ _ _ h => h) (Or.inl ⟨by rfl, ?_⟩) ?_ ?_
        rotate_left
        · intro w'
          go_simp
          with_reducible rfl
        rotate_left
        · simp only [Act.put, List.setIfInBounds_toArray, List.set_cons_zero, List.set_cons_succ, i64_w, i32_w]
          rfl
        refine last_ (i := 9) (N := none) #[true, true, true, true, true, true, true, true, true, true] rfl rfl (by kernel_rfl) (by decide) (fun K hK => ?_)
        refine step_ (by rfl) rfl (H6.store 25 (.tmp 41) (.tmp 40) rfl rfl (by repeat (first | exact Pick.here _ | apply Pick.there)) (by first | (go_simp; done) | (go_simp; rfl)) _ rfl info25s (by simp [Value.oneCell', Value.cells]) (by simp [Value.cells]) rfl) ?_
        rintro _ w7 ⟨rfl, H7⟩
        simp only [putsAt, Value.cells, List.setIfInBounds_toArray, List.set_cons_zero, List.set_cons_succ, List.toList_toArray] at H7
        refine hK.out _ _ ?_
        clear hK K
        refine done_ (by kernel_rfl) ?_
        replace H := H7
        clear H7 H6 hHeld
        go_wp2_with (first | ((with_reducible refine gate_dst (N := 2) rfl ?_); refine ev_ rfl (H.new (cs := #[.int .u64 0, .int .u64 0, .int .u16 0, .slice none 0 0]) (t := 27) (by first | (go_simp; done) | (go_simp; rfl))) ?_; rintro _ w1 ⟨g2, rfl, H1⟩; replace H := H1; clear H1) | ((with_reducible refine gate_store (p := 2) rfl ?_); refine ev_ rfl (H.store 27 (.tmp 2) (.tmp 9) rfl rfl (by repeat (first | exact Pick.here _ | apply Pick.there)) (by first | (go_simp; done) | (go_simp; rfl)) _ rfl info27s (by simp [Value.oneCell', Value.cells]) (by simp [Value.cells]) rfl) ?_; rintro _ w1 ⟨rfl, H1⟩; (try simp only [putsAt, Value.cells, List.setIfInBounds_toArray, List.set_cons_zero, List.set_cons_succ, List.toList_toArray] at H1); replace H := H1; clear H1) | ((with_reducible refine gate_dst (N := 24) rfl ?_); refine Kd.event_run rfl (H.load1 24 (.tmp 23) rfl rfl (by repeat (first | exact Pick.here _ | apply Pick.there)) Try.underlying24 rfl rfl) ?_) | ((with_reducible refine gate_dst (N := 29) rfl ?_); refine Kd.event_run rfl (H.load1 24 (.tmp 28) rfl rfl (by repeat (first | exact Pick.here _ | apply Pick.there)) Try.underlying24 rfl rfl) ?_) | ((with_reducible refine gate_store (p := 2) rfl ?_); refine ev_ rfl (H.store 27 (.tmp 2) (.tmp 32) rfl rfl (by repeat (first | exact Pick.here _ | apply Pick.there)) (by first | (go_simp; done) | (go_simp; rfl)) _ rfl info27s (by simp [Value.oneCell', Value.cells]) (by simp [Value.cells]) rfl) ?_; rintro _ w1 ⟨rfl, H1⟩; (try simp only [putsAt, Value.cells, List.setIfInBounds_toArray, List.set_cons_zero, List.set_cons_succ, List.toList_toArray] at H1); replace H := H1; clear H1) | ((with_reducible refine gate_dst (N := 42) rfl ?_); refine Kd.event_run rfl (H.loadN 27 (.tmp 4) rfl rfl (by repeat (first | exact Pick.here _ | apply Pick.there)) #[.int .u64 t, .int .u64 s, .int .u16 (k : Int), .slice A5 k c5] Try.underlying27 rfl info27s (fun j u hj => by simpa using hj)) ?_) | ((with_reducible refine gate_store (p := 2) rfl ?_); refine ev_ rfl (H.store 27 (.tmp 2) (.tmp 42) rfl rfl (by repeat (first | exact Pick.here _ | apply Pick.there)) (by first | (go_simp; done) | (go_simp; rfl)) _ rfl info27s (by simp [Value.oneCell', Value.cells]) (by simp [Value.cells]) rfl) ?_; rintro _ w1 ⟨rfl, H1⟩; (try simp only [putsAt, Value.cells, List.setIfInBounds_toArray, List.set_cons_zero, List.set_cons_succ, List.toList_toArray] at H1); replace H := H1; clear H1) | ((with_reducible refine gate_dst (N := 44) rfl ?_); refine Kd.event_run rfl (H.load1 24 (.tmp 43) rfl rfl (by repeat (first | exact Pick.here _ | apply Pick.there)) Try.underlying24 rfl rfl) ?_) | ((with_reducible refine gate_store (p := 2) rfl ?_); refine ev_ rfl (H.store 27 (.tmp 2) (.tmp 46) rfl rfl (by repeat (first | exact Pick.here _ | apply Pick.there)) (by first | (go_simp; done) | (go_simp; rfl)) _ rfl info27s (by simp [Value.oneCell', Value.cells]) (by simp [Value.cells]) rfl) ?_; rintro _ w1 ⟨rfl, H1⟩; (try simp only [putsAt, Value.cells, List.setIfInBounds_toArray, List.set_cons_zero, List.set_cons_succ, List.toList_toArray] at H1); replace H := H1; clear H1) | ((with_reducible refine gate_store (p := 2) rfl ?_); refine ev_ rfl (H.store 27 (.tmp 2) (.tmp 50) rfl rfl (by repeat (first | exact Pick.here _ | apply Pick.there)) (by first | (go_simp; done) | (go_simp; rfl)) _ rfl info27s (by simp [Value.oneCell', Value.cells]) (by simp [Value.cells]) rfl) ?_; rintro _ w1 ⟨rfl, H1⟩; (try simp only [putsAt, Value.cells, List.setIfInBounds_toArray, List.set_cons_zero, List.set_cons_succ, List.toList_toArray] at H1); replace H := H1; clear H1) | ((with_reducible refine gate_dst (N := 52) rfl ?_); refine Kd.event_run rfl (H.load1 25 (.tmp 51) rfl rfl (by repeat (first | exact Pick.here _ | apply Pick.there)) Try.underlying25 rfl rfl) ?_) | ((with_reducible refine gate_store (p := 55) rfl ?_); refine ev_ rfl (H.store 25 (.tmp 55) (.tmp 54) rfl rfl (by repeat (first | exact Pick.here _ | apply Pick.there)) (by first | (go_simp; done) | (go_simp; rfl)) _ rfl info25s (by simp [Value.oneCell', Value.cells]) (by simp [Value.cells]) rfl) ?_; rintro _ w1 ⟨rfl, H1⟩; (try simp only [putsAt, Value.cells, List.setIfInBounds_toArray, List.set_cons_zero, List.set_cons_succ, List.toList_toArray] at H1); replace H := H1; clear H1) | ((with_reducible refine gate_store (p := 2) rfl ?_); refine ev_ rfl (H.store 27 (.tmp 2) (.tmp 56) rfl rfl (by repeat (first | exact Pick.here _ | apply Pick.there)) (by first | (go_simp; done) | (go_simp; rfl)) _ rfl info27s (by simp [Value.oneCell', Value.cells]) (by simp [Value.cells]) rfl) ?_; rintro _ w1 ⟨rfl, H1⟩; (try simp only [putsAt, Value.cells, List.setIfInBounds_toArray, List.set_cons_zero, List.set_cons_succ, List.toList_toArray] at H1); replace H := H1; clear H1))
        refine bodyPost_ret (H.ret_ct (p := 2) (u := 3) rfl (.here _) rfl Try.underlying27 rfl info27s) rfl ⟨_, _, rfl, ⟨_, rfl, rfl⟩, ?_⟩
        exact H.take (.cons (by repeat (first | exact Pick.here _ | apply Pick.there)) (.nil _))
    · skip
      refine step_ (by rfl) rfl (HD.new (cs := #[.int .u64 0, .int .u64 0, .int .u16 0, .slice none 0 0]) (t := 27) (by first | (go_simp; done) | (go_simp; rfl))) ?_
      rintro _ w4 ⟨g4, rfl, H4⟩
      replace HD := H4
      clear H4
      refine hK.out _ _ (HD.only) (fun hHeld => ?_)
      clear hK K
      refine norm_ (a' := ?_) ?_ ?_
      rotate_left
      · show Act.put _ (some 4) _ = _
        simp only [Act.put, List.setIfInBounds_toArray, List.set_cons_zero, List.set_cons_succ, i64_w, i32_w]
        rfl
      refine one_ (i := 5) (N := some 15) #[true, true, true, true, true, true, true, true, false, false, false, true, false] rfl rfl (by kernel_rfl) (by decide) (fun K hK => ?_)
      refine goes_ Try.func38 (by kernel_rfl) rfl #[.slice (cutA A c 6) 6 (c - 6)] (by rfl) rfl rfl (by simp only [List.map_toArray, List.map_cons, List.map_nil]; rfl) ?_
      refine HD.call0 (RefNum_calls _ (cutA A c 6) 6 (c - 6) ((bs.drop 6).take 6) (HD.data C6.out) (by omega)) ?_
      rintro v l1 w3 ⟨hv, rfl⟩ H3
      rw [hS.out] at hv
      subst hv
      replace HD := H3
      clear H3
      refine ⟨_, rfl, ?_⟩
      refine hK.out _ _ (HD.only) (fun hHeld => ?_)
      clear hK K
      refine norm_ (a' := ?_) ?_ ?_
      rotate_left
      · show Act.put _ (some 15) _ = _
        simp only [Act.put, List.setIfInBounds_toArray, List.set_cons_zero, List.set_cons_succ, i64_w, i32_w]
        rfl
      refine one_ (i := 8) (N := some 18) #[true, true, true, true, true, true, true, true, true, false, false, true, false] rfl rfl (by kernel_rfl) (by decide) (fun K hK => ?_)
      refine goes_ Try.func38 (by kernel_rfl) rfl #[.slice (cutA A c 12) 2 (c - 12)] (by rfl) rfl rfl (by simp only [List.map_toArray, List.map_cons, List.map_nil]; rfl) ?_
      refine HD.call0 (RefNum_calls _ (cutA A c 12) 2 (c - 12) ((bs.drop 12).take 2) (HD.data C12.out) (by omega)) ?_
      rintro v l1 w3 ⟨hv, rfl⟩ H3
      rw [hKK.out] at hv
      subst hv
      replace HD := H3
      clear H3
      refine ⟨_, rfl, ?_⟩
      refine hK.out _ _ (HD.only) (fun hHeld => ?_)
      clear hK K
      refine norm_ (a' := ?_) ?_ ?_
      rotate_left
      · show Act.put _ (some 18) _ = _
        simp only [Act.put, List.setIfInBounds_toArray, List.set_cons_zero, List.set_cons_succ, i64_w, i32_w]
        rfl
      refine pure_ (i := 9) (N := some 19) (v := ?_) (a' := ?_) #[true, true, true, true, true, true, true, true, true, true, false, true, false] rfl rfl (by kernel_rfl) (fun _ _ _ h => h) (Or.inl ⟨by rfl, ?_⟩) ?_ ?_
      rotate_left
      · intro w'
        go_simp
        with_reducible rfl
      rotate_left
      · simp only [Act.put, List.setIfInBounds_toArray, List.set_cons_zero, List.set_cons_succ, i64_w, i32_w]
        rfl
      refine pure_ (i := 10) (N := some 20) (v := ?_) (a' := ?_) #[true, true, true, true, true, true, true, true, true, true, true, true, false] rfl rfl (by kernel_rfl) (fun _ _ _ h => h) (Or.inl ⟨by rfl, ?_⟩) ?_ ?_
      rotate_left
      · intro w'
        go_simp
        with_reducible rfl
      rotate_left
      · simp only [Act.put, List.setIfInBounds_toArray, List.set_cons_zero, List.set_cons_succ, i64_w, i32_w]
        rfl
      refine last_ (i := 12) (N := none) #[true, true, true, true, true, true, true, true, true, true, true, true, true] rfl rfl (by kernel_rfl) (by decide) (fun K hK => ?_)
      refine step_ (by rfl) rfl (HD.store 27 (.tmp 4) (.tmp 20) rfl rfl (by repeat (first | exact Pick.here _ | apply Pick.there)) (by first | (go_simp; done) | (go_simp; rfl)) _ rfl info27s (by simp [Value.oneCell', Value.cells]) (by simp [Value.cells]) rfl) ?_
      rintro _ w5 ⟨rfl, H5⟩
      simp only [putsAt, Value.cells, List.setIfInBounds_toArray, List.set_cons_zero, List.set_cons_succ, List.toList_toArray] at H5
      replace HD := H5
      clear H5
      refine hK.out _ _ ?_
      clear hK K
      refine done_ (by kernel_rfl) ?_
      replace H := HD
      clear HD hHeld
      go_wp2_with (first | ((with_reducible refine gate_dst (N := 2) rfl ?_); refine ev_ rfl (H.new (cs := #[.int .u64 0, .int .u64 0, .int .u16 0, .slice none 0 0]) (t := 27) (by first | (go_simp; done) | (go_simp; rfl))) ?_; rintro _ w1 ⟨g2, rfl, H1⟩; replace H := H1; clear H1) | ((with_reducible refine gate_store (p := 2) rfl ?_); refine ev_ rfl (H.store 27 (.tmp 2) (.tmp 9) rfl rfl (by repeat (first | exact Pick.here _ | apply Pick.there)) (by first | (go_simp; done) | (go_simp; rfl)) _ rfl info27s (by simp [Value.oneCell', Value.cells]) (by simp [Value.cells]) rfl) ?_; rintro _ w1 ⟨rfl, H1⟩; (try simp only [putsAt, Value.cells, List.setIfInBounds_toArray, List.set_cons_zero, List.set_cons_succ, List.toList_toArray] at H1); replace H := H1; clear H1) | ((with_reducible refine gate_dst (N := 24) rfl ?_); refine Kd.event_run rfl (H.load1 24 (.tmp 23) rfl rfl (by repeat (first | exact Pick.here _ | apply Pick.there)) Try.underlying24 rfl rfl) ?_) | ((with_reducible refine gate_dst (N := 29) rfl ?_); refine Kd.event_run rfl (H.load1 24 (.tmp 28) rfl rfl (by repeat (first | exact Pick.here _ | apply Pick.there)) Try.underlying24 rfl rfl) ?_) | ((with_reducible refine gate_store (p := 2) rfl ?_); refine ev_ rfl (H.store 27 (.tmp 2) (.tmp 32) rfl rfl (by repeat (first | exact Pick.here _ | apply Pick.there)) (by first | (go_simp; done) | (go_simp; rfl)) _ rfl info27s (by simp [Value.oneCell', Value.cells]) (by simp [Value.cells]) rfl) ?_; rintro _ w1 ⟨rfl, H1⟩; (try simp only [putsAt, Value.cells, List.setIfInBounds_toArray, List.set_cons_zero, List.set_cons_succ, List.toList_toArray] at H1); replace H := H1; clear H1) | ((with_reducible refine gate_store (p := 2) rfl ?_); refine ev_ rfl (H.store 27 (.tmp 2) (.tmp 42) rfl rfl (by repeat (first | exact Pick.here _ | apply Pick.there)) (by first | (go_simp; done) | (go_simp; rfl)) _ rfl info27s (by simp [Value.oneCell', Value.cells]) (by simp [Value.cells]) rfl) ?_; rintro _ w1 ⟨rfl, H1⟩; (try simp only [putsAt, Value.cells, List.setIfInBounds_toArray, List.set_cons_zero, List.set_cons_succ, List.toList_toArray] at H1); replace H := H1; clear H1) | ((with_reducible refine gate_dst (N := 44) rfl ?_); refine Kd.event_run rfl (H.load1 24 (.tmp 43) rfl rfl (by repeat (first | exact Pick.here _ | apply Pick.there)) Try.underlying24 rfl rfl) ?_) | ((with_reducible refine gate_store (p := 2) rfl ?_); refine ev_ rfl (H.store 27 (.tmp 2) (.tmp 46) rfl rfl (by repeat (first | exact Pick.here _ | apply Pick.there)) (by first | (go_simp; done) | (go_simp; rfl)) _ rfl info27s (by simp [Value.oneCell', Value.cells]) (by simp [Value.cells]) rfl) ?_; rintro _ w1 ⟨rfl, H1⟩; (try simp only [putsAt, Value.cells, List.setIfInBounds_toArray, List.set_cons_zero, List.set_cons_succ, List.toList_toArray] at H1); replace H := H1; clear H1) | ((with_reducible refine gate_store (p := 2) rfl ?_); refine ev_ rfl (H.store 27 (.tmp 2) (.tmp 50) rfl rfl (by repeat (first | exact Pick.here _ | apply Pick.there)) (by first | (go_simp; done) | (go_simp; rfl)) _ rfl info27s (by simp [Value.oneCell', Value.cells]) (by simp [Value.cells]) rfl) ?_; rintro _ w1 ⟨rfl, H1⟩; (try simp only [putsAt, Value.cells, List.setIfInBounds_toArray, List.set_cons_zero, List.set_cons_succ, List.toList_toArray] at H1); replace H := H1; clear H1) | ((with_reducible refine gate_dst (N := 52) rfl ?_); refine Kd.event_run rfl (H.load1 25 (.tmp 51) rfl rfl (by repeat (first | exact Pick.here _ | apply Pick.there)) Try.underlying25 rfl rfl) ?_) | ((with_reducible refine gate_store (p := 55) rfl ?_); refine ev_ rfl (H.store 25 (.tmp 55) (.tmp 54) rfl rfl (by repeat (first | exact Pick.here _ | apply Pick.there)) (by first | (go_simp; done) | (go_simp; rfl)) _ rfl info25s (by simp [Value.oneCell', Value.cells]) (by simp [Value.cells]) rfl) ?_; rintro _ w1 ⟨rfl, H1⟩; (try simp only [putsAt, Value.cells, List.setIfInBounds_toArray, List.set_cons_zero, List.set_cons_succ, List.toList_toArray] at H1); replace H := H1; clear H1) | ((with_reducible refine gate_store (p := 2) rfl ?_); refine ev_ rfl (H.store 27 (.tmp 2) (.tmp 56) rfl rfl (by repeat (first | exact Pick.here _ | apply Pick.there)) (by first | (go_simp; done) | (go_simp; rfl)) _ rfl info27s (by simp [Value.oneCell', Value.cells]) (by simp [Value.cells]) rfl) ?_; rintro _ w1 ⟨rfl, H1⟩; (try simp only [putsAt, Value.cells, List.setIfInBounds_toArray, List.set_cons_zero, List.set_cons_succ, List.toList_toArray] at H1); replace H := H1; clear H1) | ((with_reducible refine gate_dst (N := 22) rfl ?_); refine Kd.event_run rfl (v := .slice (cutA A c 14) (bs.length - 14) (c - 14)) (w1 := _) (run_cut (t := 25) (e := 5) (j := 14) rfl rfl rfl Try.underlying25 info5s (by omega) _) ?_))
      refine startH H (n := 10) [9] #[false, false, false, false, false, false, false, false, false, false] (by kernel_rfl) rfl rfl (fun hHeld => ?_)
      refine pure_ (i := 0) (N := some 33) (v := ?_) (a' := ?_) #[true, false, false, false, false, false, false, false, false, false] rfl rfl (by kernel_rfl) (fun _ _ _ h => h) (Or.inl ⟨by rfl, ?_⟩) ?_ ?_
      rotate_left
      · intro w'
        go_simp
        with_reducible rfl
      rotate_left
      · simp only [Act.put, List.setIfInBounds_toArray, List.set_cons_zero, List.set_cons_succ, i64_w, i32_w]
        rfl
      refine pure_ (i := 2) (N := some 35) (v := ?_) (a' := ?_) #[true, false, true, false, false, false, false, false, false, false] rfl rfl (by kernel_rfl) (fun _ _ _ h => h) (Or.inl ⟨by rfl, ?_⟩) ?_ ?_
      rotate_left
      · intro w'
        go_simp
        with_reducible rfl
      rotate_left
      · simp only [Act.put, List.setIfInBounds_toArray, List.set_cons_zero, List.set_cons_succ, i64_w, i32_w]
        rfl
      refine pure_ (i := 3) (N := some 36) (v := ?_) (a' := ?_) #[true, false, true, true, false, false, false, false, false, false] rfl rfl (by kernel_rfl) (fun _ _ _ h => h) (Or.inl ⟨by rfl, ?_⟩) ?_ ?_
      rotate_left
      · intro w'
        go_simp
        with_reducible rfl
      rotate_left
      · simp only [Act.put, List.setIfInBounds_toArray, List.set_cons_zero, List.set_cons_succ, i64_w, i32_w]
        rfl
      refine take_ (i := 1) (N := some 34) (v := _) (a' := ?_) #[true, true, true, true, false, false, false, false, false, false] rfl rfl (by kernel_rfl) (fun _ _ _ h => h) (Or.inl ⟨by rfl, fun w2 h => h.load1 25 (.tmp 33) rfl rfl (by repeat (first | exact Pick.here _ | apply Pick.there)) Try.underlying25 rfl rfl⟩) hHeld ?_ ?_
      rotate_left
      · simp only [Act.put, List.setIfInBounds_toArray, List.set_cons_zero, List.set_cons_succ, i64_w, i32_w]
        rfl
      refine take_ (i := 4) (N := some 37) (v := _) (a' := ?_) #[true, true, true, true, true, false, false, false, false, false] rfl rfl (by kernel_rfl) (fun _ _ _ h => h) (Or.inl ⟨by rfl, fun w2 h => h.load1 24 (.tmp 36) rfl rfl (by repeat (first | exact Pick.here _ | apply Pick.there)) Try.underlying24 rfl rfl⟩) hHeld ?_ ?_
      rotate_left
      · simp only [Act.put, List.setIfInBounds_toArray, List.set_cons_zero, List.set_cons_succ, i64_w, i32_w]
        rfl
      refine pure_ (i := 5) (N := some 38) (v := ?_) (a' := ?_) #[true, true, true, true, true, true, false, false, false, false] rfl rfl (by kernel_rfl) (fun _ _ _ h => h) (Or.inl ⟨by rfl, ?_⟩) ?_ ?_
      rotate_left
      · intro w'
        go_simp
        with_reducible rfl
      rotate_left
      · simp only [Act.put, List.setIfInBounds_toArray, List.set_cons_zero, List.set_cons_succ, i64_w, i32_w]
        rfl
      refine pure_ (i := 6) (N := some 39) (v := .slice (cutA A c 14) k (c - 14)) (a' := ?_) #[true, true, true, true, true, true, true, false, false, false] rfl rfl (by kernel_rfl) (fun _ _ _ h => h) (Or.inl ⟨by rfl, run_cut3 (t := 25) (e := 5) (j := k) rfl rfl rfl Try.underlying25 info5s (by omega) (by have := hc.out; omega)⟩) ?_ ?_
      rotate_left
      · simp only [Act.put, List.setIfInBounds_toArray, List.set_cons_zero, List.set_cons_succ, i64_w, i32_w]
        rfl
      refine one_ (i := 7) (N := some 40) #[true, true, true, true, true, true, true, true, false, false] rfl rfl (by kernel_rfl) (by decide) (fun K hK => ?_)
      refine step_ (by rfl) rfl ((hHeld.nil_row (Kd.int .u8) 5).appendS (.tmp 34) (.tmp 39) 25 (.int .u8 0) 1 rfl rfl (.here _) Try.underlying25 info5 rfl (by decide) rfl (hHeld.data (C_front C14.out k (by omega))) (by simp; omega)) ?_
      rintro v6 w6 H6
      simp only [List.nil_append] at H6
      have hdl : ((bs.drop 14).take k).length = k := (by simp; omega)
      obtain ⟨A5, c5, hv, hc5, HC5⟩ := H6.reads (.here _)
      rw [hdl] at hv
      subst hv
      clear hc5 HC5 hdl
      refine hK.out _ _ (H6.drop (.cons (.here _) (.nil _))) (fun hHeld => ?_)
      clear hK K
      refine norm_ (a' := ?_) ?_ ?_
      rotate_left
      · show Act.put _ (some 40) _ = _
        simp only [Act.put, List.setIfInBounds_toArray, List.set_cons_zero, List.set_cons_succ, i64_w, i32_w]
        rfl
      refine pure_ (i := 8) (N := some 41) (v := ?_) (a' := ?_) #[true, true, true, true, true, true, true, true, true, false] rfl rfl (by kernel_rfl) (fun _ _ _ h => h) (Or.inl ⟨by rfl, ?_⟩) ?_ ?_
      rotate_left
      · intro w'
        go_simp
        with_reducible rfl
      rotate_left
      · simp only [Act.put, List.setIfInBounds_toArray, List.set_cons_zero, List.set_cons_succ, i64_w, i32_w]
        rfl
      refine last_ (i := 9) (N := none) #[true, true, true, true, true, true, true, true, true, true] rfl rfl (by kernel_rfl) (by decide) (fun K hK => ?_)
      refine step_ (by rfl) rfl (H6.store 25 (.tmp 41) (.tmp 40) rfl rfl (by repeat (first | exact Pick.here _ | apply Pick.there)) (by first | (go_simp; done) | (go_simp; rfl)) _ rfl info25s (by simp [Value.oneCell', Value.cells]) (by simp [Value.cells]) rfl) ?_
      rintro _ w7 ⟨rfl, H7⟩
      simp only [putsAt, Value.cells, List.setIfInBounds_toArray, List.set_cons_zero, List.set_cons_succ, List.toList_toArray] at H7
      refine hK.out _ _ ?_
      clear hK K
      refine done_ (by kernel_rfl) ?_
      replace H := H7
      clear H7 H6 hHeld
      go_wp2_with (first | ((with_reducible refine gate_dst (N := 2) rfl ?_); refine ev_ rfl (H.new (cs := #[.int .u64 0, .int .u64 0, .int .u16 0, .slice none 0 0]) (t := 27) (by first | (go_simp; done) | (go_simp; rfl))) ?_; rintro _ w1 ⟨g2, rfl, H1⟩; replace H := H1; clear H1) | ((with_reducible refine gate_store (p := 2) rfl ?_); refine ev_ rfl (H.store 27 (.tmp 2) (.tmp 9) rfl rfl (by repeat (first | exact Pick.here _ | apply Pick.there)) (by first | (go_simp; done) | (go_simp; rfl)) _ rfl info27s (by simp [Value.oneCell', Value.cells]) (by simp [Value.cells]) rfl) ?_; rintro _ w1 ⟨rfl, H1⟩; (try simp only [putsAt, Value.cells, List.setIfInBounds_toArray, List.set_cons_zero, List.set_cons_succ, List.toList_toArray] at H1); replace H := H1; clear H1) | ((with_reducible refine gate_dst (N := 24) rfl ?_); refine Kd.event_run rfl (H.load1 24 (.tmp 23) rfl rfl (by repeat (first | exact Pick.here _ | apply Pick.there)) Try.underlying24 rfl rfl) ?_) | ((with_reducible refine gate_dst (N := 29) rfl ?_); refine Kd.event_run rfl (H.load1 24 (.tmp 28) rfl rfl (by repeat (first | exact Pick.here _ | apply Pick.there)) Try.underlying24 rfl rfl) ?_) | ((with_reducible refine gate_store (p := 2) rfl ?_); refine ev_ rfl (H.store 27 (.tmp 2) (.tmp 32) rfl rfl (by repeat (first | exact Pick.here _ | apply Pick.there)) (by first | (go_simp; done) | (go_simp; rfl)) _ rfl info27s (by simp [Value.oneCell', Value.cells]) (by simp [Value.cells]) rfl) ?_; rintro _ w1 ⟨rfl, H1⟩; (try simp only [putsAt, Value.cells, List.setIfInBounds_toArray, List.set_cons_zero, List.set_cons_succ, List.toList_toArray] at H1); replace H := H1; clear H1) | ((with_reducible refine gate_dst (N := 42) rfl ?_); refine Kd.event_run rfl (H.loadN 27 (.tmp 4) rfl rfl (by repeat (first | exact Pick.here _ | apply Pick.there)) #[.int .u64 t, .int .u64 s, .int .u16 (k : Int), .slice A5 k c5] Try.underlying27 rfl info27s (fun j u hj => by simpa using hj)) ?_) | ((with_reducible refine gate_store (p := 2) rfl ?_); refine ev_ rfl (H.store 27 (.tmp 2) (.tmp 42) rfl rfl (by repeat (first | exact Pick.here _ | apply Pick.there)) (by first | (go_simp; done) | (go_simp; rfl)) _ rfl info27s (by simp [Value.oneCell', Value.cells]) (by simp [Value.cells]) rfl) ?_; rintro _ w1 ⟨rfl, H1⟩; (try simp only [putsAt, Value.cells, List.setIfInBounds_toArray, List.set_cons_zero, List.set_cons_succ, List.toList_toArray] at H1); replace H := H1; clear H1) | ((with_reducible refine gate_dst (N := 44) rfl ?_); refine Kd.event_run rfl (H.load1 24 (.tmp 43) rfl rfl (by repeat (first | exact Pick.here _ | apply Pick.there)) Try.underlying24 rfl rfl) ?_) | ((with_reducible refine gate_store (p := 2) rfl ?_); refine ev_ rfl (H.store 27 (.tmp 2) (.tmp 46) rfl rfl (by repeat (first | exact Pick.here _ | apply Pick.there)) (by first | (go_simp; done) | (go_simp; rfl)) _ rfl info27s (by simp [Value.oneCell', Value.cells]) (by simp [Value.cells]) rfl) ?_; rintro _ w1 ⟨rfl, H1⟩; (try simp only [putsAt, Value.cells, List.setIfInBounds_toArray, List.set_cons_zero, List.set_cons_succ, List.toList_toArray] at H1); replace H := H1; clear H1) | ((with_reducible refine gate_store (p := 2) rfl ?_); refine ev_ rfl (H.store 27 (.tmp 2) (.tmp 50) rfl rfl (by repeat (first | exact Pick.here _ | apply Pick.there)) (by first | (go_simp; done) | (go_simp; rfl)) _ rfl info27s (by simp [Value.oneCell', Value.cells]) (by simp [Value.cells]) rfl) ?_; rintro _ w1 ⟨rfl, H1⟩; (try simp only [putsAt, Value.cells, List.setIfInBounds_toArray, List.set_cons_zero, List.set_cons_succ, List.toList_toArray] at H1); replace H := H1; clear H1) | ((with_reducible refine gate_dst (N := 52) rfl ?_); refine Kd.event_run rfl (H.load1 25 (.tmp 51) rfl rfl (by repeat (first | exact Pick.here _ | apply Pick.there)) Try.underlying25 rfl rfl) ?_) | ((with_reducible refine gate_store (p := 55) rfl ?_); refine ev_ rfl (H.store 25 (.tmp 55) (.tmp 54) rfl rfl (by repeat (first | exact Pick.here _ | apply Pick.there)) (by first | (go_simp; done) | (go_simp; rfl)) _ rfl info25s (by simp [Value.oneCell', Value.cells]) (by simp [Value.cells]) rfl) ?_; rintro _ w1 ⟨rfl, H1⟩; (try simp only [putsAt, Value.cells, List.setIfInBounds_toArray, List.set_cons_zero, List.set_cons_succ, List.toList_toArray] at H1); replace H := H1; clear H1) | ((with_reducible refine gate_store (p := 2) rfl ?_); refine ev_ rfl (H.store 27 (.tmp 2) (.tmp 56) rfl rfl (by repeat (first | exact Pick.here _ | apply Pick.there)) (by first | (go_simp; done) | (go_simp; rfl)) _ rfl info27s (by simp [Value.oneCell', Value.cells]) (by simp [Value.cells]) rfl) ?_; rintro _ w1 ⟨rfl, H1⟩; (try simp only [putsAt, Value.cells, List.setIfInBounds_toArray, List.set_cons_zero, List.set_cons_succ, List.toList_toArray] at H1); replace H := H1; clear H1))
      refine bodyPost_ret (H.ret_ct (p := 2) (u := 3) rfl (.here _) rfl Try.underlying27 rfl info27s) rfl ⟨_, _, rfl, ⟨_, rfl, rfl⟩, ?_⟩
      exact H.take (.cons (by repeat (first | exact Pick.here _ | apply Pick.there)) (.nil _))
  · skip
    refine step_ (by rfl) rfl (HD.new (cs := #[.int .u64 0, .int .u64 0, .int .u16 0, .slice none 0 0]) (t := 27) (by first | (go_simp; done) | (go_simp; rfl))) ?_
    rintro _ w4 ⟨g4, rfl, H4⟩
    replace HD := H4
    clear H4
    refine hK.out _ _ (HD.only) (fun hHeld => ?_)
    clear hK K
    refine norm_ (a' := ?_) ?_ ?_
    rotate_left
    · show Act.put _ (some 4) _ = _
      simp only [Act.put, List.setIfInBounds_toArray, List.set_cons_zero, List.set_cons_succ, i64_w, i32_w]
      rfl
    refine one_ (i := 2) (N := some 12) #[true, true, true, true, true, false, true, true, false, false, false, true, false] rfl rfl (by kernel_rfl) (by decide) (fun K hK => ?_)
    refine goes_ Try.func38 (by kernel_rfl) rfl #[.slice A 6 c] (by rfl) rfl rfl (by simp only [List.map_toArray, List.map_cons, List.map_nil]; rfl) ?_
    refine HD.call0 (RefNum_calls _ A 6 c (bs.take 6) (HD.data C0.out) (by omega)) ?_
    rintro v l1 w3 ⟨hv, rfl⟩ H3
    rw [hT.out] at hv
    subst hv
    replace HD := H3
    clear H3
    refine ⟨_, rfl, ?_⟩
    refine hK.out _ _ (HD.only) (fun hHeld => ?_)
    clear hK K
    refine norm_ (a' := ?_) ?_ ?_
    rotate_left
    · show Act.put _ (some 12) _ = _
      simp only [Act.put, List.setIfInBounds_toArray, List.set_cons_zero, List.set_cons_succ, i64_w, i32_w]
      rfl
    refine one_ (i := 5) (N := some 15) #[true, true, true, true, true, true, true, true, false, false, false, true, false] rfl rfl (by kernel_rfl) (by decide) (fun K hK => ?_)
    refine goes_ Try.func38 (by kernel_rfl) rfl #[.slice (cutA A c 6) 6 (c - 6)] (by rfl) rfl rfl (by simp only [List.map_toArray, List.map_cons, List.map_nil]; rfl) ?_
    refine HD.call0 (RefNum_calls _ (cutA A c 6) 6 (c - 6) ((bs.drop 6).take 6) (HD.data C6.out) (by omega)) ?_
    rintro v l1 w3 ⟨hv, rfl⟩ H3
    rw [hS.out] at hv
    subst hv
    replace HD := H3
    clear H3
    refine ⟨_, rfl, ?_⟩
    refine hK.out _ _ (HD.only) (fun hHeld => ?_)
    clear hK K
    refine norm_ (a' := ?_) ?_ ?_
    rotate_left
    · show Act.put _ (some 15) _ = _
      simp only [Act.put, List.setIfInBounds_toArray, List.set_cons_zero, List.set_cons_succ, i64_w, i32_w]
      rfl
    refine one_ (i := 8) (N := some 18) #[true, true, true, true, true, true, true, true, true, false, false, true, false] rfl rfl (by kernel_rfl) (by decide) (fun K hK => ?_)
    refine goes_ Try.func38 (by kernel_rfl) rfl #[.slice (cutA A c 12) 2 (c - 12)] (by rfl) rfl rfl (by simp only [List.map_toArray, List.map_cons, List.map_nil]; rfl) ?_
    refine HD.call0 (RefNum_calls _ (cutA A c 12) 2 (c - 12) ((bs.drop 12).take 2) (HD.data C12.out) (by omega)) ?_
    rintro v l1 w3 ⟨hv, rfl⟩ H3
    rw [hKK.out] at hv
    subst hv
    replace HD := H3
    clear H3
    refine ⟨_, rfl, ?_⟩
    refine hK.out _ _ (HD.only) (fun hHeld => ?_)
    clear hK K
    refine norm_ (a' := ?_) ?_ ?_
    rotate_left
    · show Act.put _ (some 18) _ = _
      simp only [Act.put, List.setIfInBounds_toArray, List.set_cons_zero, List.set_cons_succ, i64_w, i32_w]
      rfl
    refine pure_ (i := 9) (N := some 19) (v := ?_) (a' := ?_) #[true, true, true, true, true, true, true, true, true, true, false, true, false] rfl rfl (by kernel_rfl) (fun _ _ _ h => h) (Or.inl ⟨by rfl, ?_⟩) ?_ ?_
    rotate_left
    · intro w'
      go_simp
      with_reducible rfl
    rotate_left
    · simp only [Act.put, List.setIfInBounds_toArray, List.set_cons_zero, List.set_cons_succ, i64_w, i32_w]
      rfl
    refine pure_ (i := 10) (N := some 20) (v := ?_) (a' := ?_) #[true, true, true, true, true, true, true, true, true, true, true, true, false] rfl rfl (by kernel_rfl) (fun _ _ _ h => h) (Or.inl ⟨by rfl, ?_⟩) ?_ ?_
    rotate_left
    · intro w'
      go_simp
      with_reducible rfl
    rotate_left
    · simp only [Act.put, List.setIfInBounds_toArray, List.set_cons_zero, List.set_cons_succ, i64_w, i32_w]
      rfl
    refine last_ (i := 12) (N := none) #[true, true, true, true, true, true, true, true, true, true, true, true, true] rfl rfl (by kernel_rfl) (by decide) (fun K hK => ?_)
    refine step_ (by rfl) rfl (HD.store 27 (.tmp 4) (.tmp 20) rfl rfl (by repeat (first | exact Pick.here _ | apply Pick.there)) (by first | (go_simp; done) | (go_simp; rfl)) _ rfl info27s (by simp [Value.oneCell', Value.cells]) (by simp [Value.cells]) rfl) ?_
    rintro _ w5 ⟨rfl, H5⟩
    simp only [putsAt, Value.cells, List.setIfInBounds_toArray, List.set_cons_zero, List.set_cons_succ, List.toList_toArray] at H5
    replace HD := H5
    clear H5
    refine hK.out _ _ ?_
    clear hK K
    refine done_ (by kernel_rfl) ?_
    replace H := HD
    clear HD hHeld
    go_wp2_with (first | ((with_reducible refine gate_dst (N := 2) rfl ?_); refine ev_ rfl (H.new (cs := #[.int .u64 0, .int .u64 0, .int .u16 0, .slice none 0 0]) (t := 27) (by first | (go_simp; done) | (go_simp; rfl))) ?_; rintro _ w1 ⟨g2, rfl, H1⟩; replace H := H1; clear H1) | ((with_reducible refine gate_store (p := 2) rfl ?_); refine ev_ rfl (H.store 27 (.tmp 2) (.tmp 9) rfl rfl (by repeat (first | exact Pick.here _ | apply Pick.there)) (by first | (go_simp; done) | (go_simp; rfl)) _ rfl info27s (by simp [Value.oneCell', Value.cells]) (by simp [Value.cells]) rfl) ?_; rintro _ w1 ⟨rfl, H1⟩; (try simp only [putsAt, Value.cells, List.setIfInBounds_toArray, List.set_cons_zero, List.set_cons_succ, List.toList_toArray] at H1); replace H := H1; clear H1) | ((with_reducible refine gate_dst (N := 24) rfl ?_); refine Kd.event_run rfl (H.load1 24 (.tmp 23) rfl rfl (by repeat (first | exact Pick.here _ | apply Pick.there)) Try.underlying24 rfl rfl) ?_) | ((with_reducible refine gate_dst (N := 29) rfl ?_); refine Kd.event_run rfl (H.load1 24 (.tmp 28) rfl rfl (by repeat (first | exact Pick.here _ | apply Pick.there)) Try.underlying24 rfl rfl) ?_) | ((with_reducible refine gate_store (p := 2) rfl ?_); refine ev_ rfl (H.store 27 (.tmp 2) (.tmp 32) rfl rfl (by repeat (first | exact Pick.here _ | apply Pick.there)) (by first | (go_simp; done) | (go_simp; rfl)) _ rfl info27s (by simp [Value.oneCell', Value.cells]) (by simp [Value.cells]) rfl) ?_; rintro _ w1 ⟨rfl, H1⟩; (try simp only [putsAt, Value.cells, List.setIfInBounds_toArray, List.set_cons_zero, List.set_cons_succ, List.toList_toArray] at H1); replace H := H1; clear H1) | ((with_reducible refine gate_store (p := 2) rfl ?_); refine ev_ rfl (H.store 27 (.tmp 2) (.tmp 42) rfl rfl (by repeat (first | exact Pick.here _ | apply Pick.there)) (by first | (go_simp; done) | (go_simp; rfl)) _ rfl info27s (by simp [Value.oneCell', Value.cells]) (by simp [Value.cells]) rfl) ?_; rintro _ w1 ⟨rfl, H1⟩; (try simp only [putsAt, Value.cells, List.setIfInBounds_toArray, List.set_cons_zero, List.set_cons_succ, List.toList_toArray] at H1); replace H := H1; clear H1) | ((with_reducible refine gate_dst (N := 44) rfl ?_); refine Kd.event_run rfl (H.load1 24 (.tmp 43) rfl rfl (by repeat (first | exact Pick.here _ | apply Pick.there)) Try.underlying24 rfl rfl) ?_) | ((with_reducible refine gate_store (p := 2) rfl ?_); refine ev_ rfl (H.store 27 (.tmp 2) (.tmp 46) rfl rfl (by repeat (first | exact Pick.here _ | apply Pick.there)) (by first | (go_simp; done) | (go_simp; rfl)) _ rfl info27s (by simp [Value.oneCell', Value.cells]) (by simp [Value.cells]) rfl) ?_; rintro _ w1 ⟨rfl, H1⟩; (try simp only [putsAt, Value.cells, List.setIfInBounds_toArray, List.set_cons_zero, List.set_cons_succ, List.toList_toArray] at H1); replace H := H1; clear H1) | ((with_reducible refine gate_store (p := 2) rfl ?_); refine ev_ rfl (H.store 27 (.tmp 2) (.tmp 50) rfl rfl (by repeat (first | exact Pick.here _ | apply Pick.there)) (by first | (go_simp; done) | (go_simp; rfl)) _ rfl info27s (by simp [Value.oneCell', Value.cells]) (by simp [Value.cells]) rfl) ?_; rintro _ w1 ⟨rfl, H1⟩; (try simp only [putsAt, Value.cells, List.setIfInBounds_toArray, List.set_cons_zero, List.set_cons_succ, List.toList_toArray] at H1); replace H := H1; clear H1) | ((with_reducible refine gate_dst (N := 52) rfl ?_); refine Kd.event_run rfl (H.load1 25 (.tmp 51) rfl rfl (by repeat (first | exact Pick.here _ | apply Pick.there)) Try.underlying25 rfl rfl) ?_) | ((with_reducible refine gate_store (p := 55) rfl ?_); refine ev_ rfl (H.store 25 (.tmp 55) (.tmp 54) rfl rfl (by repeat (first | exact Pick.here _ | apply Pick.there)) (by first | (go_simp; done) | (go_simp; rfl)) _ rfl info25s (by simp [Value.oneCell', Value.cells]) (by simp [Value.cells]) rfl) ?_; rintro _ w1 ⟨rfl, H1⟩; (try simp only [putsAt, Value.cells, List.setIfInBounds_toArray, List.set_cons_zero, List.set_cons_succ, List.toList_toArray] at H1); replace H := H1; clear H1) | ((with_reducible refine gate_store (p := 2) rfl ?_); refine ev_ rfl (H.store 27 (.tmp 2) (.tmp 56) rfl rfl (by repeat (first | exact Pick.here _ | apply Pick.there)) (by first | (go_simp; done) | (go_simp; rfl)) _ rfl info27s (by simp [Value.oneCell', Value.cells]) (by simp [Value.cells]) rfl) ?_; rintro _ w1 ⟨rfl, H1⟩; (try simp only [putsAt, Value.cells, List.setIfInBounds_toArray, List.set_cons_zero, List.set_cons_succ, List.toList_toArray] at H1); replace H := H1; clear H1) | ((with_reducible refine gate_dst (N := 22) rfl ?_); refine Kd.event_run rfl (v := .slice (cutA A c 14) (bs.length - 14) (c - 14)) (w1 := _) (run_cut (t := 25) (e := 5) (j := 14) rfl rfl rfl Try.underlying25 info5s (by omega) _) ?_))
    refine startH H (n := 10) [9] #[false, false, false, false, false, false, false, false, false, false] (by kernel_rfl) rfl rfl (fun hHeld => ?_)
    refine pure_ (i := 0) (N := some 33) (v := ?_) (a' := ?_) #[true, false, false, false, false, false, false, false, false, false] rfl rfl (by kernel_rfl) (fun _ _ _ h => h) (Or.inl ⟨by rfl, ?_⟩) ?_ ?_
    rotate_left
    · intro w'
      go_simp
      with_reducible rfl
    rotate_left
    · simp only [Act.put, List.setIfInBounds_toArray, List.set_cons_zero, List.set_cons_succ, i64_w, i32_w]
      rfl
    refine pure_ (i := 2) (N := some 35) (v := ?_) (a' := ?_) #[true, false, true, false, false, false, false, false, false, false] rfl rfl (by kernel_rfl) (fun _ _ _ h => h) (Or.inl ⟨by rfl, ?_⟩) ?_ ?_
    rotate_left
    · intro w'
      go_simp
      with_reducible rfl
    rotate_left
    · simp only [Act.put, List.setIfInBounds_toArray, List.set_cons_zero, List.set_cons_succ, i64_w, i32_w]
      rfl
    refine pure_ (i := 3) (N := some 36) (v := ?_) (a' := ?_) #[true, false, true, true, false, false, false, false, false, false] rfl rfl (by kernel_rfl) (fun _ _ _ h => h) (Or.inl ⟨by rfl, ?_⟩) ?_ ?_
    rotate_left
    · intro w'
      go_simp
      with_reducible rfl
    rotate_left
    · simp only [Act.put, List.setIfInBounds_toArray, List.set_cons_zero, List.set_cons_succ, i64_w, i32_w]
      rfl
    refine take_ (i := 1) (N := some 34) (v := _) (a' := ?_) #[true, true, true, true, false, false, false, false, false, false] rfl rfl (by kernel_rfl) (fun _ _ _ h => h) (Or.inl ⟨by rfl, fun w2 h => h.load1 25 (.tmp 33) rfl rfl (by repeat (first | exact Pick.here _ | apply Pick.there)) Try.underlying25 rfl rfl⟩) hHeld ?_ ?_
    rotate_left
    · simp only [Act.put, List.setIfInBounds_toArray, List.set_cons_zero, List.set_cons_succ, i64_w, i32_w]
      rfl
    refine take_ (i := 4) (N := some 37) (v := _) (a' := ?_) #[true, true, true, true, true, false, false, false, false, false] rfl rfl (by kernel_rfl) (fun _ _ _ h => h) (Or.inl ⟨by rfl, fun w2 h => h.load1 24 (.tmp 36) rfl rfl (by repeat (first | exact Pick.here _ | apply Pick.there)) Try.underlying24 rfl rfl⟩) hHeld ?_ ?_
    rotate_left
    · simp only [Act.put, List.setIfInBounds_toArray, List.set_cons_zero, List.set_cons_succ, i64_w, i32_w]
      rfl
    refine pure_ (i := 5) (N := some 38) (v := ?_) (a' := ?_) #[true, true, true, true, true, true, false, false, false, false] rfl rfl (by kernel_rfl) (fun _ _ _ h => h) (Or.inl ⟨by rfl, ?_⟩) ?_ ?_
    rotate_left
    · intro w'
      go_simp
      with_reducible rfl
    rotate_left
    · simp only [Act.put, List.setIfInBounds_toArray, List.set_cons_zero, List.set_cons_succ, i64_w, i32_w]
      rfl
    refine pure_ (i := 6) (N := some 39) (v := .slice (cutA A c 14) k (c - 14)) (a' := ?_) #[true, true, true, true, true, true, true, false, false, false] rfl rfl (by kernel_rfl) (fun _ _ _ h => h) (Or.inl ⟨by rfl, run_cut3 (t := 25) (e := 5) (j := k) rfl rfl rfl Try.underlying25 info5s (by omega) (by have := hc.out; omega)⟩) ?_ ?_
    rotate_left
    · simp only [Act.put, List.setIfInBounds_toArray, List.set_cons_zero, List.set_cons_succ, i64_w, i32_w]
      rfl
    refine one_ (i := 7) (N := some 40) #[true, true, true, true, true, true, true, true, false, false] rfl rfl (by kernel_rfl) (by decide) (fun K hK => ?_)
    refine step_ (by rfl) rfl ((hHeld.nil_row (Kd.int .u8) 5).appendS (.tmp 34) (.tmp 39) 25 (.int .u8 0) 1 rfl rfl (.here _) Try.underlying25 info5 rfl (by decide) rfl (hHeld.data (C_front C14.out k (by omega))) (by simp; omega)) ?_
    rintro v6 w6 H6
    simp only [List.nil_append] at H6
    have hdl : ((bs.drop 14).take k).length = k := (by simp; omega)
    obtain ⟨A5, c5, hv, hc5, HC5⟩ := H6.reads (.here _)
    rw [hdl] at hv
    subst hv
    clear hc5 HC5 hdl
    refine hK.out _ _ (H6.drop (.cons (.here _) (.nil _))) (fun hHeld => ?_)
    clear hK K
    refine norm_ (a' := ?_) ?_ ?_
    rotate_left
    · show Act.put _ (some 40) _ = _
      simp only [Act.put, List.setIfInBounds_toArray, List.set_cons_zero, List.set_cons_succ, i64_w, i32_w]
      rfl
    refine pure_ (i := 8) (N := some 41) (v := ?_) (a' := ?_) #[true, true, true, true, true, true, true, true, true, false] rfl rfl (by kernel_rfl) (fun _ _ _ h => h) (Or.inl ⟨by rfl, ?_⟩) ?_ ?_
    rotate_left
    · intro w'
      go_simp
      with_reducible rfl
    rotate_left
    · simp only [Act.put, List.setIfInBounds_toArray, List.set_cons_zero, List.set_cons_succ, i64_w, i32_w]
      rfl
    refine last_ (i := 9) (N := none) #[true, true, true, true, true, true, true, true, true, true] rfl rfl (by kernel_rfl) (by decide) (fun K hK => ?_)
    refine step_ (by rfl) rfl (H6.store 25 (.tmp 41) (.tmp 40) rfl rfl (by repeat (first | exact Pick.here _ | apply Pick.there)) (by first | (go_simp; done) | (go_simp; rfl)) _ rfl info25s (by simp [Value.oneCell', Value.cells]) (by simp [Value.cells]) rfl) ?_
    rintro _ w7 ⟨rfl, H7⟩
    simp only [putsAt, Value.cells, List.setIfInBounds_toArray, List.set_cons_zero, List.set_cons_succ, List.toList_toArray] at H7
    refine hK.out _ _ ?_
    clear hK K
    refine done_ (by kernel_rfl) ?_
    replace H := H7
    clear H7 H6 hHeld
    go_wp2_with (first | ((with_reducible refine gate_dst (N := 2) rfl ?_); refine ev_ rfl (H.new (cs := #[.int .u64 0, .int .u64 0, .int .u16 0, .slice none 0 0]) (t := 27) (by first | (go_simp; done) | (go_simp; rfl))) ?_; rintro _ w1 ⟨g2, rfl, H1⟩; replace H := H1; clear H1) | ((with_reducible refine gate_store (p := 2) rfl ?_); refine ev_ rfl (H.store 27 (.tmp 2) (.tmp 9) rfl rfl (by repeat (first | exact Pick.here _ | apply Pick.there)) (by first | (go_simp; done) | (go_simp; rfl)) _ rfl info27s (by simp [Value.oneCell', Value.cells]) (by simp [Value.cells]) rfl) ?_; rintro _ w1 ⟨rfl, H1⟩; (try simp only [putsAt, Value.cells, List.setIfInBounds_toArray, List.set_cons_zero, List.set_cons_succ, List.toList_toArray] at H1); replace H := H1; clear H1) | ((with_reducible refine gate_dst (N := 24) rfl ?_); refine Kd.event_run rfl (H.load1 24 (.tmp 23) rfl rfl (by repeat (first | exact Pick.here _ | apply Pick.there)) Try.underlying24 rfl rfl) ?_) | ((with_reducible refine gate_dst (N := 29) rfl ?_); refine Kd.event_run rfl (H.load1 24 (.tmp 28) rfl rfl (by repeat (first | exact Pick.here _ | apply Pick.there)) Try.underlying24 rfl rfl) ?_) | ((with_reducible refine gate_store (p := 2) rfl ?_); refine ev_ rfl (H.store 27 (.tmp 2) (.tmp 32) rfl rfl (by repeat (first | exact Pick.here _ | apply Pick.there)) (by first | (go_simp; done) | (go_simp; rfl)) _ rfl info27s (by simp [Value.oneCell', Value.cells]) (by simp [Value.cells]) rfl) ?_; rintro _ w1 ⟨rfl, H1⟩; (try simp only [putsAt, Value.cells, List.setIfInBounds_toArray, List.set_cons_zero, List.set_cons_succ, List.toList_toArray] at H1); replace H := H1; clear H1) | ((with_reducible refine gate_dst (N := 42) rfl ?_); refine Kd.event_run rfl (H.loadN 27 (.tmp 4) rfl rfl (by repeat (first | exact Pick.here _ | apply Pick.there)) #[.int .u64 t, .int .u64 s, .int .u16 (k : Int), .slice A5 k c5] Try.underlying27 rfl info27s (fun j u hj => by simpa using hj)) ?_) | ((with_reducible refine gate_store (p := 2) rfl ?_); refine ev_ rfl (H.store 27 (.tmp 2) (.tmp 42) rfl rfl (by repeat (first | exact Pick.here _ | apply Pick.there)) (by first | (go_simp; done) | (go_simp; rfl)) _ rfl info27s (by simp [Value.oneCell', Value.cells]) (by simp [Value.cells]) rfl) ?_; rintro _ w1 ⟨rfl, H1⟩; (try simp only [putsAt, Value.cells, List.setIfInBounds_toArray, List.set_cons_zero, List.set_cons_succ, List.toList_toArray] at H1); replace H := H1; clear H1) | ((with_reducible refine gate_dst (N := 44) rfl ?_); refine Kd.event_run rfl (H.load1 24 (.tmp 43) rfl rfl (by repeat (first | exact Pick.here _ | apply Pick.there)) Try.underlying24 rfl rfl) ?_) | ((with_reducible refine gate_store (p := 2) rfl ?_); refine ev_ rfl (H.store 27 (.tmp 2) (.tmp 46) rfl rfl (by repeat (first | exact Pick.here _ | apply Pick.there)) (by first | (go_simp; done) | (go_simp; rfl)) _ rfl info27s (by simp [Value.oneCell', Value.cells]) (by simp [Value.cells]) rfl) ?_; rintro _ w1 ⟨rfl, H1⟩; (try simp only [putsAt, Value.cells, List.setIfInBounds_toArray, List.set_cons_zero, List.set_cons_succ, List.toList_toArray] at H1); replace H := H1; clear H1) | ((with_reducible refine gate_store (p := 2) rfl ?_); refine ev_ rfl (H.store 27 (.tmp 2) (.tmp 50) rfl rfl (by repeat (first | exact Pick.here _ | apply Pick.there)) (by first | (go_simp; done) | (go_simp; rfl)) _ rfl info27s (by simp [Value.oneCell', Value.cells]) (by simp [Value.cells]) rfl) ?_; rintro _ w1 ⟨rfl, H1⟩; (try simp only [putsAt, Value.cells, List.setIfInBounds_toArray, List.set_cons_zero, List.set_cons_succ, List.toList_toArray] at H1); replace H := H1; clear H1) | ((with_reducible refine gate_dst (N := 52) rfl ?_); refine Kd.event_run rfl (H.load1 25 (.tmp 51) rfl rfl (by repeat (first | exact Pick.here _ | apply Pick.there)) Try.underlying25 rfl rfl) ?_) | ((with_reducible refine gate_store (p := 55) rfl ?_); refine ev_ rfl (H.store 25 (.tmp 55) (.tmp 54) rfl rfl (by repeat (first | exact Pick.here _ | apply Pick.there)) (by first | (go_simp; done) | (go_simp; rfl)) _ rfl info25s (by simp [Value.oneCell', Value.cells]) (by simp [Value.cells]) rfl) ?_; rintro _ w1 ⟨rfl, H1⟩; (try simp only [putsAt, Value.cells, List.setIfInBounds_toArray, List.set_cons_zero, List.set_cons_succ, List.toList_toArray] at H1); replace H := H1; clear H1) | ((with_reducible refine gate_store (p := 2) rfl ?_); refine ev_ rfl (H.store 27 (.tmp 2) (.tmp 56) rfl rfl (by repeat (first | exact Pick.here _ | apply Pick.there)) (by first | (go_simp; done) | (go_simp; rfl)) _ rfl info27s (by simp [Value.oneCell', Value.cells]) (by simp [Value.cells]) rfl) ?_; rintro _ w1 ⟨rfl, H1⟩; (try simp only [putsAt, Value.cells, List.setIfInBounds_toArray, List.set_cons_zero, List.set_cons_succ, List.toList_toArray] at H1); replace H := H1; clear H1))
    refine bodyPost_ret (H.ret_ct (p := 2) (u := 3) rfl (.here _) rfl Try.underlying27 rfl info27s) rfl ⟨_, _, rfl, ⟨_, rfl, rfl⟩, ?_⟩
    exact H.take (.cons (by repeat (first | exact Pick.here _ | apply Pick.there)) (.nil _))

set_option maxHeartbeats 1000000 in
set_option maxRecDepth 100000 in
theorem RefGet_form (w : World) (A : Option Addr) (n c : Nat) (bs : List Int) (hb : (Kd.int .u8).C w A n bs) (hc : n ≤ c) (hn : n ≤ 100000) (hby : ∀ y ∈ bs, 0 ≤ y ∧ y ≤ 255) (h14 : 14 ≤ bs.length) (t s : Int) (k : Nat) (hTe : numR ((bs.drop 0).take 6) = t) (hSe : numR ((bs.drop 6).take 6) = s) (hKe : numR ((bs.drop 12).take 2) = (k : Int)) (hk : 1500 < k) (hk2 : k < 1536) :
    Calls Try.prog 22 #[.slice A n c] w (Ret (fun _ => False) w (frAns (getF bs))) := by
  have H := Hp.nothing w
  obtain rfl : bs.length = n := hb.1
  replace hb := Aside0.mk hb
  replace hc := Aside0.mk hc
  have hn2 := Aside0.mk hn
  have hg : getF bs = (0, 0, 0, [], 3) := by
    unfold getF kindL
    rw [if_neg (by omega), hKe, hTe, hSe]
    rw [if_neg (by omega), if_pos (by omega)]
  rw [hg]
  have rK := numR_lt ((bs.drop 12).take 2) (bytes_part hby 12 2) 2 (by simp; omega) (by decide)
  rw [hKe] at rK
  have k1 : k < 65536 := by have := rK.2; simp at this; omega
  have kw : IntKind.u16.wrap (k : Int) = (k : Int) := by rw [IntKind.wrap_u16]; omega
  have kw2 : IntKind.i64.wrap (k : Int) = (k : Int) := by rw [IntKind.wrap_i64]; omega
  have kw3 : wrap64 (k : Int) = (k : Int) := by unfold wrap64; omega
  have C0 : (Kd.int .u8).C w A 6 (bs.take 6) := C_front hb.out 6 (by omega)
  have C6 : (Kd.int .u8).C w (cutA A c 6) 6 ((bs.drop 6).take 6) := C_front (C_cutS (h1 := fun _ => rfl) hb.out 6 (by omega) hc.out) 6 (by omega)
  have C12 : (Kd.int .u8).C w (cutA A c 12) 2 ((bs.drop 12).take 2) := C_front (C_cutS (h1 := fun _ => rfl) hb.out 12 (by omega) hc.out) 2 (by omega)
  have C14 : (Kd.int .u8).C w (cutA A c 14) (bs.length - 14) (bs.drop 14) := C_cutS (h1 := fun _ => rfl) hb.out 14 (by omega) hc.out
  rw [List.drop_zero] at hTe
  have hT := Aside0.mk hTe
  have hS := Aside0.mk hSe
  have hKK := Aside0.mk hKe
  replace C0 := Aside0.mk C0
  replace C6 := Aside0.mk C6
  replace C12 := Aside0.mk C12
  replace C14 := Aside0.mk C14
  have d14 : decide (bs.length < 14) = false := decide_eq_false (by omega)
  have d14I : decide ((bs.length : Int) < 14) = false := decide_eq_false (by omega)
  clear rK hTe hSe hKe hby hg
  have c1 : decide (k ≤ 1500) = false := decide_eq_false (by omega)
  have c1I : decide ((k : Int) ≤ 1500) = false := decide_eq_false (by omega)
  have c2 : decide (k < 1536) = true := decide_eq_true (by omega)
  have c2I : decide ((k : Int) < 1536) = true := decide_eq_true (by omega)
  go_enter Try.func22, Try.ntmps22
  go_wp2_with (first | ((with_reducible refine gate_dst (N := 2) rfl ?_); refine ev_ rfl (H.new (cs := #[.int .u64 0, .int .u64 0, .int .u16 0, .slice none 0 0]) (t := 27) (by first | (go_simp; done) | (go_simp; rfl))) ?_; rintro _ w1 ⟨g2, rfl, H1⟩; replace H := H1; clear H1))
  refine startH H.only (n := 13) [12] #[false, false, false, false, false, false, false, false, false, false, false, false, false] (by kernel_rfl) rfl rfl (fun hHeld => ?_)
  have HD := H.drew
  refine pure_ (i := 0) (N := some 10) (v := ?_) (a' := ?_) #[true, false, false, false, false, false, false, false, false, false, false, false, false] rfl rfl (by kernel_rfl) (fun _ _ _ h => h) (Or.inl ⟨by rfl, ?_⟩) ?_ ?_
  rotate_left
  · intro w'
    go_simp
    with_reducible rfl
  rotate_left
  · simp only [Act.put, List.setIfInBounds_toArray, List.set_cons_zero, List.set_cons_succ, i64_w, i32_w]
    rfl
  refine pure_ (i := 1) (N := some 11) (v := .slice A 6 c) (a' := ?_) #[true, true, false, false, false, false, false, false, false, false, false, false, false] rfl rfl (by kernel_rfl) (fun _ _ _ h => h) (Or.inl ⟨by rfl, run_cut3 (t := 25) (e := 5) (j := 6) rfl rfl rfl Try.underlying25 info5s (by omega) hc.out⟩) ?_ ?_
  rotate_left
  · simp only [Act.put, List.setIfInBounds_toArray, List.set_cons_zero, List.set_cons_succ, i64_w, i32_w]
    rfl
  refine pure_ (i := 3) (N := some 13) (v := ?_) (a' := ?_) #[true, true, false, true, false, false, false, false, false, false, false, false, false] rfl rfl (by kernel_rfl) (fun _ _ _ h => h) (Or.inl ⟨by rfl, ?_⟩) ?_ ?_
  rotate_left
  · intro w'
    go_simp
    with_reducible rfl
  rotate_left
  · simp only [Act.put, List.setIfInBounds_toArray, List.set_cons_zero, List.set_cons_succ, i64_w, i32_w]
    rfl
  refine pure_ (i := 4) (N := some 14) (v := .slice (cutA A c 6) 6 (c - 6)) (a' := ?_) #[true, true, false, true, true, false, false, false, false, false, false, false, false] rfl rfl (by kernel_rfl) (fun _ _ _ h => h) (Or.inl ⟨by rfl, run_cut2 (t := 25) (e := 5) (i := 6) (j := 12) rfl rfl rfl rfl Try.underlying25 info5s (by omega) (by omega) hc.out⟩) ?_ ?_
  rotate_left
  · simp only [Act.put, List.setIfInBounds_toArray, List.set_cons_zero, List.set_cons_succ, i64_w, i32_w]
    rfl
  refine pure_ (i := 6) (N := some 16) (v := ?_) (a' := ?_) #[true, true, false, true, true, false, true, false, false, false, false, false, false] rfl rfl (by kernel_rfl) (fun _ _ _ h => h) (Or.inl ⟨by rfl, ?_⟩) ?_ ?_
  rotate_left
  · intro w'
    go_simp
    with_reducible rfl
  rotate_left
  · simp only [Act.put, List.setIfInBounds_toArray, List.set_cons_zero, List.set_cons_succ, i64_w, i32_w]
    rfl
  refine pure_ (i := 7) (N := some 17) (v := .slice (cutA A c 12) 2 (c - 12)) (a' := ?_) #[true, true, false, true, true, false, true, true, false, false, false, false, false] rfl rfl (by kernel_rfl) (fun _ _ _ h => h) (Or.inl ⟨by rfl, run_cut2 (t := 25) (e := 5) (i := 12) (j := 14) rfl rfl rfl rfl Try.underlying25 info5s (by omega) (by omega) hc.out⟩) ?_ ?_
  rotate_left
  · simp only [Act.put, List.setIfInBounds_toArray, List.set_cons_zero, List.set_cons_succ, i64_w, i32_w]
    rfl
  refine two_ (i := 2) (j := 11) (Ni := some 12) (Nj := some 4) #[true, true, true, true, true, false, true, true, false, false, false, false, false] #[true, true, false, true, true, false, true, true, false, false, false, true, false] rfl rfl rfl rfl (by kernel_rfl) (by decide) (by decide) (fun K hK => ?_) (fun K hK => ?_)
  · skip
    refine goes_ Try.func38 (by kernel_rfl) rfl #[.slice A 6 c] (by rfl) rfl rfl (by simp only [List.map_toArray, List.map_cons, List.map_nil]; rfl) ?_
    refine HD.call0 (RefNum_calls _ A 6 c (bs.take 6) (HD.data C0.out) (by omega)) ?_
    rintro v l1 w3 ⟨hv, rfl⟩ H3
    rw [hT.out] at hv
    subst hv
    replace HD := H3
    clear H3
    refine ⟨_, rfl, ?_⟩
    refine hK.out _ _ (HD.only) (fun hHeld => ?_)
    clear hK K
    refine norm_ (a' := ?_) ?_ ?_
    rotate_left
    · show Act.put _ (some 12) _ = _
      simp only [Act.put, List.setIfInBounds_toArray, List.set_cons_zero, List.set_cons_succ, i64_w, i32_w]
      rfl
    refine two_ (i := 5) (j := 11) (Ni := some 15) (Nj := some 4) #[true, true, true, true, true, true, true, true, false, false, false, false, false] #[true, true, true, true, true, false, true, true, false, false, false, true, false] rfl rfl rfl rfl (by kernel_rfl) (by decide) (by decide) (fun K hK => ?_) (fun K hK => ?_)
    · skip
      refine goes_ Try.func38 (by kernel_rfl) rfl #[.slice (cutA A c 6) 6 (c - 6)] (by rfl) rfl rfl (by simp only [List.map_toArray, List.map_cons, List.map_nil]; rfl) ?_
      refine HD.call0 (RefNum_calls _ (cutA A c 6) 6 (c - 6) ((bs.drop 6).take 6) (HD.data C6.out) (by omega)) ?_
      rintro v l1 w3 ⟨hv, rfl⟩ H3
      rw [hS.out] at hv
      subst hv
      replace HD := H3
      clear H3
      refine ⟨_, rfl, ?_⟩
      refine hK.out _ _ (HD.only) (fun hHeld => ?_)
      clear hK K
      refine norm_ (a' := ?_) ?_ ?_
      rotate_left
      · show Act.put _ (some 15) _ = _
        simp only [Act.put, List.setIfInBounds_toArray, List.set_cons_zero, List.set_cons_succ, i64_w, i32_w]
        rfl
      refine two_ (i := 8) (j := 11) (Ni := some 18) (Nj := some 4) #[true, true, true, true, true, true, true, true, true, false, false, false, false] #[true, true, true, true, true, true, true, true, false, false, false, true, false] rfl rfl rfl rfl (by kernel_rfl) (by decide) (by decide) (fun K hK => ?_) (fun K hK => ?_)
      · skip
        refine goes_ Try.func38 (by kernel_rfl) rfl #[.slice (cutA A c 12) 2 (c - 12)] (by rfl) rfl rfl (by simp only [List.map_toArray, List.map_cons, List.map_nil]; rfl) ?_
        refine HD.call0 (RefNum_calls _ (cutA A c 12) 2 (c - 12) ((bs.drop 12).take 2) (HD.data C12.out) (by omega)) ?_
        rintro v l1 w3 ⟨hv, rfl⟩ H3
        rw [hKK.out] at hv
        subst hv
        replace HD := H3
        clear H3
        refine ⟨_, rfl, ?_⟩
        refine hK.out _ _ (HD.only) (fun hHeld => ?_)
        clear hK K
        refine norm_ (a' := ?_) ?_ ?_
        rotate_left
        · show Act.put _ (some 18) _ = _
          simp only [Act.put, List.setIfInBounds_toArray, List.set_cons_zero, List.set_cons_succ, i64_w, i32_w]
          rfl
        refine pure_ (i := 9) (N := some 19) (v := ?_) (a' := ?_) #[true, true, true, true, true, true, true, true, true, true, false, false, false] rfl rfl (by kernel_rfl) (fun _ _ _ h => h) (Or.inl ⟨by rfl, ?_⟩) ?_ ?_
        rotate_left
        · intro w'
          go_simp
          with_reducible rfl
        rotate_left
        · simp only [Act.put, List.setIfInBounds_toArray, List.set_cons_zero, List.set_cons_succ, i64_w, i32_w]
          rfl
        refine pure_ (i := 10) (N := some 20) (v := ?_) (a' := ?_) #[true, true, true, true, true, true, true, true, true, true, true, false, false] rfl rfl (by kernel_rfl) (fun _ _ _ h => h) (Or.inl ⟨by rfl, ?_⟩) ?_ ?_
        rotate_left
        · intro w'
          go_simp
          with_reducible rfl
        rotate_left
        · simp only [Act.put, List.setIfInBounds_toArray, List.set_cons_zero, List.set_cons_succ, i64_w, i32_w]
          rfl
        refine one_ (i := 11) (N := some 4) #[true, true, true, true, true, true, true, true, true, true, true, true, false] rfl rfl (by kernel_rfl) (by decide) (fun K hK => ?_)
        refine step_ (by rfl) rfl (HD.new (cs := #[.int .u64 0, .int .u64 0, .int .u16 0, .slice none 0 0]) (t := 27) (by first | (go_simp; done) | (go_simp; rfl))) ?_
        rintro _ w4 ⟨g4, rfl, H4⟩
        replace HD := H4
        clear H4
        refine hK.out _ _ (HD.only) (fun hHeld => ?_)
        clear hK K
        refine norm_ (a' := ?_) ?_ ?_
        rotate_left
        · show Act.put _ (some 4) _ = _
          simp only [Act.put, List.setIfInBounds_toArray, List.set_cons_zero, List.set_cons_succ, i64_w, i32_w]
          rfl
        refine last_ (i := 12) (N := none) #[true, true, true, true, true, true, true, true, true, true, true, true, true] rfl rfl (by kernel_rfl) (by decide) (fun K hK => ?_)
        refine step_ (by rfl) rfl (HD.store 27 (.tmp 4) (.tmp 20) rfl rfl (by repeat (first | exact Pick.here _ | apply Pick.there)) (by first | (go_simp; done) | (go_simp; rfl)) _ rfl info27s (by simp [Value.oneCell', Value.cells]) (by simp [Value.cells]) rfl) ?_
        rintro _ w5 ⟨rfl, H5⟩
        simp only [putsAt, Value.cells, List.setIfInBounds_toArray, List.set_cons_zero, List.set_cons_succ, List.toList_toArray] at H5
        replace HD := H5
        clear H5
        refine hK.out _ _ ?_
        clear hK K
        refine done_ (by kernel_rfl) ?_
        replace H := HD
        clear HD hHeld
        go_wp2_with (first | ((with_reducible refine gate_dst (N := 2) rfl ?_); refine ev_ rfl (H.new (cs := #[.int .u64 0, .int .u64 0, .int .u16 0, .slice none 0 0]) (t := 27) (by first | (go_simp; done) | (go_simp; rfl))) ?_; rintro _ w1 ⟨g2, rfl, H1⟩; replace H := H1; clear H1) | ((with_reducible refine gate_store (p := 2) rfl ?_); refine ev_ rfl (H.store 27 (.tmp 2) (.tmp 9) rfl rfl (by repeat (first | exact Pick.here _ | apply Pick.there)) (by first | (go_simp; done) | (go_simp; rfl)) _ rfl info27s (by simp [Value.oneCell', Value.cells]) (by simp [Value.cells]) rfl) ?_; rintro _ w1 ⟨rfl, H1⟩; (try simp only [putsAt, Value.cells, List.setIfInBounds_toArray, List.set_cons_zero, List.set_cons_succ, List.toList_toArray] at H1); replace H := H1; clear H1) | ((with_reducible refine gate_dst (N := 24) rfl ?_); refine Kd.event_run rfl (H.load1 24 (.tmp 23) rfl rfl (by repeat (first | exact Pick.here _ | apply Pick.there)) Try.underlying24 rfl rfl) ?_) | ((with_reducible refine gate_dst (N := 29) rfl ?_); refine Kd.event_run rfl (H.load1 24 (.tmp 28) rfl rfl (by repeat (first | exact Pick.here _ | apply Pick.there)) Try.underlying24 rfl rfl) ?_) | ((with_reducible refine gate_store (p := 2) rfl ?_); refine ev_ rfl (H.store 27 (.tmp 2) (.tmp 32) rfl rfl (by repeat (first | exact Pick.here _ | apply Pick.there)) (by first | (go_simp; done) | (go_simp; rfl)) _ rfl info27s (by simp [Value.oneCell', Value.cells]) (by simp [Value.cells]) rfl) ?_; rintro _ w1 ⟨rfl, H1⟩; (try simp only [putsAt, Value.cells, List.setIfInBounds_toArray, List.set_cons_zero, List.set_cons_succ, List.toList_toArray] at H1); replace H := H1; clear H1) | ((with_reducible refine gate_store (p := 2) rfl ?_); refine ev_ rfl (H.store 27 (.tmp 2) (.tmp 42) rfl rfl (by repeat (first | exact Pick.here _ | apply Pick.there)) (by first | (go_simp; done) | (go_simp; rfl)) _ rfl info27s (by simp [Value.oneCell', Value.cells]) (by simp [Value.cells]) rfl) ?_; rintro _ w1 ⟨rfl, H1⟩; (try simp only [putsAt, Value.cells, List.setIfInBounds_toArray, List.set_cons_zero, List.set_cons_succ, List.toList_toArray] at H1); replace H := H1; clear H1) | ((with_reducible refine gate_dst (N := 44) rfl ?_); refine Kd.event_run rfl (H.load1 24 (.tmp 43) rfl rfl (by repeat (first | exact Pick.here _ | apply Pick.there)) Try.underlying24 rfl rfl) ?_) | ((with_reducible refine gate_store (p := 2) rfl ?_); refine ev_ rfl (H.store 27 (.tmp 2) (.tmp 46) rfl rfl (by repeat (first | exact Pick.here _ | apply Pick.there)) (by first | (go_simp; done) | (go_simp; rfl)) _ rfl info27s (by simp [Value.oneCell', Value.cells]) (by simp [Value.cells]) rfl) ?_; rintro _ w1 ⟨rfl, H1⟩; (try simp only [putsAt, Value.cells, List.setIfInBounds_toArray, List.set_cons_zero, List.set_cons_succ, List.toList_toArray] at H1); replace H := H1; clear H1) | ((with_reducible refine gate_store (p := 2) rfl ?_); refine ev_ rfl (H.store 27 (.tmp 2) (.tmp 50) rfl rfl (by repeat (first | exact Pick.here _ | apply Pick.there)) (by first | (go_simp; done) | (go_simp; rfl)) _ rfl info27s (by simp [Value.oneCell', Value.cells]) (by simp [Value.cells]) rfl) ?_; rintro _ w1 ⟨rfl, H1⟩; (try simp only [putsAt, Value.cells, List.setIfInBounds_toArray, List.set_cons_zero, List.set_cons_succ, List.toList_toArray] at H1); replace H := H1; clear H1) | ((with_reducible refine gate_dst (N := 52) rfl ?_); refine Kd.event_run rfl (H.load1 25 (.tmp 51) rfl rfl (by repeat (first | exact Pick.here _ | apply Pick.there)) Try.underlying25 rfl rfl) ?_) | ((with_reducible refine gate_store (p := 55) rfl ?_); refine ev_ rfl (H.store 25 (.tmp 55) (.tmp 54) rfl rfl (by repeat (first | exact Pick.here _ | apply Pick.there)) (by first | (go_simp; done) | (go_simp; rfl)) _ rfl info25s (by simp [Value.oneCell', Value.cells]) (by simp [Value.cells]) rfl) ?_; rintro _ w1 ⟨rfl, H1⟩; (try simp only [putsAt, Value.cells, List.setIfInBounds_toArray, List.set_cons_zero, List.set_cons_succ, List.toList_toArray] at H1); replace H := H1; clear H1) | ((with_reducible refine gate_store (p := 2) rfl ?_); refine ev_ rfl (H.store 27 (.tmp 2) (.tmp 56) rfl rfl (by repeat (first | exact Pick.here _ | apply Pick.there)) (by first | (go_simp; done) | (go_simp; rfl)) _ rfl info27s (by simp [Value.oneCell', Value.cells]) (by simp [Value.cells]) rfl) ?_; rintro _ w1 ⟨rfl, H1⟩; (try simp only [putsAt, Value.cells, List.setIfInBounds_toArray, List.set_cons_zero, List.set_cons_succ, List.toList_toArray] at H1); replace H := H1; clear H1) | ((with_reducible refine gate_dst (N := 22) rfl ?_); refine Kd.event_run rfl (v := .slice (cutA A c 14) (bs.length - 14) (c - 14)) (w1 := _) (run_cut (t := 25) (e := 5) (j := 14) rfl rfl rfl Try.underlying25 info5s (by omega) _) ?_))
        refine bodyPost_ret (H.ret_ct (p := 2) (u := 3) rfl (.here _) rfl Try.underlying27 rfl info27s) rfl ⟨_, _, rfl, ⟨.slice none 0 0, rfl, rfl⟩, ?_⟩
        exact (H.only).nil_row _ _
      · skip
        refine step_ (by rfl) rfl (HD.new (cs := #[.int .u64 0, .int .u64 0, .int .u16 0, .slice none 0 0]) (t := 27) (by first | (go_simp; done) | (go_simp; rfl))) ?_
        rintro _ w4 ⟨g4, rfl, H4⟩
        replace HD := H4
        clear H4
        refine hK.out _ _ (HD.only) (fun hHeld => ?_)
        clear hK K
        refine norm_ (a' := ?_) ?_ ?_
        rotate_left
        · show Act.put _ (some 4) _ = _
          simp only [Act.put, List.setIfInBounds_toArray, List.set_cons_zero, List.set_cons_succ, i64_w, i32_w]
          rfl
        refine one_ (i := 8) (N := some 18) #[true, true, true, true, true, true, true, true, true, false, false, true, false] rfl rfl (by kernel_rfl) (by decide) (fun K hK => ?_)
        refine goes_ Try.func38 (by kernel_rfl) rfl #[.slice (cutA A c 12) 2 (c - 12)] (by rfl) rfl rfl (by simp only [List.map_toArray, List.map_cons, List.map_nil]; rfl) ?_
        refine HD.call0 (RefNum_calls _ (cutA A c 12) 2 (c - 12) ((bs.drop 12).take 2) (HD.data C12.out) (by omega)) ?_
        rintro v l1 w3 ⟨hv, rfl⟩ H3
        rw [hKK.out] at hv
        subst hv
        replace HD := H3
        clear H3
        refine ⟨_, rfl, ?_⟩
        refine hK.out _ _ (HD.only) (fun hHeld => ?_)
        clear hK K
        refine norm_ (a' := ?_) ?_ ?_
        rotate_left
        · show Act.put _ (some 18) _ = _
          simp only [Act.put, List.setIfInBounds_toArray, List.set_cons_zero, List.set_cons_succ, i64_w, i32_w]
          rfl
        refine pure_ (i := 9) (N := some 19) (v := ?_) (a' := ?_) #[true, true, true, true, true, true, true, true, true, true, false, true, false] rfl rfl (by kernel_rfl) (fun _ _ _ h => h) (Or.inl ⟨by rfl, ?_⟩) ?_ ?_
        rotate_left
        · intro w'
          go_simp
          with_reducible rfl
        rotate_left
        · simp only [Act.put, List.setIfInBounds_toArray, List.set_cons_zero, List.set_cons_succ, i64_w, i32_w]
          rfl
        refine pure_ (i := 10) (N := some 20) (v := ?_) (a' := ?_) #[true, true, true, true, true, true, true, true, true, true, true, true, false] rfl rfl (by kernel_rfl) (fun _ _ _ h => h) (Or.inl ⟨by rfl, ?_⟩) ?_ ?_
        rotate_left
        · intro w'
          go_simp
          with_reducible rfl
        rotate_left
        · simp only [Act.put, List.setIfInBounds_toArray, List.set_cons_zero, List.set_cons_succ, i64_w, i32_w]
          rfl
        refine last_ (i := 12) (N := none) #[true, true, true, true, true, true, true, true, true, true, true, true, true] rfl rfl (by kernel_rfl) (by decide) (fun K hK => ?_)
        refine step_ (by rfl) rfl (HD.store 27 (.tmp 4) (.tmp 20) rfl rfl (by repeat (first | exact Pick.here _ | apply Pick.there)) (by first | (go_simp; done) | (go_simp; rfl)) _ rfl info27s (by simp [Value.oneCell', Value.cells]) (by simp [Value.cells]) rfl) ?_
        rintro _ w5 ⟨rfl, H5⟩
        simp only [putsAt, Value.cells, List.setIfInBounds_toArray, List.set_cons_zero, List.set_cons_succ, List.toList_toArray] at H5
        replace HD := H5
        clear H5
        refine hK.out _ _ ?_
        clear hK K
        refine done_ (by kernel_rfl) ?_
        replace H := HD
        clear HD hHeld
        go_wp2_with (first | ((with_reducible refine gate_dst (N := 2) rfl ?_); refine ev_ rfl (H.new (cs := #[.int .u64 0, .int .u64 0, .int .u16 0, .slice none 0 0]) (t := 27) (by first | (go_simp; done) | (go_simp; rfl))) ?_; rintro _ w1 ⟨g2, rfl, H1⟩; replace H := H1; clear H1) | ((with_reducible refine gate_store (p := 2) rfl ?_); refine ev_ rfl (H.store 27 (.tmp 2) (.tmp 9) rfl rfl (by repeat (first | exact Pick.here _ | apply Pick.there)) (by first | (go_simp; done) | (go_simp; rfl)) _ rfl info27s (by simp [Value.oneCell', Value.cells]) (by simp [Value.cells]) rfl) ?_; rintro _ w1 ⟨rfl, H1⟩; (try simp only [putsAt, Value.cells, List.setIfInBounds_toArray, List.set_cons_zero, List.set_cons_succ, List.toList_toArray] at H1); replace H := H1; clear H1) | ((with_reducible refine gate_dst (N := 24) rfl ?_); refine Kd.event_run rfl (H.load1 24 (.tmp 23) rfl rfl (by repeat (first | exact Pick.here _ | apply Pick.there)) Try.underlying24 rfl rfl) ?_) | ((with_reducible refine gate_dst (N := 29) rfl ?_); refine Kd.event_run rfl (H.load1 24 (.tmp 28) rfl rfl (by repeat (first | exact Pick.here _ | apply Pick.there)) Try.underlying24 rfl rfl) ?_) | ((with_reducible refine gate_store (p := 2) rfl ?_); refine ev_ rfl (H.store 27 (.tmp 2) (.tmp 32) rfl rfl (by repeat (first | exact Pick.here _ | apply Pick.there)) (by first | (go_simp; done) | (go_simp; rfl)) _ rfl info27s (by simp [Value.oneCell', Value.cells]) (by simp [Value.cells]) rfl) ?_; rintro _ w1 ⟨rfl, H1⟩; (try simp only [putsAt, Value.cells, List.setIfInBounds_toArray, List.set_cons_zero, List.set_cons_succ, List.toList_toArray] at H1); replace H := H1; clear H1) | ((with_reducible refine gate_store (p := 2) rfl ?_); refine ev_ rfl (H.store 27 (.tmp 2) (.tmp 42) rfl rfl (by repeat (first | exact Pick.here _ | apply Pick.there)) (by first | (go_simp; done) | (go_simp; rfl)) _ rfl info27s (by simp [Value.oneCell', Value.cells]) (by simp [Value.cells]) rfl) ?_; rintro _ w1 ⟨rfl, H1⟩; (try simp only [putsAt, Value.cells, List.setIfInBounds_toArray, List.set_cons_zero, List.set_cons_succ, List.toList_toArray] at H1); replace H := H1; clear H1) | ((with_reducible refine gate_dst (N := 44) rfl ?_); refine Kd.event_run rfl (H.load1 24 (.tmp 43) rfl rfl (by repeat (first | exact Pick.here _ | apply Pick.there)) Try.underlying24 rfl rfl) ?_) | ((with_reducible refine gate_store (p := 2) rfl ?_); refine ev_ rfl (H.store 27 (.tmp 2) (.tmp 46) rfl rfl (by repeat (first | exact Pick.here _ | apply Pick.there)) (by first | (go_simp; done) | (go_simp; rfl)) _ rfl info27s (by simp [Value.oneCell', Value.cells]) (by simp [Value.cells]) rfl) ?_; rintro _ w1 ⟨rfl, H1⟩; (try simp only [putsAt, Value.cells, List.setIfInBounds_toArray, List.set_cons_zero, List.set_cons_succ, List.toList_toArray] at H1); replace H := H1; clear H1) | ((with_reducible refine gate_store (p := 2) rfl ?_); refine ev_ rfl (H.store 27 (.tmp 2) (.tmp 50) rfl rfl (by repeat (first | exact Pick.here _ | apply Pick.there)) (by first | (go_simp; done) | (go_simp; rfl)) _ rfl info27s (by simp [Value.oneCell', Value.cells]) (by simp [Value.cells]) rfl) ?_; rintro _ w1 ⟨rfl, H1⟩; (try simp only [putsAt, Value.cells, List.setIfInBounds_toArray, List.set_cons_zero, List.set_cons_succ, List.toList_toArray] at H1); replace H := H1; clear H1) | ((with_reducible refine gate_dst (N := 52) rfl ?_); refine Kd.event_run rfl (H.load1 25 (.tmp 51) rfl rfl (by repeat (first | exact Pick.here _ | apply Pick.there)) Try.underlying25 rfl rfl) ?_) | ((with_reducible refine gate_store (p := 55) rfl ?_); refine ev_ rfl (H.store 25 (.tmp 55) (.tmp 54) rfl rfl (by repeat (first | exact Pick.here _ | apply Pick.there)) (by first | (go_simp; done) | (go_simp; rfl)) _ rfl info25s (by simp [Value.oneCell', Value.cells]) (by simp [Value.cells]) rfl) ?_; rintro _ w1 ⟨rfl, H1⟩; (try simp only [putsAt, Value.cells, List.setIfInBounds_toArray, List.set_cons_zero, List.set_cons_succ, List.toList_toArray] at H1); replace H := H1; clear H1) | ((with_reducible refine gate_store (p := 2) rfl ?_); refine ev_ rfl (H.store 27 (.tmp 2) (.tmp 56) rfl rfl (by repeat (first | exact Pick.here _ | apply Pick.there)) (by first | (go_simp; done) | (go_simp; rfl)) _ rfl info27s (by simp [Value.oneCell', Value.cells]) (by simp [Value.cells]) rfl) ?_; rintro _ w1 ⟨rfl, H1⟩; (try simp only [putsAt, Value.cells, List.setIfInBounds_toArray, List.set_cons_zero, List.set_cons_succ, List.toList_toArray] at H1); replace H := H1; clear H1) | ((with_reducible refine gate_dst (N := 22) rfl ?_); refine Kd.event_run rfl (v := .slice (cutA A c 14) (bs.length - 14) (c - 14)) (w1 := _) (run_cut (t := 25) (e := 5) (j := 14) rfl rfl rfl Try.underlying25 info5s (by omega) _) ?_))
        refine bodyPost_ret (H.ret_ct (p := 2) (u := 3) rfl (.here _) rfl Try.underlying27 rfl info27s) rfl ⟨_, _, rfl, ⟨.slice none 0 0, rfl, rfl⟩, ?_⟩
        exact (H.only).nil_row _ _
    · skip
      refine step_ (by rfl) rfl (HD.new (cs := #[.int .u64 0, .int .u64 0, .int .u16 0, .slice none 0 0]) (t := 27) (by first | (go_simp; done) | (go_simp; rfl))) ?_
      rintro _ w4 ⟨g4, rfl, H4⟩
      replace HD := H4
      clear H4
      refine hK.out _ _ (HD.only) (fun hHeld => ?_)
      clear hK K
      refine norm_ (a' := ?_) ?_ ?_
      rotate_left
      · show Act.put _ (some 4) _ = _
        simp only [Act.put, List.setIfInBounds_toArray, List.set_cons_zero, List.set_cons_succ, i64_w, i32_w]
        rfl
      refine one_ (i := 5) (N := some 15) #[true, true, true, true, true, true, true, true, false, false, false, true, false] rfl rfl (by kernel_rfl) (by decide) (fun K hK => ?_)
      refine goes_ Try.func38 (by kernel_rfl) rfl #[.slice (cutA A c 6) 6 (c - 6)] (by rfl) rfl rfl (by simp only [List.map_toArray, List.map_cons, List.map_nil]; rfl) ?_
      refine HD.call0 (RefNum_calls _ (cutA A c 6) 6 (c - 6) ((bs.drop 6).take 6) (HD.data C6.out) (by omega)) ?_
      rintro v l1 w3 ⟨hv, rfl⟩ H3
      rw [hS.out] at hv
      subst hv
      replace HD := H3
      clear H3
      refine ⟨_, rfl, ?_⟩
      refine hK.out _ _ (HD.only) (fun hHeld => ?_)
      clear hK K
      refine norm_ (a' := ?_) ?_ ?_
      rotate_left
      · show Act.put _ (some 15) _ = _
        simp only [Act.put, List.setIfInBounds_toArray, List.set_cons_zero, List.set_cons_succ, i64_w, i32_w]
        rfl
      refine one_ (i := 8) (N := some 18) #[true, true, true, true, true, true, true, true, true, false, false, true, false] rfl rfl (by kernel_rfl) (by decide) (fun K hK => ?_)
      refine goes_ Try.func38 (by kernel_rfl) rfl #[.slice (cutA A c 12) 2 (c - 12)] (by rfl) rfl rfl (by simp only [List.map_toArray, List.map_cons, List.map_nil]; rfl) ?_
      refine HD.call0 (RefNum_calls _ (cutA A c 12) 2 (c - 12) ((bs.drop 12).take 2) (HD.data C12.out) (by omega)) ?_
      rintro v l1 w3 ⟨hv, rfl⟩ H3
      rw [hKK.out] at hv
      subst hv
      replace HD := H3
      clear H3
      refine ⟨_, rfl, ?_⟩
      refine hK.out _ _ (HD.only) (fun hHeld => ?_)
      clear hK K
      refine norm_ (a' := ?_) ?_ ?_
      rotate_left
      · show Act.put _ (some 18) _ = _
        simp only [Act.put, List.setIfInBounds_toArray, List.set_cons_zero, List.set_cons_succ, i64_w, i32_w]
        rfl
      refine pure_ (i := 9) (N := some 19) (v := ?_) (a' := ?_) #[true, true, true, true, true, true, true, true, true, true, false, true, false] rfl rfl (by kernel_rfl) (fun _ _ _ h => h) (Or.inl ⟨by rfl, ?_⟩) ?_ ?_
      rotate_left
      · intro w'
        go_simp
        with_reducible rfl
      rotate_left
      · simp only [Act.put, List.setIfInBounds_toArray, List.set_cons_zero, List.set_cons_succ, i64_w, i32_w]
        rfl
      refine pure_ (i := 10) (N := some 20) (v := ?_) (a' := ?_) #[true, true, true, true, true, true, true, true, true, true, true, true, false] rfl rfl (by kernel_rfl) (fun _ _ _ h => h) (Or.inl ⟨by rfl, ?_⟩) ?_ ?_
      rotate_left
      · intro w'
        go_simp
        with_reducible rfl
      rotate_left
      · simp only [Act.put, List.setIfInBounds_toArray, List.set_cons_zero, List.set_cons_succ, i64_w, i32_w]
        rfl
      refine last_ (i := 12) (N := none) #[true, true, true, true, true, true, true, true, true, true, true, true, true] rfl rfl (by kernel_rfl) (by decide) (fun K hK => ?_)
      refine step_ (by rfl) rfl (HD.store 27 (.tmp 4) (.tmp 20) rfl rfl (by repeat (first | exact Pick.here _ | apply Pick.there)) (by first | (go_simp; done) | (go_simp; rfl)) _ rfl info27s (by simp [Value.oneCell', Value.cells]) (by simp [Value.cells]) rfl) ?_
      rintro _ w5 ⟨rfl, H5⟩
      simp only [putsAt, Value.cells, List.setIfInBounds_toArray, List.set_cons_zero, List.set_cons_succ, List.toList_toArray] at H5
      replace HD := H5
      clear H5
      refine hK.out _ _ ?_
      clear hK K
      refine done_ (by kernel_rfl) ?_
      replace H := HD
      clear HD hHeld
      go_wp2_with (first | ((with_reducible refine gate_dst (N := 2) rfl ?_); refine ev_ rfl (H.new (cs := #[.int .u64 0, .int .u64 0, .int .u16 0, .slice none 0 0]) (t := 27) (by first | (go_simp; done) | (go_simp; rfl))) ?_; rintro _ w1 ⟨g2, rfl, H1⟩; replace H := H1; clear H1) | ((with_reducible refine gate_store (p := 2) rfl ?_); refine ev_ rfl (H.store 27 (.tmp 2) (.tmp 9) rfl rfl (by repeat (first | exact Pick.here _ | apply Pick.there)) (by first | (go_simp; done) | (go_simp; rfl)) _ rfl info27s (by simp [Value.oneCell', Value.cells]) (by simp [Value.cells]) rfl) ?_; rintro _ w1 ⟨rfl, H1⟩; (try simp only [putsAt, Value.cells, List.setIfInBounds_toArray, List.set_cons_zero, List.set_cons_succ, List.toList_toArray] at H1); replace H := H1; clear H1) | ((with_reducible refine gate_dst (N := 24) rfl ?_); refine Kd.event_run rfl (H.load1 24 (.tmp 23) rfl rfl (by repeat (first | exact Pick.here _ | apply Pick.there)) Try.underlying24 rfl rfl) ?_) | ((with_reducible refine gate_dst (N := 29) rfl ?_); refine Kd.event_run rfl (H.load1 24 (.tmp 28) rfl rfl (by repeat (first | exact Pick.here _ | apply Pick.there)) Try.underlying24 rfl rfl) ?_) | ((with_reducible refine gate_store (p := 2) rfl ?_); refine ev_ rfl (H.store 27 (.tmp 2) (.tmp 32) rfl rfl (by repeat (first | exact Pick.here _ | apply Pick.there)) (by first | (go_simp; done) | (go_simp; rfl)) _ rfl info27s (by simp [Value.oneCell', Value.cells]) (by simp [Value.cells]) rfl) ?_; rintro _ w1 ⟨rfl, H1⟩; (try simp only [putsAt, Value.cells, List.setIfInBounds_toArray, List.set_cons_zero, List.set_cons_succ, List.toList_toArray] at H1); replace H := H1; clear H1) | ((with_reducible refine gate_store (p := 2) rfl ?_); refine ev_ rfl (H.store 27 (.tmp 2) (.tmp 42) rfl rfl (by repeat (first | exact Pick.here _ | apply Pick.there)) (by first | (go_simp; done) | (go_simp; rfl)) _ rfl info27s (by simp [Value.oneCell', Value.cells]) (by simp [Value.cells]) rfl) ?_; rintro _ w1 ⟨rfl, H1⟩; (try simp only [putsAt, Value.cells, List.setIfInBounds_toArray, List.set_cons_zero, List.set_cons_succ, List.toList_toArray] at H1); replace H := H1; clear H1) | ((with_reducible refine gate_dst (N := 44) rfl ?_); refine Kd.event_run rfl (H.load1 24 (.tmp 43) rfl rfl (by repeat (first | exact Pick.here _ | apply Pick.there)) Try.underlying24 rfl rfl) ?_) | ((with_reducible refine gate_store (p := 2) rfl ?_); refine ev_ rfl (H.store 27 (.tmp 2) (.tmp 46) rfl rfl (by repeat (first | exact Pick.here _ | apply Pick.there)) (by first | (go_simp; done) | (go_simp; rfl)) _ rfl info27s (by simp [Value.oneCell', Value.cells]) (by simp [Value.cells]) rfl) ?_; rintro _ w1 ⟨rfl, H1⟩; (try simp only [putsAt, Value.cells, List.setIfInBounds_toArray, List.set_cons_zero, List.set_cons_succ, List.toList_toArray] at H1); replace H := H1; clear H1) | ((with_reducible refine gate_store (p := 2) rfl ?_); refine ev_ rfl (H.store 27 (.tmp 2) (.tmp 50) rfl rfl (by repeat (first | exact Pick.here _ | apply Pick.there)) (by first | (go_simp; done) | (go_simp; rfl)) _ rfl info27s (by simp [Value.oneCell', Value.cells]) (by simp [Value.cells]) rfl) ?_; rintro _ w1 ⟨rfl, H1⟩; (try simp only [putsAt, Value.cells, List.setIfInBounds_toArray, List.set_cons_zero, List.set_cons_succ, List.toList_toArray] at H1); replace H := H1; clear H1) | ((with_reducible refine gate_dst (N := 52) rfl ?_); refine Kd.event_run rfl (H.load1 25 (.tmp 51) rfl rfl (by repeat (first | exact Pick.here _ | apply Pick.there)) Try.underlying25 rfl rfl) ?_) | ((with_reducible refine gate_store (p := 55) rfl ?_); refine ev_ rfl (H.store 25 (.tmp 55) (.tmp 54) rfl rfl (by repeat (first | exact Pick.here _ | apply Pick.there)) (by first | (go_simp; done) | (go_simp; rfl)) _ rfl info25s (by simp [Value.oneCell', Value.cells]) (by simp [Value.cells]) rfl) ?_; rintro _ w1 ⟨rfl, H1⟩; (try simp only [putsAt, Value.cells, List.setIfInBounds_toArray, List.set_cons_zero, List.set_cons_succ, List.toList_toArray] at H1); replace H := H1; clear H1) | ((with_reducible refine gate_store (p := 2) rfl ?_); refine ev_ rfl (H.store 27 (.tmp 2) (.tmp 56) rfl rfl (by repeat (first | exact Pick.here _ | apply Pick.there)) (by first | (go_simp; done) | (go_simp; rfl)) _ rfl info27s (by simp [Value.oneCell', Value.cells]) (by simp [Value.cells]) rfl) ?_; rintro _ w1 ⟨rfl, H1⟩; (try simp only [putsAt, Value.cells, List.setIfInBounds_toArray, List.set_cons_zero, List.set_cons_succ, List.toList_toArray] at H1); replace H := H1; clear H1) | ((with_reducible refine gate_dst (N := 22) rfl ?_); refine Kd.event_run rfl (v := .slice (cutA A c 14) (bs.length - 14) (c - 14)) (w1 := _) (run_cut (t := 25) (e := 5) (j := 14) rfl rfl rfl Try.underlying25 info5s (by omega) _) ?_))
      refine bodyPost_ret (H.ret_ct (p := 2) (u := 3) rfl (.here _) rfl Try.underlying27 rfl info27s) rfl ⟨_, _, rfl, ⟨.slice none 0 0, rfl, rfl⟩, ?_⟩
      exact (H.only).nil_row _ _
  · skip
    refine step_ (by rfl) rfl (HD.new (cs := #[.int .u64 0, .int .u64 0, .int .u16 0, .slice none 0 0]) (t := 27) (by first | (go_simp; done) | (go_simp; rfl))) ?_
    rintro _ w4 ⟨g4, rfl, H4⟩
    replace HD := H4
    clear H4
    refine hK.out _ _ (HD.only) (fun hHeld => ?_)
    clear hK K
    refine norm_ (a' := ?_) ?_ ?_
    rotate_left
    · show Act.put _ (some 4) _ = _
      simp only [Act.put, List.setIfInBounds_toArray, List.set_cons_zero, List.set_cons_succ, i64_w, i32_w]
      rfl
    refine one_ (i := 2) (N := some 12) #[true, true, true, true, true, false, true, true, false, false, false, true, false] rfl rfl (by kernel_rfl) (by decide) (fun K hK => ?_)
    refine goes_ Try.func38 (by kernel_rfl) rfl #[.slice A 6 c] (by rfl) rfl rfl (by simp only [List.map_toArray, List.map_cons, List.map_nil]; rfl) ?_
    refine HD.call0 (RefNum_calls _ A 6 c (bs.take 6) (HD.data C0.out) (by omega)) ?_
    rintro v l1 w3 ⟨hv, rfl⟩ H3
    rw [hT.out] at hv
    subst hv
    replace HD := H3
    clear H3
    refine ⟨_, rfl, ?_⟩
    refine hK.out _ _ (HD.only) (fun hHeld => ?_)
    clear hK K
    refine norm_ (a' := ?_) ?_ ?_
    rotate_left
    · show Act.put _ (some 12) _ = _
      simp only [Act.put, List.setIfInBounds_toArray, List.set_cons_zero, List.set_cons_succ, i64_w, i32_w]
      rfl
    refine one_ (i := 5) (N := some 15) #[true, true, true, true, true, true, true, true, false, false, false, true, false] rfl rfl (by kernel_rfl) (by decide) (fun K hK => ?_)
    refine goes_ Try.func38 (by kernel_rfl) rfl #[.slice (cutA A c 6) 6 (c - 6)] (by rfl) rfl rfl (by simp only [List.map_toArray, List.map_cons, List.map_nil]; rfl) ?_
    refine HD.call0 (RefNum_calls _ (cutA A c 6) 6 (c - 6) ((bs.drop 6).take 6) (HD.data C6.out) (by omega)) ?_
    rintro v l1 w3 ⟨hv, rfl⟩ H3
    rw [hS.out] at hv
    subst hv
    replace HD := H3
    clear H3
    refine ⟨_, rfl, ?_⟩
    refine hK.out _ _ (HD.only) (fun hHeld => ?_)
    clear hK K
    refine norm_ (a' := ?_) ?_ ?_
    rotate_left
    · show Act.put _ (some 15) _ = _
      simp only [Act.put, List.setIfInBounds_toArray, List.set_cons_zero, List.set_cons_succ, i64_w, i32_w]
      rfl
    refine one_ (i := 8) (N := some 18) #[true, true, true, true, true, true, true, true, true, false, false, true, false] rfl rfl (by kernel_rfl) (by decide) (fun K hK => ?_)
    refine goes_ Try.func38 (by kernel_rfl) rfl #[.slice (cutA A c 12) 2 (c - 12)] (by rfl) rfl rfl (by simp only [List.map_toArray, List.map_cons, List.map_nil]; rfl) ?_
    refine HD.call0 (RefNum_calls _ (cutA A c 12) 2 (c - 12) ((bs.drop 12).take 2) (HD.data C12.out) (by omega)) ?_
    rintro v l1 w3 ⟨hv, rfl⟩ H3
    rw [hKK.out] at hv
    subst hv
    replace HD := H3
    clear H3
    refine ⟨_, rfl, ?_⟩
    refine hK.out _ _ (HD.only) (fun hHeld => ?_)
    clear hK K
    refine norm_ (a' := ?_) ?_ ?_
    rotate_left
    · show Act.put _ (some 18) _ = _
      simp only [Act.put, List.setIfInBounds_toArray, List.set_cons_zero, List.set_cons_succ, i64_w, i32_w]
      rfl
    refine pure_ (i := 9) (N := some 19) (v := ?_) (a' := ?_) #[true, true, true, true, true, true, true, true, true, true, false, true, false] rfl rfl (by kernel_rfl) (fun _ _ _ h => h) (Or.inl ⟨by rfl, ?_⟩) ?_ ?_
    rotate_left
    · intro w'
      go_simp
      with_reducible rfl
    rotate_left
    · simp only [Act.put, List.setIfInBounds_toArray, List.set_cons_zero, List.set_cons_succ, i64_w, i32_w]
      rfl
    refine pure_ (i := 10) (N := some 20) (v := ?_) (a' := ?_) #[true, true, true, true, true, true, true, true, true, true, true, true, false] rfl rfl (by kernel_rfl) (fun _ _ _ h => h) (Or.inl ⟨by rfl, ?_⟩) ?_ ?_
    rotate_left
    · intro w'
      go_simp
      with_reducible rfl
    rotate_left
    · simp only [Act.put, List.setIfInBounds_toArray, List.set_cons_zero, List.set_cons_succ, i64_w, i32_w]
      rfl
    refine last_ (i := 12) (N := none) #[true, true, true, true, true, true, true, true, true, true, true, true, true] rfl rfl (by kernel_rfl) (by decide) (fun K hK => ?_)
    refine step_ (by rfl) rfl (HD.store 27 (.tmp 4) (.tmp 20) rfl rfl (by repeat (first | exact Pick.here _ | apply Pick.there)) (by first | (go_simp; done) | (go_simp; rfl)) _ rfl info27s (by simp [Value.oneCell', Value.cells]) (by simp [Value.cells]) rfl) ?_
    rintro _ w5 ⟨rfl, H5⟩
    simp only [putsAt, Value.cells, List.setIfInBounds_toArray, List.set_cons_zero, List.set_cons_succ, List.toList_toArray] at H5
    replace HD := H5
    clear H5
    refine hK.out _ _ ?_
    clear hK K
    refine done_ (by kernel_rfl) ?_
    replace H := HD
    clear HD hHeld
    go_wp2_with (first | ((with_reducible refine gate_dst (N := 2) rfl ?_); refine ev_ rfl (H.new (cs := #[.int .u64 0, .int .u64 0, .int .u16 0, .slice none 0 0]) (t := 27) (by first | (go_simp; done) | (go_simp; rfl))) ?_; rintro _ w1 ⟨g2, rfl, H1⟩; replace H := H1; clear H1) | ((with_reducible refine gate_store (p := 2) rfl ?_); refine ev_ rfl (H.store 27 (.tmp 2) (.tmp 9) rfl rfl (by repeat (first | exact Pick.here _ | apply Pick.there)) (by first | (go_simp; done) | (go_simp; rfl)) _ rfl info27s (by simp [Value.oneCell', Value.cells]) (by simp [Value.cells]) rfl) ?_; rintro _ w1 ⟨rfl, H1⟩; (try simp only [putsAt, Value.cells, List.setIfInBounds_toArray, List.set_cons_zero, List.set_cons_succ, List.toList_toArray] at H1); replace H := H1; clear H1) | ((with_reducible refine gate_dst (N := 24) rfl ?_); refine Kd.event_run rfl (H.load1 24 (.tmp 23) rfl rfl (by repeat (first | exact Pick.here _ | apply Pick.there)) Try.underlying24 rfl rfl) ?_) | ((with_reducible refine gate_dst (N := 29) rfl ?_); refine Kd.event_run rfl (H.load1 24 (.tmp 28) rfl rfl (by repeat (first | exact Pick.here _ | apply Pick.there)) Try.underlying24 rfl rfl) ?_) | ((with_reducible refine gate_store (p := 2) rfl ?_); refine ev_ rfl (H.store 27 (.tmp 2) (.tmp 32) rfl rfl (by repeat (first | exact Pick.here _ | apply Pick.there)) (by first | (go_simp; done) | (go_simp; rfl)) _ rfl info27s (by simp [Value.oneCell', Value.cells]) (by simp [Value.cells]) rfl) ?_; rintro _ w1 ⟨rfl, H1⟩; (try simp only [putsAt, Value.cells, List.setIfInBounds_toArray, List.set_cons_zero, List.set_cons_succ, List.toList_toArray] at H1); replace H := H1; clear H1) | ((with_reducible refine gate_store (p := 2) rfl ?_); refine ev_ rfl (H.store 27 (.tmp 2) (.tmp 42) rfl rfl (by repeat (first | exact Pick.here _ | apply Pick.there)) (by first | (go_simp; done) | (go_simp; rfl)) _ rfl info27s (by simp [Value.oneCell', Value.cells]) (by simp [Value.cells]) rfl) ?_; rintro _ w1 ⟨rfl, H1⟩; (try simp only [putsAt, Value.cells, List.setIfInBounds_toArray, List.set_cons_zero, List.set_cons_succ, List.toList_toArray] at H1); replace H := H1; clear H1) | ((with_reducible refine gate_dst (N := 44) rfl ?_); refine Kd.event_run rfl (H.load1 24 (.tmp 43) rfl rfl (by repeat (first | exact Pick.here _ | apply Pick.there)) Try.underlying24 rfl rfl) ?_) | ((with_reducible refine gate_store (p := 2) rfl ?_); refine ev_ rfl (H.store 27 (.tmp 2) (.tmp 46) rfl rfl (by repeat (first | exact Pick.here _ | apply Pick.there)) (by first | (go_simp; done) | (go_simp; rfl)) _ rfl info27s (by simp [Value.oneCell', Value.cells]) (by simp [Value.cells]) rfl) ?_; rintro _ w1 ⟨rfl, H1⟩; (try simp only [putsAt, Value.cells, List.setIfInBounds_toArray, List.set_cons_zero, List.set_cons_succ, List.toList_toArray] at H1); replace H := H1; clear H1) | ((with_reducible refine gate_store (p := 2) rfl ?_); refine ev_ rfl (H.store 27 (.tmp 2) (.tmp 50) rfl rfl (by repeat (first | exact Pick.here _ | apply Pick.there)) (by first | (go_simp; done) | (go_simp; rfl)) _ rfl info27s (by simp [Value.oneCell', Value.cells]) (by simp [Value.cells]) rfl) ?_; rintro _ w1 ⟨rfl, H1⟩; (try simp only [putsAt, Value.cells, List.setIfInBounds_toArray, List.set_cons_zero, List.set_cons_succ, List.toList_toArray] at H1); replace H := H1; clear H1) | ((with_reducible refine gate_dst (N := 52) rfl ?_); refine Kd.event_run rfl (H.load1 25 (.tmp 51) rfl rfl (by repeat (first | exact Pick.here _ | apply Pick.there)) Try.underlying25 rfl rfl) ?_) | ((with_reducible refine gate_store (p := 55) rfl ?_); refine ev_ rfl (H.store 25 (.tmp 55) (.tmp 54) rfl rfl (by repeat (first | exact Pick.here _ | apply Pick.there)) (by first | (go_simp; done) | (go_simp; rfl)) _ rfl info25s (by simp [Value.oneCell', Value.cells]) (by simp [Value.cells]) rfl) ?_; rintro _ w1 ⟨rfl, H1⟩; (try simp only [putsAt, Value.cells, List.setIfInBounds_toArray, List.set_cons_zero, List.set_cons_succ, List.toList_toArray] at H1); replace H := H1; clear H1) | ((with_reducible refine gate_store (p := 2) rfl ?_); refine ev_ rfl (H.store 27 (.tmp 2) (.tmp 56) rfl rfl (by repeat (first | exact Pick.here _ | apply Pick.there)) (by first | (go_simp; done) | (go_simp; rfl)) _ rfl info27s (by simp [Value.oneCell', Value.cells]) (by simp [Value.cells]) rfl) ?_; rintro _ w1 ⟨rfl, H1⟩; (try simp only [putsAt, Value.cells, List.setIfInBounds_toArray, List.set_cons_zero, List.set_cons_succ, List.toList_toArray] at H1); replace H := H1; clear H1) | ((with_reducible refine gate_dst (N := 22) rfl ?_); refine Kd.event_run rfl (v := .slice (cutA A c 14) (bs.length - 14) (c - 14)) (w1 := _) (run_cut (t := 25) (e := 5) (j := 14) rfl rfl rfl Try.underlying25 info5s (by omega) _) ?_))
    refine bodyPost_ret (H.ret_ct (p := 2) (u := 3) rfl (.here _) rfl Try.underlying27 rfl info27s) rfl ⟨_, _, rfl, ⟨.slice none 0 0, rfl, rfl⟩, ?_⟩
    exact (H.only).nil_row _ _

set_option maxHeartbeats 1000000 in
set_option maxRecDepth 100000 in
theorem RefGet_long (w : World) (A : Option Addr) (n c : Nat) (bs : List Int) (hb : (Kd.int .u8).C w A n bs) (hc : n ≤ c) (hn : n ≤ 100000) (hby : ∀ y ∈ bs, 0 ≤ y ∧ y ≤ 255) (h14 : 14 ≤ bs.length) (t s : Int) (k : Nat) (hTe : numR ((bs.drop 0).take 6) = t) (hSe : numR ((bs.drop 6).take 6) = s) (hKe : numR ((bs.drop 12).take 2) = (k : Int)) (hk : 1536 ≤ k) (hl : 1500 < bs.length - 14) :
    Calls Try.prog 22 #[.slice A n c] w (Ret (fun _ => False) w (frAns (getF bs))) := by
  have H := Hp.nothing w
  obtain rfl : bs.length = n := hb.1
  replace hb := Aside0.mk hb
  replace hc := Aside0.mk hc
  have hn2 := Aside0.mk hn
  have hg : getF bs = (0, 0, 0, [], 4) := by
    unfold getF kindL
    rw [if_neg (by omega), hKe, hTe, hSe]
    rw [if_neg (by omega), if_neg (by omega), if_pos hl]
  rw [hg]
  have rK := numR_lt ((bs.drop 12).take 2) (bytes_part hby 12 2) 2 (by simp; omega) (by decide)
  rw [hKe] at rK
  have k1 : k < 65536 := by have := rK.2; simp at this; omega
  have kw : IntKind.u16.wrap (k : Int) = (k : Int) := by rw [IntKind.wrap_u16]; omega
  have kw2 : IntKind.i64.wrap (k : Int) = (k : Int) := by rw [IntKind.wrap_i64]; omega
  have kw3 : wrap64 (k : Int) = (k : Int) := by unfold wrap64; omega
  have C0 : (Kd.int .u8).C w A 6 (bs.take 6) := C_front hb.out 6 (by omega)
  have C6 : (Kd.int .u8).C w (cutA A c 6) 6 ((bs.drop 6).take 6) := C_front (C_cutS (h1 := fun _ => rfl) hb.out 6 (by omega) hc.out) 6 (by omega)
  have C12 : (Kd.int .u8).C w (cutA A c 12) 2 ((bs.drop 12).take 2) := C_front (C_cutS (h1 := fun _ => rfl) hb.out 12 (by omega) hc.out) 2 (by omega)
  have C14 : (Kd.int .u8).C w (cutA A c 14) (bs.length - 14) (bs.drop 14) := C_cutS (h1 := fun _ => rfl) hb.out 14 (by omega) hc.out
  rw [List.drop_zero] at hTe
  have hT := Aside0.mk hTe
  have hS := Aside0.mk hSe
  have hKK := Aside0.mk hKe
  replace C0 := Aside0.mk C0
  replace C6 := Aside0.mk C6
  replace C12 := Aside0.mk C12
  replace C14 := Aside0.mk C14
  have d14 : decide (bs.length < 14) = false := decide_eq_false (by omega)
  have d14I : decide ((bs.length : Int) < 14) = false := decide_eq_false (by omega)
  clear rK hTe hSe hKe hby hg
  have c1 : decide (k ≤ 1500) = false := decide_eq_false (by omega)
  have c1I : decide ((k : Int) ≤ 1500) = false := decide_eq_false (by omega)
  have c2 : decide (k < 1536) = false := decide_eq_false (by omega)
  have c2I : decide ((k : Int) < 1536) = false := decide_eq_false (by omega)
  have c6 : decide (1500 < bs.length - 14) = true := decide_eq_true (by omega)
  have c6I : decide ((1500 : Int) < ((bs.length - 14 : Nat) : Int)) = true := decide_eq_true (by omega)
  go_enter Try.func22, Try.ntmps22
  go_wp2_with (first | ((with_reducible refine gate_dst (N := 2) rfl ?_); refine ev_ rfl (H.new (cs := #[.int .u64 0, .int .u64 0, .int .u16 0, .slice none 0 0]) (t := 27) (by first | (go_simp; done) | (go_simp; rfl))) ?_; rintro _ w1 ⟨g2, rfl, H1⟩; replace H := H1; clear H1))
  refine startH H.only (n := 13) [12] #[false, false, false, false, false, false, false, false, false, false, false, false, false] (by kernel_rfl) rfl rfl (fun hHeld => ?_)
  have HD := H.drew
  refine pure_ (i := 0) (N := some 10) (v := ?_) (a' := ?_) #[true, false, false, false, false, false, false, false, false, false, false, false, false] rfl rfl (by kernel_rfl) (fun _ _ _ h => h) (Or.inl ⟨by rfl, ?_⟩) ?_ ?_
  rotate_left
  · intro w'
    go_simp
    with_reducible rfl
  rotate_left
  · simp only [Act.put, List.setIfInBounds_toArray, List.set_cons_zero, List.set_cons_succ, i64_w, i32_w]
    rfl
  refine pure_ (i := 1) (N := some 11) (v := .slice A 6 c) (a' := ?_) #[true, true, false, false, false, false, false, false, false, false, false, false, false] rfl rfl (by kernel_rfl) (fun _ _ _ h => h) (Or.inl ⟨by rfl, run_cut3 (t := 25) (e := 5) (j := 6) rfl rfl rfl Try.underlying25 info5s (by omega) hc.out⟩) ?_ ?_
  rotate_left
  · simp only [Act.put, List.setIfInBounds_toArray, List.set_cons_zero, List.set_cons_succ, i64_w, i32_w]
    rfl
  refine pure_ (i := 3) (N := some 13) (v := ?_) (a' := ?_) #[true, true, false, true, false, false, false, false, false, false, false, false, false] rfl rfl (by kernel_rfl) (fun _ _ _ h => h) (Or.inl ⟨by rfl, ?_⟩) ?_ ?_
  rotate_left
  · intro w'
    go_simp
    with_reducible rfl
  rotate_left
  · simp only [Act.put, List.setIfInBounds_toArray, List.set_cons_zero, List.set_cons_succ, i64_w, i32_w]
    rfl
  refine pure_ (i := 4) (N := some 14) (v := .slice (cutA A c 6) 6 (c - 6)) (a' := ?_) #[true, true, false, true, true, false, false, false, false, false, false, false, false] rfl rfl (by kernel_rfl) (fun _ _ _ h => h) (Or.inl ⟨by rfl, run_cut2 (t := 25) (e := 5) (i := 6) (j := 12) rfl rfl rfl rfl Try.underlying25 info5s (by omega) (by omega) hc.out⟩) ?_ ?_
  rotate_left
  · simp only [Act.put, List.setIfInBounds_toArray, List.set_cons_zero, List.set_cons_succ, i64_w, i32_w]
    rfl
  refine pure_ (i := 6) (N := some 16) (v := ?_) (a' := ?_) #[true, true, false, true, true, false, true, false, false, false, false, false, false] rfl rfl (by kernel_rfl) (fun _ _ _ h => h) (Or.inl ⟨by rfl, ?_⟩) ?_ ?_
  rotate_left
  · intro w'
    go_simp
    with_reducible rfl
  rotate_left
  · simp only [Act.put, List.setIfInBounds_toArray, List.set_cons_zero, List.set_cons_succ, i64_w, i32_w]
    rfl
  refine pure_ (i := 7) (N := some 17) (v := .slice (cutA A c 12) 2 (c - 12)) (a' := ?_) #[true, true, false, true, true, false, true, true, false, false, false, false, false] rfl rfl (by kernel_rfl) (fun _ _ _ h => h) (Or.inl ⟨by rfl, run_cut2 (t := 25) (e := 5) (i := 12) (j := 14) rfl rfl rfl rfl Try.underlying25 info5s (by omega) (by omega) hc.out⟩) ?_ ?_
  rotate_left
  · simp only [Act.put, List.setIfInBounds_toArray, List.set_cons_zero, List.set_cons_succ, i64_w, i32_w]
    rfl
  refine two_ (i := 2) (j := 11) (Ni := some 12) (Nj := some 4) #[true, true, true, true, true, false, true, true, false, false, false, false, false] #[true, true, false, true, true, false, true, true, false, false, false, true, false] rfl rfl rfl rfl (by kernel_rfl) (by decide) (by decide) (fun K hK => ?_) (fun K hK => ?_)
  · skip
    refine goes_ Try.func38 (by kernel_rfl) rfl #[.slice A 6 c] (by rfl) rfl rfl (by simp only [List.map_toArray, List.map_cons, List.map_nil]; rfl) ?_
    refine HD.call0 (RefNum_calls _ A 6 c (bs.take 6) (HD.data C0.out) (by omega)) ?_
    rintro v l1 w3 ⟨hv, rfl⟩ H3
    rw [hT.out] at hv
    subst hv
    replace HD := H3
    clear H3
    refine ⟨_, rfl, ?_⟩
    refine hK.out _ _ (HD.only) (fun hHeld => ?_)
    clear hK K
    refine norm_ (a' := ?_) ?_ ?_
    rotate_left
    · show Act.put _ (some 12) _ = _
      simp only [Act.put, List.setIfInBounds_toArray, List.set_cons_zero, List.set_cons_succ, i64_w, i32_w]
      rfl
    refine two_ (i := 5) (j := 11) (Ni := some 15) (Nj := some 4) #[true, true, true, true, true, true, true, true, false, false, false, false, false] #[true, true, true, true, true, false, true, true, false, false, false, true, false] rfl rfl rfl rfl (by kernel_rfl) (by decide) (by decide) (fun K hK => ?_) (fun K hK => ?_)
    · skip
      refine goes_ Try.func38 (by kernel_rfl) rfl #[.slice (cutA A c 6) 6 (c - 6)] (by rfl) rfl rfl (by simp only [List.map_toArray, List.map_cons, List.map_nil]; rfl) ?_
      refine HD.call0 (RefNum_calls _ (cutA A c 6) 6 (c - 6) ((bs.drop 6).take 6) (HD.data C6.out) (by omega)) ?_
      rintro v l1 w3 ⟨hv, rfl⟩ H3
      rw [hS.out] at hv
      subst hv
      replace HD := H3
      clear H3
      refine ⟨_, rfl, ?_⟩
      refine hK.out _ _ (HD.only) (fun hHeld => ?_)
      clear hK K
      refine norm_ (a' := ?_) ?_ ?_
      rotate_left
      · show Act.put _ (some 15) _ = _
        simp only [Act.put, List.setIfInBounds_toArray, List.set_cons_zero, List.set_cons_succ, i64_w, i32_w]
        rfl
      refine two_ (i := 8) (j := 11) (Ni := some 18) (Nj := some 4) #[true, true, true, true, true, true, true, true, true, false, false, false, false] #[true, true, true, true, true, true, true, true, false, false, false, true, false] rfl rfl rfl rfl (by kernel_rfl) (by decide) (by decide) (fun K hK => ?_) (fun K hK => ?_)
      · skip
        refine goes_ Try.func38 (by kernel_rfl) rfl #[.slice (cutA A c 12) 2 (c - 12)] (by rfl) rfl rfl (by simp only [List.map_toArray, List.map_cons, List.map_nil]; rfl) ?_
        refine HD.call0 (RefNum_calls _ (cutA A c 12) 2 (c - 12) ((bs.drop 12).take 2) (HD.data C12.out) (by omega)) ?_
        rintro v l1 w3 ⟨hv, rfl⟩ H3
        rw [hKK.out] at hv
        subst hv
        replace HD := H3
        clear H3
        refine ⟨_, rfl, ?_⟩
        refine hK.out _ _ (HD.only) (fun hHeld => ?_)
        clear hK K
        refine norm_ (a' := ?_) ?_ ?_
        rotate_left
        · show Act.put _ (some 18) _ = _
          simp only [Act.put, List.setIfInBounds_toArray, List.set_cons_zero, List.set_cons_succ, i64_w, i32_w]
          rfl
        refine pure_ (i := 9) (N := some 19) (v := ?_) (a' := ?_) #[true, true, true, true, true, true, true, true, true, true, false, false, false] rfl rfl (by kernel_rfl) (fun _ _ _ h => h) (Or.inl ⟨by rfl, ?_⟩) ?_ ?_
        rotate_left
        · intro w'
          go_simp
          with_reducible rfl
        rotate_left
        · simp only [Act.put, List.setIfInBounds_toArray, List.set_cons_zero, List.set_cons_succ, i64_w, i32_w]
          rfl
        refine pure_ (i := 10) (N := some 20) (v := ?_) (a' := ?_) #[true, true, true, true, true, true, true, true, true, true, true, false, false] rfl rfl (by kernel_rfl) (fun _ _ _ h => h) (Or.inl ⟨by rfl, ?_⟩) ?_ ?_
        rotate_left
        · intro w'
          go_simp
          with_reducible rfl
        rotate_left
        · simp only [Act.put, List.setIfInBounds_toArray, List.set_cons_zero, List.set_cons_succ, i64_w, i32_w]
          rfl
        refine one_ (i := 11) (N := some 4) #[true, true, true, true, true, true, true, true, true, true, true, true, false] rfl rfl (by kernel_rfl) (by decide) (fun K hK => ?_)
        refine step_ (by rfl) rfl (HD.new (cs := #[.int .u64 0, .int .u64 0, .int .u16 0, .slice none 0 0]) (t := 27) (by first | (go_simp; done) | (go_simp; rfl))) ?_
        rintro _ w4 ⟨g4, rfl, H4⟩
        replace HD := H4
        clear H4
        refine hK.out _ _ (HD.only) (fun hHeld => ?_)
        clear hK K
        refine norm_ (a' := ?_) ?_ ?_
        rotate_left
        · show Act.put _ (some 4) _ = _
          simp only [Act.put, List.setIfInBounds_toArray, List.set_cons_zero, List.set_cons_succ, i64_w, i32_w]
          rfl
        refine last_ (i := 12) (N := none) #[true, true, true, true, true, true, true, true, true, true, true, true, true] rfl rfl (by kernel_rfl) (by decide) (fun K hK => ?_)
        refine step_ (by rfl) rfl (HD.store 27 (.tmp 4) (.tmp 20) rfl rfl (by repeat (first | exact Pick.here _ | apply Pick.there)) (by first | (go_simp; done) | (go_simp; rfl)) _ rfl info27s (by simp [Value.oneCell', Value.cells]) (by simp [Value.cells]) rfl) ?_
        rintro _ w5 ⟨rfl, H5⟩
        simp only [putsAt, Value.cells, List.setIfInBounds_toArray, List.set_cons_zero, List.set_cons_succ, List.toList_toArray] at H5
        replace HD := H5
        clear H5
        refine hK.out _ _ ?_
        clear hK K
        refine done_ (by kernel_rfl) ?_
        replace H := HD
        clear HD hHeld
        go_wp2_with (first | ((with_reducible refine gate_dst (N := 2) rfl ?_); refine ev_ rfl (H.new (cs := #[.int .u64 0, .int .u64 0, .int .u16 0, .slice none 0 0]) (t := 27) (by first | (go_simp; done) | (go_simp; rfl))) ?_; rintro _ w1 ⟨g2, rfl, H1⟩; replace H := H1; clear H1) | ((with_reducible refine gate_store (p := 2) rfl ?_); refine ev_ rfl (H.store 27 (.tmp 2) (.tmp 9) rfl rfl (by repeat (first | exact Pick.here _ | apply Pick.there)) (by first | (go_simp; done) | (go_simp; rfl)) _ rfl info27s (by simp [Value.oneCell', Value.cells]) (by simp [Value.cells]) rfl) ?_; rintro _ w1 ⟨rfl, H1⟩; (try simp only [putsAt, Value.cells, List.setIfInBounds_toArray, List.set_cons_zero, List.set_cons_succ, List.toList_toArray] at H1); replace H := H1; clear H1) | ((with_reducible refine gate_dst (N := 24) rfl ?_); refine Kd.event_run rfl (H.load1 24 (.tmp 23) rfl rfl (by repeat (first | exact Pick.here _ | apply Pick.there)) Try.underlying24 rfl rfl) ?_) | ((with_reducible refine gate_dst (N := 29) rfl ?_); refine Kd.event_run rfl (H.load1 24 (.tmp 28) rfl rfl (by repeat (first | exact Pick.here _ | apply Pick.there)) Try.underlying24 rfl rfl) ?_) | ((with_reducible refine gate_store (p := 2) rfl ?_); refine ev_ rfl (H.store 27 (.tmp 2) (.tmp 32) rfl rfl (by repeat (first | exact Pick.here _ | apply Pick.there)) (by first | (go_simp; done) | (go_simp; rfl)) _ rfl info27s (by simp [Value.oneCell', Value.cells]) (by simp [Value.cells]) rfl) ?_; rintro _ w1 ⟨rfl, H1⟩; (try simp only [putsAt, Value.cells, List.setIfInBounds_toArray, List.set_cons_zero, List.set_cons_succ, List.toList_toArray] at H1); replace H := H1; clear H1) | ((with_reducible refine gate_store (p := 2) rfl ?_); refine ev_ rfl (H.store 27 (.tmp 2) (.tmp 42) rfl rfl (by repeat (first | exact Pick.here _ | apply Pick.there)) (by first | (go_simp; done) | (go_simp; rfl)) _ rfl info27s (by simp [Value.oneCell', Value.cells]) (by simp [Value.cells]) rfl) ?_; rintro _ w1 ⟨rfl, H1⟩; (try simp only [putsAt, Value.cells, List.setIfInBounds_toArray, List.set_cons_zero, List.set_cons_succ, List.toList_toArray] at H1); replace H := H1; clear H1) | ((with_reducible refine gate_dst (N := 44) rfl ?_); refine Kd.event_run rfl (H.load1 24 (.tmp 43) rfl rfl (by repeat (first | exact Pick.here _ | apply Pick.there)) Try.underlying24 rfl rfl) ?_) | ((with_reducible refine gate_store (p := 2) rfl ?_); refine ev_ rfl (H.store 27 (.tmp 2) (.tmp 46) rfl rfl (by repeat (first | exact Pick.here _ | apply Pick.there)) (by first | (go_simp; done) | (go_simp; rfl)) _ rfl info27s (by simp [Value.oneCell', Value.cells]) (by simp [Value.cells]) rfl) ?_; rintro _ w1 ⟨rfl, H1⟩; (try simp only [putsAt, Value.cells, List.setIfInBounds_toArray, List.set_cons_zero, List.set_cons_succ, List.toList_toArray] at H1); replace H := H1; clear H1) | ((with_reducible refine gate_store (p := 2) rfl ?_); refine ev_ rfl (H.store 27 (.tmp 2) (.tmp 50) rfl rfl (by repeat (first | exact Pick.here _ | apply Pick.there)) (by first | (go_simp; done) | (go_simp; rfl)) _ rfl info27s (by simp [Value.oneCell', Value.cells]) (by simp [Value.cells]) rfl) ?_; rintro _ w1 ⟨rfl, H1⟩; (try simp only [putsAt, Value.cells, List.setIfInBounds_toArray, List.set_cons_zero, List.set_cons_succ, List.toList_toArray] at H1); replace H := H1; clear H1) | ((with_reducible refine gate_dst (N := 52) rfl ?_); refine Kd.event_run rfl (H.load1 25 (.tmp 51) rfl rfl (by repeat (first | exact Pick.here _ | apply Pick.there)) Try.underlying25 rfl rfl) ?_) | ((with_reducible refine gate_store (p := 55) rfl ?_); refine ev_ rfl (H.store 25 (.tmp 55) (.tmp 54) rfl rfl (by repeat (first | exact Pick.here _ | apply Pick.there)) (by first | (go_simp; done) | (go_simp; rfl)) _ rfl info25s (by simp [Value.oneCell', Value.cells]) (by simp [Value.cells]) rfl) ?_; rintro _ w1 ⟨rfl, H1⟩; (try simp only [putsAt, Value.cells, List.setIfInBounds_toArray, List.set_cons_zero, List.set_cons_succ, List.toList_toArray] at H1); replace H := H1; clear H1) | ((with_reducible refine gate_store (p := 2) rfl ?_); refine ev_ rfl (H.store 27 (.tmp 2) (.tmp 56) rfl rfl (by repeat (first | exact Pick.here _ | apply Pick.there)) (by first | (go_simp; done) | (go_simp; rfl)) _ rfl info27s (by simp [Value.oneCell', Value.cells]) (by simp [Value.cells]) rfl) ?_; rintro _ w1 ⟨rfl, H1⟩; (try simp only [putsAt, Value.cells, List.setIfInBounds_toArray, List.set_cons_zero, List.set_cons_succ, List.toList_toArray] at H1); replace H := H1; clear H1) | ((with_reducible refine gate_dst (N := 22) rfl ?_); refine Kd.event_run rfl (v := .slice (cutA A c 14) (bs.length - 14) (c - 14)) (w1 := _) (run_cut (t := 25) (e := 5) (j := 14) rfl rfl rfl Try.underlying25 info5s (by omega) _) ?_))
        refine bodyPost_ret (H.ret_ct (p := 2) (u := 3) rfl (.here _) rfl Try.underlying27 rfl info27s) rfl ⟨_, _, rfl, ⟨.slice none 0 0, rfl, rfl⟩, ?_⟩
        exact (H.only).nil_row _ _
      · skip
        refine step_ (by rfl) rfl (HD.new (cs := #[.int .u64 0, .int .u64 0, .int .u16 0, .slice none 0 0]) (t := 27) (by first | (go_simp; done) | (go_simp; rfl))) ?_
        rintro _ w4 ⟨g4, rfl, H4⟩
        replace HD := H4
        clear H4
        refine hK.out _ _ (HD.only) (fun hHeld => ?_)
        clear hK K
        refine norm_ (a' := ?_) ?_ ?_
        rotate_left
        · show Act.put _ (some 4) _ = _
          simp only [Act.put, List.setIfInBounds_toArray, List.set_cons_zero, List.set_cons_succ, i64_w, i32_w]
          rfl
        refine one_ (i := 8) (N := some 18) #[true, true, true, true, true, true, true, true, true, false, false, true, false] rfl rfl (by kernel_rfl) (by decide) (fun K hK => ?_)
        refine goes_ Try.func38 (by kernel_rfl) rfl #[.slice (cutA A c 12) 2 (c - 12)] (by rfl) rfl rfl (by simp only [List.map_toArray, List.map_cons, List.map_nil]; rfl) ?_
        refine HD.call0 (RefNum_calls _ (cutA A c 12) 2 (c - 12) ((bs.drop 12).take 2) (HD.data C12.out) (by omega)) ?_
        rintro v l1 w3 ⟨hv, rfl⟩ H3
        rw [hKK.out] at hv
        subst hv
        replace HD := H3
        clear H3
        refine ⟨_, rfl, ?_⟩
        refine hK.out _ _ (HD.only) (fun hHeld => ?_)
        clear hK K
        refine norm_ (a' := ?_) ?_ ?_
        rotate_left
        · show Act.put _ (some 18) _ = _
          simp only [Act.put, List.setIfInBounds_toArray, List.set_cons_zero, List.set_cons_succ, i64_w, i32_w]
          rfl
        refine pure_ (i := 9) (N := some 19) (v := ?_) (a' := ?_) #[true, true, true, true, true, true, true, true, true, true, false, true, false] rfl rfl (by kernel_rfl) (fun _ _ _ h => h) (Or.inl ⟨by rfl, ?_⟩) ?_ ?_
        rotate_left
        · intro w'
          go_simp
          with_reducible rfl
        rotate_left
        · simp only [Act.put, List.setIfInBounds_toArray, List.set_cons_zero, List.set_cons_succ, i64_w, i32_w]
          rfl
        refine pure_ (i := 10) (N := some 20) (v := ?_) (a' := ?_) #[true, true, true, true, true, true, true, true, true, true, true, true, false] rfl rfl (by kernel_rfl) (fun _ _ _ h => h) (Or.inl ⟨by rfl, ?_⟩) ?_ ?_
        rotate_left
        · intro w'
          go_simp
          with_reducible rfl
        rotate_left
        · simp only [Act.put, List.setIfInBounds_toArray, List.set_cons_zero, List.set_cons_succ, i64_w, i32_w]
          rfl
        refine last_ (i := 12) (N := none) #[true, true, true, true, true, true, true, true, true, true, true, true, true] rfl rfl (by kernel_rfl) (by decide) (fun K hK => ?_)
        refine step_ (by rfl) rfl (HD.store 27 (.tmp 4) (.tmp 20) rfl rfl (by repeat (first | exact Pick.here _ | apply Pick.there)) (by first | (go_simp; done) | (go_simp; rfl)) _ rfl info27s (by simp [Value.oneCell', Value.cells]) (by simp [Value.cells]) rfl) ?_
        rintro _ w5 ⟨rfl, H5⟩
        simp only [putsAt, Value.cells, List.setIfInBounds_toArray, List.set_cons_zero, List.set_cons_succ, List.toList_toArray] at H5
        replace HD := H5
        clear H5
        refine hK.out _ _ ?_
        clear hK K
        refine done_ (by kernel_rfl) ?_
        replace H := HD
        clear HD hHeld
        go_wp2_with (first | ((with_reducible refine gate_dst (N := 2) rfl ?_); refine ev_ rfl (H.new (cs := #[.int .u64 0, .int .u64 0, .int .u16 0, .slice none 0 0]) (t := 27) (by first | (go_simp; done) | (go_simp; rfl))) ?_; rintro _ w1 ⟨g2, rfl, H1⟩; replace H := H1; clear H1) | ((with_reducible refine gate_store (p := 2) rfl ?_); refine ev_ rfl (H.store 27 (.tmp 2) (.tmp 9) rfl rfl (by repeat (first | exact Pick.here _ | apply Pick.there)) (by first | (go_simp; done) | (go_simp; rfl)) _ rfl info27s (by simp [Value.oneCell', Value.cells]) (by simp [Value.cells]) rfl) ?_; rintro _ w1 ⟨rfl, H1⟩; (try simp only [putsAt, Value.cells, List.setIfInBounds_toArray, List.set_cons_zero, List.set_cons_succ, List.toList_toArray] at H1); replace H := H1; clear H1) | ((with_reducible refine gate_dst (N := 24) rfl ?_); refine Kd.event_run rfl (H.load1 24 (.tmp 23) rfl rfl (by repeat (first | exact Pick.here _ | apply Pick.there)) Try.underlying24 rfl rfl) ?_) | ((with_reducible refine gate_dst (N := 29) rfl ?_); refine Kd.event_run rfl (H.load1 24 (.tmp 28) rfl rfl (by repeat (first | exact Pick.here _ | apply Pick.there)) Try.underlying24 rfl rfl) ?_) | ((with_reducible refine gate_store (p := 2) rfl ?_); refine ev_ rfl (H.store 27 (.tmp 2) (.tmp 32) rfl rfl (by repeat (first | exact Pick.here _ | apply Pick.there)) (by first | (go_simp; done) | (go_simp; rfl)) _ rfl info27s (by simp [Value.oneCell', Value.cells]) (by simp [Value.cells]) rfl) ?_; rintro _ w1 ⟨rfl, H1⟩; (try simp only [putsAt, Value.cells, List.setIfInBounds_toArray, List.set_cons_zero, List.set_cons_succ, List.toList_toArray] at H1); replace H := H1; clear H1) | ((with_reducible refine gate_store (p := 2) rfl ?_); refine ev_ rfl (H.store 27 (.tmp 2) (.tmp 42) rfl rfl (by repeat (first | exact Pick.here _ | apply Pick.there)) (by first | (go_simp; done) | (go_simp; rfl)) _ rfl info27s (by simp [Value.oneCell', Value.cells]) (by simp [Value.cells]) rfl) ?_; rintro _ w1 ⟨rfl, H1⟩; (try simp only [putsAt, Value.cells, List.setIfInBounds_toArray, List.set_cons_zero, List.set_cons_succ, List.toList_toArray] at H1); replace H := H1; clear H1) | ((with_reducible refine gate_dst (N := 44) rfl ?_); refine Kd.event_run rfl (H.load1 24 (.tmp 43) rfl rfl (by repeat (first | exact Pick.here _ | apply Pick.there)) Try.underlying24 rfl rfl) ?_) | ((with_reducible refine gate_store (p := 2) rfl ?_); refine ev_ rfl (H.store 27 (.tmp 2) (.tmp 46) rfl rfl (by repeat (first | exact Pick.here _ | apply Pick.there)) (by first | (go_simp; done) | (go_simp; rfl)) _ rfl info27s (by simp [Value.oneCell', Value.cells]) (by simp [Value.cells]) rfl) ?_; rintro _ w1 ⟨rfl, H1⟩; (try simp only [putsAt, Value.cells, List.setIfInBounds_toArray, List.set_cons_zero, List.set_cons_succ, List.toList_toArray] at H1); replace H := H1; clear H1) | ((with_reducible refine gate_store (p := 2) rfl ?_); refine ev_ rfl (H.store 27 (.tmp 2) (.tmp 50) rfl rfl (by repeat (first | exact Pick.here _ | apply Pick.there)) (by first | (go_simp; done) | (go_simp; rfl)) _ rfl info27s (by simp [Value.oneCell', Value.cells]) (by simp [Value.cells]) rfl) ?_; rintro _ w1 ⟨rfl, H1⟩; (try simp only [putsAt, Value.cells, List.setIfInBounds_toArray, List.set_cons_zero, List.set_cons_succ, List.toList_toArray] at H1); replace H := H1; clear H1) | ((with_reducible refine gate_dst (N := 52) rfl ?_); refine Kd.event_run rfl (H.load1 25 (.tmp 51) rfl rfl (by repeat (first | exact Pick.here _ | apply Pick.there)) Try.underlying25 rfl rfl) ?_) | ((with_reducible refine gate_store (p := 55) rfl ?_); refine ev_ rfl (H.store 25 (.tmp 55) (.tmp 54) rfl rfl (by repeat (first | exact Pick.here _ | apply Pick.there)) (by first | (go_simp; done) | (go_simp; rfl)) _ rfl info25s (by simp [Value.oneCell', Value.cells]) (by simp [Value.cells]) rfl) ?_; rintro _ w1 ⟨rfl, H1⟩; (try simp only [putsAt, Value.cells, List.setIfInBounds_toArray, List.set_cons_zero, List.set_cons_succ, List.toList_toArray] at H1); replace H := H1; clear H1) | ((with_reducible refine gate_store (p := 2) rfl ?_); refine ev_ rfl (H.store 27 (.tmp 2) (.tmp 56) rfl rfl (by repeat (first | exact Pick.here _ | apply Pick.there)) (by first | (go_simp; done) | (go_simp; rfl)) _ rfl info27s (by simp [Value.oneCell', Value.cells]) (by simp [Value.cells]) rfl) ?_; rintro _ w1 ⟨rfl, H1⟩; (try simp only [putsAt, Value.cells, List.setIfInBounds_toArray, List.set_cons_zero, List.set_cons_succ, List.toList_toArray] at H1); replace H := H1; clear H1) | ((with_reducible refine gate_dst (N := 22) rfl ?_); refine Kd.event_run rfl (v := .slice (cutA A c 14) (bs.length - 14) (c - 14)) (w1 := _) (run_cut (t := 25) (e := 5) (j := 14) rfl rfl rfl Try.underlying25 info5s (by omega) _) ?_))
        refine bodyPost_ret (H.ret_ct (p := 2) (u := 3) rfl (.here _) rfl Try.underlying27 rfl info27s) rfl ⟨_, _, rfl, ⟨.slice none 0 0, rfl, rfl⟩, ?_⟩
        exact (H.only).nil_row _ _
    · skip
      refine step_ (by rfl) rfl (HD.new (cs := #[.int .u64 0, .int .u64 0, .int .u16 0, .slice none 0 0]) (t := 27) (by first | (go_simp; done) | (go_simp; rfl))) ?_
      rintro _ w4 ⟨g4, rfl, H4⟩
      replace HD := H4
      clear H4
      refine hK.out _ _ (HD.only) (fun hHeld => ?_)
      clear hK K
      refine norm_ (a' := ?_) ?_ ?_
      rotate_left
      · show Act.put _ (some 4) _ = _
        simp only [Act.put, List.setIfInBounds_toArray, List.set_cons_zero, List.set_cons_succ, i64_w, i32_w]
        rfl
      refine one_ (i := 5) (N := some 15) #[true, true, true, true, true, true, true, true, false, false, false, true, false] rfl rfl (by kernel_rfl) (by decide) (fun K hK => ?_)
      refine goes_ Try.func38 (by kernel_rfl) rfl #[.slice (cutA A c 6) 6 (c - 6)] (by rfl) rfl rfl (by simp only [List.map_toArray, List.map_cons, List.map_nil]; rfl) ?_
      refine HD.call0 (RefNum_calls _ (cutA A c 6) 6 (c - 6) ((bs.drop 6).take 6) (HD.data C6.out) (by omega)) ?_
      rintro v l1 w3 ⟨hv, rfl⟩ H3
      rw [hS.out] at hv
      subst hv
      replace HD := H3
      clear H3
      refine ⟨_, rfl, ?_⟩
      refine hK.out _ _ (HD.only) (fun hHeld => ?_)
      clear hK K
      refine norm_ (a' := ?_) ?_ ?_
      rotate_left
      · show Act.put _ (some 15) _ = _
        simp only [Act.put, List.setIfInBounds_toArray, List.set_cons_zero, List.set_cons_succ, i64_w, i32_w]
        rfl
      refine one_ (i := 8) (N := some 18) #[true, true, true, true, true, true, true, true, true, false, false, true, false] rfl rfl (by kernel_rfl) (by decide) (fun K hK => ?_)
      refine goes_ Try.func38 (by kernel_rfl) rfl #[.slice (cutA A c 12) 2 (c - 12)] (by rfl) rfl rfl (by simp only [List.map_toArray, List.map_cons, List.map_nil]; rfl) ?_
      refine HD.call0 (RefNum_calls _ (cutA A c 12) 2 (c - 12) ((bs.drop 12).take 2) (HD.data C12.out) (by omega)) ?_
      rintro v l1 w3 ⟨hv, rfl⟩ H3
      rw [hKK.out] at hv
      subst hv
      replace HD := H3
      clear H3
      refine ⟨_, rfl, ?_⟩
      refine hK.out _ _ (HD.only) (fun hHeld => ?_)
      clear hK K
      refine norm_ (a' := ?_) ?_ ?_
      rotate_left
      · show Act.put _ (some 18) _ = _
        simp only [Act.put, List.setIfInBounds_toArray, List.set_cons_zero, List.set_cons_succ, i64_w, i32_w]
        rfl
      refine pure_ (i := 9) (N := some 19) (v := ?_) (a' := ?_) #[true, true, true, true, true, true, true, true, true, true, false, true, false] rfl rfl (by kernel_rfl) (fun _ _ _ h => h) (Or.inl ⟨by rfl, ?_⟩) ?_ ?_
      rotate_left
      · intro w'
        go_simp
        with_reducible rfl
      rotate_left
      · simp only [Act.put, List.setIfInBounds_toArray, List.set_cons_zero, List.set_cons_succ, i64_w, i32_w]
        rfl
      refine pure_ (i := 10) (N := some 20) (v := ?_) (a' := ?_) #[true, true, true, true, true, true, true, true, true, true, true, true, false] rfl rfl (by kernel_rfl) (fun _ _ _ h => h) (Or.inl ⟨by rfl, ?_⟩) ?_ ?_
      rotate_left
      · intro w'
        go_simp
        with_reducible rfl
      rotate_left
      · simp only [Act.put, List.setIfInBounds_toArray, List.set_cons_zero, List.set_cons_succ, i64_w, i32_w]
        rfl
      refine last_ (i := 12) (N := none) #[true, true, true, true, true, true, true, true, true, true, true, true, true] rfl rfl (by kernel_rfl) (by decide) (fun K hK => ?_)
      refine step_ (by rfl) rfl (HD.store 27 (.tmp 4) (.tmp 20) rfl rfl (by repeat (first | exact Pick.here _ | apply Pick.there)) (by first | (go_simp; done) | (go_simp; rfl)) _ rfl info27s (by simp [Value.oneCell', Value.cells]) (by simp [Value.cells]) rfl) ?_
      rintro _ w5 ⟨rfl, H5⟩
      simp only [putsAt, Value.cells, List.setIfInBounds_toArray, List.set_cons_zero, List.set_cons_succ, List.toList_toArray] at H5
      replace HD := H5
      clear H5
      refine hK.out _ _ ?_
      clear hK K
      refine done_ (by kernel_rfl) ?_
      replace H := HD
      clear HD hHeld
      go_wp2_with (first | ((with_reducible refine gate_dst (N := 2) rfl ?_); refine ev_ rfl (H.new (cs := #[.int .u64 0, .int .u64 0, .int .u16 0, .slice none 0 0]) (t := 27) (by first | (go_simp; done) | (go_simp; rfl))) ?_; rintro _ w1 ⟨g2, rfl, H1⟩; replace H := H1; clear H1) | ((with_reducible refine gate_store (p := 2) rfl ?_); refine ev_ rfl (H.store 27 (.tmp 2) (.tmp 9) rfl rfl (by repeat (first | exact Pick.here _ | apply Pick.there)) (by first | (go_simp; done) | (go_simp; rfl)) _ rfl info27s (by simp [Value.oneCell', Value.cells]) (by simp [Value.cells]) rfl) ?_; rintro _ w1 ⟨rfl, H1⟩; (try simp only [putsAt, Value.cells, List.setIfInBounds_toArray, List.set_cons_zero, List.set_cons_succ, List.toList_toArray] at H1); replace H := H1; clear H1) | ((with_reducible refine gate_dst (N := 24) rfl ?_); refine Kd.event_run rfl (H.load1 24 (.tmp 23) rfl rfl (by repeat (first | exact Pick.here _ | apply Pick.there)) Try.underlying24 rfl rfl) ?_) | ((with_reducible refine gate_dst (N := 29) rfl ?_); refine Kd.event_run rfl (H.load1 24 (.tmp 28) rfl rfl (by repeat (first | exact Pick.here _ | apply Pick.there)) Try.underlying24 rfl rfl) ?_) | ((with_reducible refine gate_store (p := 2) rfl ?_); refine ev_ rfl (H.store 27 (.tmp 2) (.tmp 32) rfl rfl (by repeat (first | exact Pick.here _ | apply Pick.there)) (by first | (go_simp; done) | (go_simp; rfl)) _ rfl info27s (by simp [Value.oneCell', Value.cells]) (by simp [Value.cells]) rfl) ?_; rintro _ w1 ⟨rfl, H1⟩; (try simp only [putsAt, Value.cells, List.setIfInBounds_toArray, List.set_cons_zero, List.set_cons_succ, List.toList_toArray] at H1); replace H := H1; clear H1) | ((with_reducible refine gate_store (p := 2) rfl ?_); refine ev_ rfl (H.store 27 (.tmp 2) (.tmp 42) rfl rfl (by repeat (first | exact Pick.here _ | apply Pick.there)) (by first | (go_simp; done) | (go_simp; rfl)) _ rfl info27s (by simp [Value.oneCell', Value.cells]) (by simp [Value.cells]) rfl) ?_; rintro _ w1 ⟨rfl, H1⟩; (try simp only [putsAt, Value.cells, List.setIfInBounds_toArray, List.set_cons_zero, List.set_cons_succ, List.toList_toArray] at H1); replace H := H1; clear H1) | ((with_reducible refine gate_dst (N := 44) rfl ?_); refine Kd.event_run rfl (H.load1 24 (.tmp 43) rfl rfl (by repeat (first | exact Pick.here _ | apply Pick.there)) Try.underlying24 rfl rfl) ?_) | ((with_reducible refine gate_store (p := 2) rfl ?_); refine ev_ rfl (H.store 27 (.tmp 2) (.tmp 46) rfl rfl (by repeat (first | exact Pick.here _ | apply Pick.there)) (by first | (go_simp; done) | (go_simp; rfl)) _ rfl info27s (by simp [Value.oneCell', Value.cells]) (by simp [Value.cells]) rfl) ?_; rintro _ w1 ⟨rfl, H1⟩; (try simp only [putsAt, Value.cells, List.setIfInBounds_toArray, List.set_cons_zero, List.set_cons_succ, List.toList_toArray] at H1); replace H := H1; clear H1) | ((with_reducible refine gate_store (p := 2) rfl ?_); refine ev_ rfl (H.store 27 (.tmp 2) (.tmp 50) rfl rfl (by repeat (first | exact Pick.here _ | apply Pick.there)) (by first | (go_simp; done) | (go_simp; rfl)) _ rfl info27s (by simp [Value.oneCell', Value.cells]) (by simp [Value.cells]) rfl) ?_; rintro _ w1 ⟨rfl, H1⟩; (try simp only [putsAt, Value.cells, List.setIfInBounds_toArray, List.set_cons_zero, List.set_cons_succ, List.toList_toArray] at H1); replace H := H1; clear H1) | ((with_reducible refine gate_dst (N := 52) rfl ?_); refine Kd.event_run rfl (H.load1 25 (.tmp 51) rfl rfl (by repeat (first | exact Pick.here _ | apply Pick.there)) Try.underlying25 rfl rfl) ?_) | ((with_reducible refine gate_store (p := 55) rfl ?_); refine ev_ rfl (H.store 25 (.tmp 55) (.tmp 54) rfl rfl (by repeat (first | exact Pick.here _ | apply Pick.there)) (by first | (go_simp; done) | (go_simp; rfl)) _ rfl info25s (by simp [Value.oneCell', Value.cells]) (by simp [Value.cells]) rfl) ?_; rintro _ w1 ⟨rfl, H1⟩; (try simp only [putsAt, Value.cells, List.setIfInBounds_toArray, List.set_cons_zero, List.set_cons_succ, List.toList_toArray] at H1); replace H := H1; clear H1) | ((with_reducible refine gate_store (p := 2) rfl ?_); refine ev_ rfl (H.store 27 (.tmp 2) (.tmp 56) rfl rfl (by repeat (first | exact Pick.here _ | apply Pick.there)) (by first | (go_simp; done) | (go_simp; rfl)) _ rfl info27s (by simp [Value.oneCell', Value.cells]) (by simp [Value.cells]) rfl) ?_; rintro _ w1 ⟨rfl, H1⟩; (try simp only [putsAt, Value.cells, List.setIfInBounds_toArray, List.set_cons_zero, List.set_cons_succ, List.toList_toArray] at H1); replace H := H1; clear H1) | ((with_reducible refine gate_dst (N := 22) rfl ?_); refine Kd.event_run rfl (v := .slice (cutA A c 14) (bs.length - 14) (c - 14)) (w1 := _) (run_cut (t := 25) (e := 5) (j := 14) rfl rfl rfl Try.underlying25 info5s (by omega) _) ?_))
      refine bodyPost_ret (H.ret_ct (p := 2) (u := 3) rfl (.here _) rfl Try.underlying27 rfl info27s) rfl ⟨_, _, rfl, ⟨.slice none 0 0, rfl, rfl⟩, ?_⟩
      exact (H.only).nil_row _ _
  · skip
    refine step_ (by rfl) rfl (HD.new (cs := #[.int .u64 0, .int .u64 0, .int .u16 0, .slice none 0 0]) (t := 27) (by first | (go_simp; done) | (go_simp; rfl))) ?_
    rintro _ w4 ⟨g4, rfl, H4⟩
    replace HD := H4
    clear H4
    refine hK.out _ _ (HD.only) (fun hHeld => ?_)
    clear hK K
    refine norm_ (a' := ?_) ?_ ?_
    rotate_left
    · show Act.put _ (some 4) _ = _
      simp only [Act.put, List.setIfInBounds_toArray, List.set_cons_zero, List.set_cons_succ, i64_w, i32_w]
      rfl
    refine one_ (i := 2) (N := some 12) #[true, true, true, true, true, false, true, true, false, false, false, true, false] rfl rfl (by kernel_rfl) (by decide) (fun K hK => ?_)
    refine goes_ Try.func38 (by kernel_rfl) rfl #[.slice A 6 c] (by rfl) rfl rfl (by simp only [List.map_toArray, List.map_cons, List.map_nil]; rfl) ?_
    refine HD.call0 (RefNum_calls _ A 6 c (bs.take 6) (HD.data C0.out) (by omega)) ?_
    rintro v l1 w3 ⟨hv, rfl⟩ H3
    rw [hT.out] at hv
    subst hv
    replace HD := H3
    clear H3
    refine ⟨_, rfl, ?_⟩
    refine hK.out _ _ (HD.only) (fun hHeld => ?_)
    clear hK K
    refine norm_ (a' := ?_) ?_ ?_
    rotate_left
    · show Act.put _ (some 12) _ = _
      simp only [Act.put, List.setIfInBounds_toArray, List.set_cons_zero, List.set_cons_succ, i64_w, i32_w]
      rfl
    refine one_ (i := 5) (N := some 15) #[true, true, true, true, true, true, true, true, false, false, false, true, false] rfl rfl (by kernel_rfl) (by decide) (fun K hK => ?_)
    refine goes_ Try.func38 (by kernel_rfl) rfl #[.slice (cutA A c 6) 6 (c - 6)] (by rfl) rfl rfl (by simp only [List.map_toArray, List.map_cons, List.map_nil]; rfl) ?_
    refine HD.call0 (RefNum_calls _ (cutA A c 6) 6 (c - 6) ((bs.drop 6).take 6) (HD.data C6.out) (by omega)) ?_
    rintro v l1 w3 ⟨hv, rfl⟩ H3
    rw [hS.out] at hv
    subst hv
    replace HD := H3
    clear H3
    refine ⟨_, rfl, ?_⟩
    refine hK.out _ _ (HD.only) (fun hHeld => ?_)
    clear hK K
    refine norm_ (a' := ?_) ?_ ?_
    rotate_left
    · show Act.put _ (some 15) _ = _
      simp only [Act.put, List.setIfInBounds_toArray, List.set_cons_zero, List.set_cons_succ, i64_w, i32_w]
      rfl
    refine one_ (i := 8) (N := some 18) #[true, true, true, true, true, true, true, true, true, false, false, true, false] rfl rfl (by kernel_rfl) (by decide) (fun K hK => ?_)
    refine goes_ Try.func38 (by kernel_rfl) rfl #[.slice (cutA A c 12) 2 (c - 12)] (by rfl) rfl rfl (by simp only [List.map_toArray, List.map_cons, List.map_nil]; rfl) ?_
    refine HD.call0 (RefNum_calls _ (cutA A c 12) 2 (c - 12) ((bs.drop 12).take 2) (HD.data C12.out) (by omega)) ?_
    rintro v l1 w3 ⟨hv, rfl⟩ H3
    rw [hKK.out] at hv
    subst hv
    replace HD := H3
    clear H3
    refine ⟨_, rfl, ?_⟩
    refine hK.out _ _ (HD.only) (fun hHeld => ?_)
    clear hK K
    refine norm_ (a' := ?_) ?_ ?_
    rotate_left
    · show Act.put _ (some 18) _ = _
      simp only [Act.put, List.setIfInBounds_toArray, List.set_cons_zero, List.set_cons_succ, i64_w, i32_w]
      rfl
    refine pure_ (i := 9) (N := some 19) (v := ?_) (a' := ?_) #[true, true, true, true, true, true, true, true, true, true, false, true, false] rfl rfl (by kernel_rfl) (fun _ _ _ h => h) (Or.inl ⟨by rfl, ?_⟩) ?_ ?_
    rotate_left
    · intro w'
      go_simp
      with_reducible rfl
    rotate_left
    · simp only [Act.put, List.setIfInBounds_toArray, List.set_cons_zero, List.set_cons_succ, i64_w, i32_w]
      rfl
    refine pure_ (i := 10) (N := some 20) (v := ?_) (a' := ?_) #[true, true, true, true, true, true, true, true, true, true, true, true, false] rfl rfl (by kernel_rfl) (fun _ _ _ h => h) (Or.inl ⟨by rfl, ?_⟩) ?_ ?_
    rotate_left
    · intro w'
      go_simp
      with_reducible rfl
    rotate_left
    · simp only [Act.put, List.setIfInBounds_toArray, List.set_cons_zero, List.set_cons_succ, i64_w, i32_w]
      rfl
    refine last_ (i := 12) (N := none) #[true, true, true, true, true, true, true, true, true, true, true, true, true] rfl rfl (by kernel_rfl) (by decide) (fun K hK => ?_)
    refine step_ (by rfl) rfl (HD.store 27 (.tmp 4) (.tmp 20) rfl rfl (by repeat (first | exact Pick.here _ | apply Pick.there)) (by first | (go_simp; done) | (go_simp; rfl)) _ rfl info27s (by simp [Value.oneCell', Value.cells]) (by simp [Value.cells]) rfl) ?_
    rintro _ w5 ⟨rfl, H5⟩
    simp only [putsAt, Value.cells, List.setIfInBounds_toArray, List.set_cons_zero, List.set_cons_succ, List.toList_toArray] at H5
    replace HD := H5
    clear H5
    refine hK.out _ _ ?_
    clear hK K
    refine done_ (by kernel_rfl) ?_
    replace H := HD
    clear HD hHeld
    go_wp2_with (first | ((with_reducible refine gate_dst (N := 2) rfl ?_); refine ev_ rfl (H.new (cs := #[.int .u64 0, .int .u64 0, .int .u16 0, .slice none 0 0]) (t := 27) (by first | (go_simp; done) | (go_simp; rfl))) ?_; rintro _ w1 ⟨g2, rfl, H1⟩; replace H := H1; clear H1) | ((with_reducible refine gate_store (p := 2) rfl ?_); refine ev_ rfl (H.store 27 (.tmp 2) (.tmp 9) rfl rfl (by repeat (first | exact Pick.here _ | apply Pick.there)) (by first | (go_simp; done) | (go_simp; rfl)) _ rfl info27s (by simp [Value.oneCell', Value.cells]) (by simp [Value.cells]) rfl) ?_; rintro _ w1 ⟨rfl, H1⟩; (try simp only [putsAt, Value.cells, List.setIfInBounds_toArray, List.set_cons_zero, List.set_cons_succ, List.toList_toArray] at H1); replace H := H1; clear H1) | ((with_reducible refine gate_dst (N := 24) rfl ?_); refine Kd.event_run rfl (H.load1 24 (.tmp 23) rfl rfl (by repeat (first | exact Pick.here _ | apply Pick.there)) Try.underlying24 rfl rfl) ?_) | ((with_reducible refine gate_dst (N := 29) rfl ?_); refine Kd.event_run rfl (H.load1 24 (.tmp 28) rfl rfl (by repeat (first | exact Pick.here _ | apply Pick.there)) Try.underlying24 rfl rfl) ?_) | ((with_reducible refine gate_store (p := 2) rfl ?_); refine ev_ rfl (H.store 27 (.tmp 2) (.tmp 32) rfl rfl (by repeat (first | exact Pick.here _ | apply Pick.there)) (by first | (go_simp; done) | (go_simp; rfl)) _ rfl info27s (by simp [Value.oneCell', Value.cells]) (by simp [Value.cells]) rfl) ?_; rintro _ w1 ⟨rfl, H1⟩; (try simp only [putsAt, Value.cells, List.setIfInBounds_toArray, List.set_cons_zero, List.set_cons_succ, List.toList_toArray] at H1); replace H := H1; clear H1) | ((with_reducible refine gate_store (p := 2) rfl ?_); refine ev_ rfl (H.store 27 (.tmp 2) (.tmp 42) rfl rfl (by repeat (first | exact Pick.here _ | apply Pick.there)) (by first | (go_simp; done) | (go_simp; rfl)) _ rfl info27s (by simp [Value.oneCell', Value.cells]) (by simp [Value.cells]) rfl) ?_; rintro _ w1 ⟨rfl, H1⟩; (try simp only [putsAt, Value.cells, List.setIfInBounds_toArray, List.set_cons_zero, List.set_cons_succ, List.toList_toArray] at H1); replace H := H1; clear H1) | ((with_reducible refine gate_dst (N := 44) rfl ?_); refine Kd.event_run rfl (H.load1 24 (.tmp 43) rfl rfl (by repeat (first | exact Pick.here _ | apply Pick.there)) Try.underlying24 rfl rfl) ?_) | ((with_reducible refine gate_store (p := 2) rfl ?_); refine ev_ rfl (H.store 27 (.tmp 2) (.tmp 46) rfl rfl (by repeat (first | exact Pick.here _ | apply Pick.there)) (by first | (go_simp; done) | (go_simp; rfl)) _ rfl info27s (by simp [Value.oneCell', Value.cells]) (by simp [Value.cells]) rfl) ?_; rintro _ w1 ⟨rfl, H1⟩; (try simp only [putsAt, Value.cells, List.setIfInBounds_toArray, List.set_cons_zero, List.set_cons_succ, List.toList_toArray] at H1); replace H := H1; clear H1) | ((with_reducible refine gate_store (p := 2) rfl ?_); refine ev_ rfl (H.store 27 (.tmp 2) (.tmp 50) rfl rfl (by repeat (first | exact Pick.here _ | apply Pick.there)) (by first | (go_simp; done) | (go_simp; rfl)) _ rfl info27s (by simp [Value.oneCell', Value.cells]) (by simp [Value.cells]) rfl) ?_; rintro _ w1 ⟨rfl, H1⟩; (try simp only [putsAt, Value.cells, List.setIfInBounds_toArray, List.set_cons_zero, List.set_cons_succ, List.toList_toArray] at H1); replace H := H1; clear H1) | ((with_reducible refine gate_dst (N := 52) rfl ?_); refine Kd.event_run rfl (H.load1 25 (.tmp 51) rfl rfl (by repeat (first | exact Pick.here _ | apply Pick.there)) Try.underlying25 rfl rfl) ?_) | ((with_reducible refine gate_store (p := 55) rfl ?_); refine ev_ rfl (H.store 25 (.tmp 55) (.tmp 54) rfl rfl (by repeat (first | exact Pick.here _ | apply Pick.there)) (by first | (go_simp; done) | (go_simp; rfl)) _ rfl info25s (by simp [Value.oneCell', Value.cells]) (by simp [Value.cells]) rfl) ?_; rintro _ w1 ⟨rfl, H1⟩; (try simp only [putsAt, Value.cells, List.setIfInBounds_toArray, List.set_cons_zero, List.set_cons_succ, List.toList_toArray] at H1); replace H := H1; clear H1) | ((with_reducible refine gate_store (p := 2) rfl ?_); refine ev_ rfl (H.store 27 (.tmp 2) (.tmp 56) rfl rfl (by repeat (first | exact Pick.here _ | apply Pick.there)) (by first | (go_simp; done) | (go_simp; rfl)) _ rfl info27s (by simp [Value.oneCell', Value.cells]) (by simp [Value.cells]) rfl) ?_; rintro _ w1 ⟨rfl, H1⟩; (try simp only [putsAt, Value.cells, List.setIfInBounds_toArray, List.set_cons_zero, List.set_cons_succ, List.toList_toArray] at H1); replace H := H1; clear H1) | ((with_reducible refine gate_dst (N := 22) rfl ?_); refine Kd.event_run rfl (v := .slice (cutA A c 14) (bs.length - 14) (c - 14)) (w1 := _) (run_cut (t := 25) (e := 5) (j := 14) rfl rfl rfl Try.underlying25 info5s (by omega) _) ?_))
    refine bodyPost_ret (H.ret_ct (p := 2) (u := 3) rfl (.here _) rfl Try.underlying27 rfl info27s) rfl ⟨_, _, rfl, ⟨.slice none 0 0, rfl, rfl⟩, ?_⟩
    exact (H.only).nil_row _ _

set_option maxHeartbeats 1000000 in
set_option maxRecDepth 100000 in
theorem RefGet_type (w : World) (A : Option Addr) (n c : Nat) (bs : List Int) (hb : (Kd.int .u8).C w A n bs) (hc : n ≤ c) (hn : n ≤ 100000) (hby : ∀ y ∈ bs, 0 ≤ y ∧ y ≤ 255) (h14 : 14 ≤ bs.length) (t s : Int) (k : Nat) (hTe : numR ((bs.drop 0).take 6) = t) (hSe : numR ((bs.drop 6).take 6) = s) (hKe : numR ((bs.drop 12).take 2) = (k : Int)) (hk : 1536 ≤ k) (hl : bs.length - 14 ≤ 1500) :
    Calls Try.prog 22 #[.slice A n c] w (Ret (fun _ => False) w (frAns (getF bs))) := by
  have H := Hp.nothing w
  obtain rfl : bs.length = n := hb.1
  replace hb := Aside0.mk hb
  replace hc := Aside0.mk hc
  have hn2 := Aside0.mk hn
  have hg : getF bs = (t, s, (k : Int), bs.drop 14, 0) := by
    unfold getF kindL
    rw [if_neg (by omega), hKe, hTe, hSe]
    rw [if_neg (by omega), if_neg (by omega), if_neg (by omega)]
  rw [hg]
  have rK := numR_lt ((bs.drop 12).take 2) (bytes_part hby 12 2) 2 (by simp; omega) (by decide)
  rw [hKe] at rK
  have k1 : k < 65536 := by have := rK.2; simp at this; omega
  have kw : IntKind.u16.wrap (k : Int) = (k : Int) := by rw [IntKind.wrap_u16]; omega
  have kw2 : IntKind.i64.wrap (k : Int) = (k : Int) := by rw [IntKind.wrap_i64]; omega
  have kw3 : wrap64 (k : Int) = (k : Int) := by unfold wrap64; omega
  have C0 : (Kd.int .u8).C w A 6 (bs.take 6) := C_front hb.out 6 (by omega)
  have C6 : (Kd.int .u8).C w (cutA A c 6) 6 ((bs.drop 6).take 6) := C_front (C_cutS (h1 := fun _ => rfl) hb.out 6 (by omega) hc.out) 6 (by omega)
  have C12 : (Kd.int .u8).C w (cutA A c 12) 2 ((bs.drop 12).take 2) := C_front (C_cutS (h1 := fun _ => rfl) hb.out 12 (by omega) hc.out) 2 (by omega)
  have C14 : (Kd.int .u8).C w (cutA A c 14) (bs.length - 14) (bs.drop 14) := C_cutS (h1 := fun _ => rfl) hb.out 14 (by omega) hc.out
  rw [List.drop_zero] at hTe
  have hT := Aside0.mk hTe
  have hS := Aside0.mk hSe
  have hKK := Aside0.mk hKe
  replace C0 := Aside0.mk C0
  replace C6 := Aside0.mk C6
  replace C12 := Aside0.mk C12
  replace C14 := Aside0.mk C14
  have d14 : decide (bs.length < 14) = false := decide_eq_false (by omega)
  have d14I : decide ((bs.length : Int) < 14) = false := decide_eq_false (by omega)
  clear rK hTe hSe hKe hby hg
  have c1 : decide (k ≤ 1500) = false := decide_eq_false (by omega)
  have c1I : decide ((k : Int) ≤ 1500) = false := decide_eq_false (by omega)
  have c2 : decide (k < 1536) = false := decide_eq_false (by omega)
  have c2I : decide ((k : Int) < 1536) = false := decide_eq_false (by omega)
  have c6 : decide (1500 < bs.length - 14) = false := decide_eq_false (by omega)
  have c6I : decide ((1500 : Int) < ((bs.length - 14 : Nat) : Int)) = false := decide_eq_false (by omega)
  go_enter Try.func22, Try.ntmps22
  go_wp2_with (first | ((with_reducible refine gate_dst (N := 2) rfl ?_); refine ev_ rfl (H.new (cs := #[.int .u64 0, .int .u64 0, .int .u16 0, .slice none 0 0]) (t := 27) (by first | (go_simp; done) | (go_simp; rfl))) ?_; rintro _ w1 ⟨g2, rfl, H1⟩; replace H := H1; clear H1))
  refine startH H.only (n := 13) [12] #[false, false, false, false, false, false, false, false, false, false, false, false, false] (by kernel_rfl) rfl rfl (fun hHeld => ?_)
  have HD := H.drew
  refine pure_ (i := 0) (N := some 10) (v := ?_) (a' := ?_) #[true, false, false, false, false, false, false, false, false, false, false, false, false] rfl rfl (by kernel_rfl) (fun _ _ _ h => h) (Or.inl ⟨by rfl, ?_⟩) ?_ ?_
  rotate_left
  · intro w'
    go_simp
    with_reducible rfl
  rotate_left
  · simp only [Act.put, List.setIfInBounds_toArray, List.set_cons_zero, List.set_cons_succ, i64_w, i32_w]
    rfl
  refine pure_ (i := 1) (N := some 11) (v := .slice A 6 c) (a' := ?_) #[true, true, false, false, false, false, false, false, false, false, false, false, false] rfl rfl (by kernel_rfl) (fun _ _ _ h => h) (Or.inl ⟨by rfl, run_cut3 (t := 25) (e := 5) (j := 6) rfl rfl rfl Try.underlying25 info5s (by omega) hc.out⟩) ?_ ?_
  rotate_left
  · simp only [Act.put, List.setIfInBounds_toArray, List.set_cons_zero, List.set_cons_succ, i64_w, i32_w]
    rfl
  refine pure_ (i := 3) (N := some 13) (v := ?_) (a' := ?_) #[true, true, false, true, false, false, false, false, false, false, false, false, false] rfl rfl (by kernel_rfl) (fun _ _ _ h => h) (Or.inl ⟨by rfl, ?_⟩) ?_ ?_
  rotate_left
  · intro w'
    go_simp
    with_reducible rfl
  rotate_left
  · simp only [Act.put, List.setIfInBounds_toArray, List.set_cons_zero, List.set_cons_succ, i64_w, i32_w]
    rfl
  refine pure_ (i := 4) (N := some 14) (v := .slice (cutA A c 6) 6 (c - 6)) (a' := ?_) #[true, true, false, true, true, false, false, false, false, false, false, false, false] rfl rfl (by kernel_rfl) (fun _ _ _ h => h) (Or.inl ⟨by rfl, run_cut2 (t := 25) (e := 5) (i := 6) (j := 12) rfl rfl rfl rfl Try.underlying25 info5s (by omega) (by omega) hc.out⟩) ?_ ?_
  rotate_left
  · simp only [Act.put, List.setIfInBounds_toArray, List.set_cons_zero, List.set_cons_succ, i64_w, i32_w]
    rfl
  refine pure_ (i := 6) (N := some 16) (v := ?_) (a' := ?_) #[true, true, false, true, true, false, true, false, false, false, false, false, false] rfl rfl (by kernel_rfl) (fun _ _ _ h => h) (Or.inl ⟨by rfl, ?_⟩) ?_ ?_
  rotate_left
  · intro w'
    go_simp
    with_reducible rfl
  rotate_left
  · simp only [Act.put, List.setIfInBounds_toArray, List.set_cons_zero, List.set_cons_succ, i64_w, i32_w]
    rfl
  refine pure_ (i := 7) (N := some 17) (v := .slice (cutA A c 12) 2 (c - 12)) (a' := ?_) #[true, true, false, true, true, false, true, true, false, false, false, false, false] rfl rfl (by kernel_rfl) (fun _ _ _ h => h) (Or.inl ⟨by rfl, run_cut2 (t := 25) (e := 5) (i := 12) (j := 14) rfl rfl rfl rfl Try.underlying25 info5s (by omega) (by omega) hc.out⟩) ?_ ?_
  rotate_left
  · simp only [Act.put, List.setIfInBounds_toArray, List.set_cons_zero, List.set_cons_succ, i64_w, i32_w]
    rfl
  refine two_ (i := 2) (j := 11) (Ni := some 12) (Nj := some 4) #[true, true, true, true, true, false, true, true, false, false, false, false, false] #[true, true, false, true, true, false, true, true, false, false, false, true, false] rfl rfl rfl rfl (by kernel_rfl) (by decide) (by decide) (fun K hK => ?_) (fun K hK => ?_)
  · skip
    refine goes_ Try.func38 (by kernel_rfl) rfl #[.slice A 6 c] (by rfl) rfl rfl (by simp only [List.map_toArray, List.map_cons, List.map_nil]; rfl) ?_
    refine HD.call0 (RefNum_calls _ A 6 c (bs.take 6) (HD.data C0.out) (by omega)) ?_
    rintro v l1 w3 ⟨hv, rfl⟩ H3
    rw [hT.out] at hv
    subst hv
    replace HD := H3
    clear H3
    refine ⟨_, rfl, ?_⟩
    refine hK.out _ _ (HD.only) (fun hHeld => ?_)
    clear hK K
    refine norm_ (a' := ?_) ?_ ?_
    rotate_left
    · show Act.put _ (some 12) _ = _
      simp only [Act.put, List.setIfInBounds_toArray, List.set_cons_zero, List.set_cons_succ, i64_w, i32_w]
      rfl
    refine two_ (i := 5) (j := 11) (Ni := some 15) (Nj := some 4) #[true, true, true, true, true, true, true, true, false, false, false, false, false] #[true, true, true, true, true, false, true, true, false, false, false, true, false] rfl rfl rfl rfl (by kernel_rfl) (by decide) (by decide) (fun K hK => ?_) (fun K hK => ?_)
    · skip
      refine goes_ Try.func38 (by kernel_rfl) rfl #[.slice (cutA A c 6) 6 (c - 6)] (by rfl) rfl rfl (by simp only [List.map_toArray, List.map_cons, List.map_nil]; rfl) ?_
      refine HD.call0 (RefNum_calls _ (cutA A c 6) 6 (c - 6) ((bs.drop 6).take 6) (HD.data C6.out) (by omega)) ?_
      rintro v l1 w3 ⟨hv, rfl⟩ H3
      rw [hS.out] at hv
      subst hv
      replace HD := H3
      clear H3
      refine ⟨_, rfl, ?_⟩
      refine hK.out _ _ (HD.only) (fun hHeld => ?_)
      clear hK K
      refine norm_ (a' := ?_) ?_ ?_
      rotate_left
      · show Act.put _ (some 15) _ = _
        simp only [Act.put, List.setIfInBounds_toArray, List.set_cons_zero, List.set_cons_succ, i64_w, i32_w]
        rfl
      refine two_ (i := 8) (j := 11) (Ni := some 18) (Nj := some 4) #[true, true, true, true, true, true, true, true, true, false, false, false, false] #[true, true, true, true, true, true, true, true, false, false, false, true, false] rfl rfl rfl rfl (by kernel_rfl) (by decide) (by decide) (fun K hK => ?_) (fun K hK => ?_)
      · skip
        refine goes_ Try.func38 (by kernel_rfl) rfl #[.slice (cutA A c 12) 2 (c - 12)] (by rfl) rfl rfl (by simp only [List.map_toArray, List.map_cons, List.map_nil]; rfl) ?_
        refine HD.call0 (RefNum_calls _ (cutA A c 12) 2 (c - 12) ((bs.drop 12).take 2) (HD.data C12.out) (by omega)) ?_
        rintro v l1 w3 ⟨hv, rfl⟩ H3
        rw [hKK.out] at hv
        subst hv
        replace HD := H3
        clear H3
        refine ⟨_, rfl, ?_⟩
        refine hK.out _ _ (HD.only) (fun hHeld => ?_)
        clear hK K
        refine norm_ (a' := ?_) ?_ ?_
        rotate_left
        · show Act.put _ (some 18) _ = _
          simp only [Act.put, List.setIfInBounds_toArray, List.set_cons_zero, List.set_cons_succ, i64_w, i32_w]
          rfl
        refine pure_ (i := 9) (N := some 19) (v := ?_) (a' := ?_) #[true, true, true, true, true, true, true, true, true, true, false, false, false] rfl rfl (by kernel_rfl) (fun _ _ _ h => h) (Or.inl ⟨by rfl, ?_⟩) ?_ ?_
        rotate_left
        · intro w'
          go_simp
          with_reducible rfl
        rotate_left
        · simp only [Act.put, List.setIfInBounds_toArray, List.set_cons_zero, List.set_cons_succ, i64_w, i32_w]
          rfl
        refine pure_ (i := 10) (N := some 20) (v := ?_) (a' := ?_) #[true, true, true, true, true, true, true, true, true, true, true, false, false] rfl rfl (by kernel_rfl) (fun _ _ _ h => h) (Or.inl ⟨by rfl, ?_⟩) ?_ ?_
        rotate_left
        · intro w'
          go_simp
          with_reducible rfl
        rotate_left
        · simp only [Act.put, List.setIfInBounds_toArray, List.set_cons_zero, List.set_cons_succ, i64_w, i32_w]
          rfl
        refine one_ (i := 11) (N := some 4) #[true, true, true, true, true, true, true, true, true, true, true, true, false] rfl rfl (by kernel_rfl) (by decide) (fun K hK => ?_)
        refine step_ (by rfl) rfl (HD.new (cs := #[.int .u64 0, .int .u64 0, .int .u16 0, .slice none 0 0]) (t := 27) (by first | (go_simp; done) | (go_simp; rfl))) ?_
        rintro _ w4 ⟨g4, rfl, H4⟩
        replace HD := H4
        clear H4
        refine hK.out _ _ (HD.only) (fun hHeld => ?_)
        clear hK K
        refine norm_ (a' := ?_) ?_ ?_
        rotate_left
        · show Act.put _ (some 4) _ = _
          simp only [Act.put, List.setIfInBounds_toArray, List.set_cons_zero, List.set_cons_succ, i64_w, i32_w]
          rfl
        refine last_ (i := 12) (N := none) #[true, true, true, true, true, true, true, true, true, true, true, true, true] rfl rfl (by kernel_rfl) (by decide) (fun K hK => ?_)
        refine step_ (by rfl) rfl (HD.store 27 (.tmp 4) (.tmp 20) rfl rfl (by repeat (first | exact Pick.here _ | apply Pick.there)) (by first | (go_simp; done) | (go_simp; rfl)) _ rfl info27s (by simp [Value.oneCell', Value.cells]) (by simp [Value.cells]) rfl) ?_
        rintro _ w5 ⟨rfl, H5⟩
        simp only [putsAt, Value.cells, List.setIfInBounds_toArray, List.set_cons_zero, List.set_cons_succ, List.toList_toArray] at H5
        replace HD := H5
        clear H5
        refine hK.out _ _ ?_
        clear hK K
        refine done_ (by kernel_rfl) ?_
        replace H := HD
        clear HD hHeld
        go_wp2_with (first | ((with_reducible refine gate_dst (N := 2) rfl ?_); refine ev_ rfl (H.new (cs := #[.int .u64 0, .int .u64 0, .int .u16 0, .slice none 0 0]) (t := 27) (by first | (go_simp; done) | (go_simp; rfl))) ?_; rintro _ w1 ⟨g2, rfl, H1⟩; replace H := H1; clear H1) | ((with_reducible refine gate_store (p := 2) rfl ?_); refine ev_ rfl (H.store 27 (.tmp 2) (.tmp 9) rfl rfl (by repeat (first | exact Pick.here _ | apply Pick.there)) (by first | (go_simp; done) | (go_simp; rfl)) _ rfl info27s (by simp [Value.oneCell', Value.cells]) (by simp [Value.cells]) rfl) ?_; rintro _ w1 ⟨rfl, H1⟩; (try simp only [putsAt, Value.cells, List.setIfInBounds_toArray, List.set_cons_zero, List.set_cons_succ, List.toList_toArray] at H1); replace H := H1; clear H1) | ((with_reducible refine gate_dst (N := 24) rfl ?_); refine Kd.event_run rfl (H.load1 24 (.tmp 23) rfl rfl (by repeat (first | exact Pick.here _ | apply Pick.there)) Try.underlying24 rfl rfl) ?_) | ((with_reducible refine gate_dst (N := 29) rfl ?_); refine Kd.event_run rfl (H.load1 24 (.tmp 28) rfl rfl (by repeat (first | exact Pick.here _ | apply Pick.there)) Try.underlying24 rfl rfl) ?_) | ((with_reducible refine gate_store (p := 2) rfl ?_); refine ev_ rfl (H.store 27 (.tmp 2) (.tmp 32) rfl rfl (by repeat (first | exact Pick.here _ | apply Pick.there)) (by first | (go_simp; done) | (go_simp; rfl)) _ rfl info27s (by simp [Value.oneCell', Value.cells]) (by simp [Value.cells]) rfl) ?_; rintro _ w1 ⟨rfl, H1⟩; (try simp only [putsAt, Value.cells, List.setIfInBounds_toArray, List.set_cons_zero, List.set_cons_succ, List.toList_toArray] at H1); replace H := H1; clear H1) | ((with_reducible refine gate_dst (N := 42) rfl ?_); refine Kd.event_run rfl (H.loadN 27 (.tmp 4) rfl rfl (by repeat (first | exact Pick.here _ | apply Pick.there)) #[.int .u64 t, .int .u64 s, .int .u16 (k : Int), .slice A5 (bs.length - 14) c5] Try.underlying27 rfl info27s (fun j u hj => by simpa using hj)) ?_) | ((with_reducible refine gate_store (p := 2) rfl ?_); refine ev_ rfl (H.store 27 (.tmp 2) (.tmp 42) rfl rfl (by repeat (first | exact Pick.here _ | apply Pick.there)) (by first | (go_simp; done) | (go_simp; rfl)) _ rfl info27s (by simp [Value.oneCell', Value.cells]) (by simp [Value.cells]) rfl) ?_; rintro _ w1 ⟨rfl, H1⟩; (try simp only [putsAt, Value.cells, List.setIfInBounds_toArray, List.set_cons_zero, List.set_cons_succ, List.toList_toArray] at H1); replace H := H1; clear H1) | ((with_reducible refine gate_dst (N := 44) rfl ?_); refine Kd.event_run rfl (H.load1 24 (.tmp 43) rfl rfl (by repeat (first | exact Pick.here _ | apply Pick.there)) Try.underlying24 rfl rfl) ?_) | ((with_reducible refine gate_store (p := 2) rfl ?_); refine ev_ rfl (H.store 27 (.tmp 2) (.tmp 46) rfl rfl (by repeat (first | exact Pick.here _ | apply Pick.there)) (by first | (go_simp; done) | (go_simp; rfl)) _ rfl info27s (by simp [Value.oneCell', Value.cells]) (by simp [Value.cells]) rfl) ?_; rintro _ w1 ⟨rfl, H1⟩; (try simp only [putsAt, Value.cells, List.setIfInBounds_toArray, List.set_cons_zero, List.set_cons_succ, List.toList_toArray] at H1); replace H := H1; clear H1) | ((with_reducible refine gate_store (p := 2) rfl ?_); refine ev_ rfl (H.store 27 (.tmp 2) (.tmp 50) rfl rfl (by repeat (first | exact Pick.here _ | apply Pick.there)) (by first | (go_simp; done) | (go_simp; rfl)) _ rfl info27s (by simp [Value.oneCell', Value.cells]) (by simp [Value.cells]) rfl) ?_; rintro _ w1 ⟨rfl, H1⟩; (try simp only [putsAt, Value.cells, List.setIfInBounds_toArray, List.set_cons_zero, List.set_cons_succ, List.toList_toArray] at H1); replace H := H1; clear H1) | ((with_reducible refine gate_dst (N := 52) rfl ?_); refine Kd.event_run rfl (H.load1 25 (.tmp 51) rfl rfl (by repeat (first | exact Pick.here _ | apply Pick.there)) Try.underlying25 rfl rfl) ?_) | ((with_reducible refine gate_store (p := 55) rfl ?_); refine ev_ rfl (H.store 25 (.tmp 55) (.tmp 54) rfl rfl (by repeat (first | exact Pick.here _ | apply Pick.there)) (by first | (go_simp; done) | (go_simp; rfl)) _ rfl info25s (by simp [Value.oneCell', Value.cells]) (by simp [Value.cells]) rfl) ?_; rintro _ w1 ⟨rfl, H1⟩; (try simp only [putsAt, Value.cells, List.setIfInBounds_toArray, List.set_cons_zero, List.set_cons_succ, List.toList_toArray] at H1); replace H := H1; clear H1) | ((with_reducible refine gate_dst (N := 56) rfl ?_); refine Kd.event_run rfl (H.loadN 27 (.tmp 4) rfl rfl (by repeat (first | exact Pick.here _ | apply Pick.there)) #[.int .u64 t, .int .u64 s, .int .u16 (k : Int), .slice A5 (bs.length - 14) c5] Try.underlying27 rfl info27s (fun j u hj => by simpa using hj)) ?_) | ((with_reducible refine gate_store (p := 2) rfl ?_); refine ev_ rfl (H.store 27 (.tmp 2) (.tmp 56) rfl rfl (by repeat (first | exact Pick.here _ | apply Pick.there)) (by first | (go_simp; done) | (go_simp; rfl)) _ rfl info27s (by simp [Value.oneCell', Value.cells]) (by simp [Value.cells]) rfl) ?_; rintro _ w1 ⟨rfl, H1⟩; (try simp only [putsAt, Value.cells, List.setIfInBounds_toArray, List.set_cons_zero, List.set_cons_succ, List.toList_toArray] at H1); replace H := H1; clear H1) | ((with_reducible refine gate_dst (N := 22) rfl ?_); refine Kd.event_run rfl (v := .slice (cutA A c 14) (bs.length - 14) (c - 14)) (w1 := _) (run_cut (t := 25) (e := 5) (j := 14) rfl rfl rfl Try.underlying25 info5s (by omega) _) ?_) | ((with_reducible refine gate_dst (N := 54) rfl ?_); refine ev_ rfl ((H.nil_row (Kd.int .u8) 5).appendS (.tmp 52) (.tmp 53) 25 (.int .u8 0) 1 rfl rfl (.here _) Try.underlying25 info5 rfl (by decide) rfl (H.data C14.out) (by simp; omega)) ?_; rintro v6 w6 H6; simp only [List.nil_append] at H6; have hdl : (bs.drop 14).length = bs.length - 14 := List.length_drop; obtain ⟨A5, c5, hv, hc5, HC5⟩ := H6.reads (.here _); rw [hdl] at hv; subst hv; replace H := H6; clear hc5 HC5 hdl H6))
        refine bodyPost_ret (H.ret_ct (p := 2) (u := 3) rfl (.here _) rfl Try.underlying27 rfl info27s) rfl ⟨_, _, rfl, ⟨_, rfl, rfl⟩, ?_⟩
        exact H.take (.cons (by repeat (first | exact Pick.here _ | apply Pick.there)) (.nil _))
      · skip
        refine step_ (by rfl) rfl (HD.new (cs := #[.int .u64 0, .int .u64 0, .int .u16 0, .slice none 0 0]) (t := 27) (by first | (go_simp; done) | (go_simp; rfl))) ?_
        rintro _ w4 ⟨g4, rfl, H4⟩
        replace HD := H4
        clear H4
        refine hK.out _ _ (HD.only) (fun hHeld => ?_)
        clear hK K
        refine norm_ (a' := ?_) ?_ ?_
        rotate_left
        · show Act.put _ (some 4) _ = _
          simp only [Act.put, List.setIfInBounds_toArray, List.set_cons_zero, List.set_cons_succ, i64_w, i32_w]
          rfl
        refine one_ (i := 8) (N := some 18) #[true, true, true, true, true, true, true, true, true, false, false, true, false] rfl rfl (by kernel_rfl) (by decide) (fun K hK => ?_)
        refine goes_ Try.func38 (by kernel_rfl) rfl #[.slice (cutA A c 12) 2 (c - 12)] (by rfl) rfl rfl (by simp only [List.map_toArray, List.map_cons, List.map_nil]; rfl) ?_
        refine HD.call0 (RefNum_calls _ (cutA A c 12) 2 (c - 12) ((bs.drop 12).take 2) (HD.data C12.out) (by omega)) ?_
        rintro v l1 w3 ⟨hv, rfl⟩ H3
        rw [hKK.out] at hv
        subst hv
        replace HD := H3
        clear H3
        refine ⟨_, rfl, ?_⟩
        refine hK.out _ _ (HD.only) (fun hHeld => ?_)
        clear hK K
        refine norm_ (a' := ?_) ?_ ?_
        rotate_left
        · show Act.put _ (some 18) _ = _
          simp only [Act.put, List.setIfInBounds_toArray, List.set_cons_zero, List.set_cons_succ, i64_w, i32_w]
          rfl
        refine pure_ (i := 9) (N := some 19) (v := ?_) (a' := ?_) #[true, true, true, true, true, true, true, true, true, true, false, true, false] rfl rfl (by kernel_rfl) (fun _ _ _ h => h) (Or.inl ⟨by rfl, ?_⟩) ?_ ?_
        rotate_left
        · intro w'
          go_simp
          with_reducible rfl
        rotate_left
        · simp only [Act.put, List.setIfInBounds_toArray, List.set_cons_zero, List.set_cons_succ, i64_w, i32_w]
          rfl
        refine pure_ (i := 10) (N := some 20) (v := ?_) (a' := ?_) #[true, true, true, true, true, true, true, true, true, true, true, true, false] rfl rfl (by kernel_rfl) (fun _ _ _ h => h) (Or.inl ⟨by rfl, ?_⟩) ?_ ?_
        rotate_left
        · intro w'
          go_simp
          with_reducible rfl
        rotate_left
        · simp only [Act.put, List.setIfInBounds_toArray, List.set_cons_zero, List.set_cons_succ, i64_w, i32_w]
          rfl
        refine last_ (i := 12) (N := none) #[true, true, true, true, true, true, true, true, true, true, true, true, true] rfl rfl (by kernel_rfl) (by decide) (fun K hK => ?_)
        refine step_ (by rfl) rfl (HD.store 27 (.tmp 4) (.tmp 20) rfl rfl (by repeat (first | exact Pick.here _ | apply Pick.there)) (by first | (go_simp; done) | (go_simp; rfl)) _ rfl info27s (by simp [Value.oneCell', Value.cells]) (by simp [Value.cells]) rfl) ?_
        rintro _ w5 ⟨rfl, H5⟩
        simp only [putsAt, Value.cells, List.setIfInBounds_toArray, List.set_cons_zero, List.set_cons_succ, List.toList_toArray] at H5
        replace HD := H5
        clear H5
        refine hK.out _ _ ?_
        clear hK K
        refine done_ (by kernel_rfl) ?_
        replace H := HD
        clear HD hHeld
        go_wp2_with (first | ((with_reducible refine gate_dst (N := 2) rfl ?_); refine ev_ rfl (H.new (cs := #[.int .u64 0, .int .u64 0, .int .u16 0, .slice none 0 0]) (t := 27) (by first | (go_simp; done) | (go_simp; rfl))) ?_; rintro _ w1 ⟨g2, rfl, H1⟩; replace H := H1; clear H1) | ((with_reducible refine gate_store (p := 2) rfl ?_); refine ev_ rfl (H.store 27 (.tmp 2) (.tmp 9) rfl rfl (by repeat (first | exact Pick.here _ | apply Pick.there)) (by first | (go_simp; done) | (go_simp; rfl)) _ rfl info27s (by simp [Value.oneCell', Value.cells]) (by simp [Value.cells]) rfl) ?_; rintro _ w1 ⟨rfl, H1⟩; (try simp only [putsAt, Value.cells, List.setIfInBounds_toArray, List.set_cons_zero, List.set_cons_succ, List.toList_toArray] at H1); replace H := H1; clear H1) | ((with_reducible refine gate_dst (N := 24) rfl ?_); refine Kd.event_run rfl (H.load1 24 (.tmp 23) rfl rfl (by repeat (first | exact Pick.here _ | apply Pick.there)) Try.underlying24 rfl rfl) ?_) | ((with_reducible refine gate_dst (N := 29) rfl ?_); refine Kd.event_run rfl (H.load1 24 (.tmp 28) rfl rfl (by repeat (first | exact Pick.here _ | apply Pick.there)) Try.underlying24 rfl rfl) ?_) | ((with_reducible refine gate_store (p := 2) rfl ?_); refine ev_ rfl (H.store 27 (.tmp 2) (.tmp 32) rfl rfl (by repeat (first | exact Pick.here _ | apply Pick.there)) (by first | (go_simp; done) | (go_simp; rfl)) _ rfl info27s (by simp [Value.oneCell', Value.cells]) (by simp [Value.cells]) rfl) ?_; rintro _ w1 ⟨rfl, H1⟩; (try simp only [putsAt, Value.cells, List.setIfInBounds_toArray, List.set_cons_zero, List.set_cons_succ, List.toList_toArray] at H1); replace H := H1; clear H1) | ((with_reducible refine gate_dst (N := 42) rfl ?_); refine Kd.event_run rfl (H.loadN 27 (.tmp 4) rfl rfl (by repeat (first | exact Pick.here _ | apply Pick.there)) #[.int .u64 t, .int .u64 s, .int .u16 (k : Int), .slice A5 (bs.length - 14) c5] Try.underlying27 rfl info27s (fun j u hj => by simpa using hj)) ?_) | ((with_reducible refine gate_store (p := 2) rfl ?_); refine ev_ rfl (H.store 27 (.tmp 2) (.tmp 42) rfl rfl (by repeat (first | exact Pick.here _ | apply Pick.there)) (by first | (go_simp; done) | (go_simp; rfl)) _ rfl info27s (by simp [Value.oneCell', Value.cells]) (by simp [Value.cells]) rfl) ?_; rintro _ w1 ⟨rfl, H1⟩; (try simp only [putsAt, Value.cells, List.setIfInBounds_toArray, List.set_cons_zero, List.set_cons_succ, List.toList_toArray] at H1); replace H := H1; clear H1) | ((with_reducible refine gate_dst (N := 44) rfl ?_); refine Kd.event_run rfl (H.load1 24 (.tmp 43) rfl rfl (by repeat (first | exact Pick.here _ | apply Pick.there)) Try.underlying24 rfl rfl) ?_) | ((with_reducible refine gate_store (p := 2) rfl ?_); refine ev_ rfl (H.store 27 (.tmp 2) (.tmp 46) rfl rfl (by repeat (first | exact Pick.here _ | apply Pick.there)) (by first | (go_simp; done) | (go_simp; rfl)) _ rfl info27s (by simp [Value.oneCell', Value.cells]) (by simp [Value.cells]) rfl) ?_; rintro _ w1 ⟨rfl, H1⟩; (try simp only [putsAt, Value.cells, List.setIfInBounds_toArray, List.set_cons_zero, List.set_cons_succ, List.toList_toArray] at H1); replace H := H1; clear H1) | ((with_reducible refine gate_store (p := 2) rfl ?_); refine ev_ rfl (H.store 27 (.tmp 2) (.tmp 50) rfl rfl (by repeat (first | exact Pick.here _ | apply Pick.there)) (by first | (go_simp; done) | (go_simp; rfl)) _ rfl info27s (by simp [Value.oneCell', Value.cells]) (by simp [Value.cells]) rfl) ?_; rintro _ w1 ⟨rfl, H1⟩; (try simp only [putsAt, Value.cells, List.setIfInBounds_toArray, List.set_cons_zero, List.set_cons_succ, List.toList_toArray] at H1); replace H := H1; clear H1) | ((with_reducible refine gate_dst (N := 52) rfl ?_); refine Kd.event_run rfl (H.load1 25 (.tmp 51) rfl rfl (by repeat (first | exact Pick.here _ | apply Pick.there)) Try.underlying25 rfl rfl) ?_) | ((with_reducible refine gate_store (p := 55) rfl ?_); refine ev_ rfl (H.store 25 (.tmp 55) (.tmp 54) rfl rfl (by repeat (first | exact Pick.here _ | apply Pick.there)) (by first | (go_simp; done) | (go_simp; rfl)) _ rfl info25s (by simp [Value.oneCell', Value.cells]) (by simp [Value.cells]) rfl) ?_; rintro _ w1 ⟨rfl, H1⟩; (try simp only [putsAt, Value.cells, List.setIfInBounds_toArray, List.set_cons_zero, List.set_cons_succ, List.toList_toArray] at H1); replace H := H1; clear H1) | ((with_reducible refine gate_dst (N := 56) rfl ?_); refine Kd.event_run rfl (H.loadN 27 (.tmp 4) rfl rfl (by repeat (first | exact Pick.here _ | apply Pick.there)) #[.int .u64 t, .int .u64 s, .int .u16 (k : Int), .slice A5 (bs.length - 14) c5] Try.underlying27 rfl info27s (fun j u hj => by simpa using hj)) ?_) | ((with_reducible refine gate_store (p := 2) rfl ?_); refine ev_ rfl (H.store 27 (.tmp 2) (.tmp 56) rfl rfl (by repeat (first | exact Pick.here _ | apply Pick.there)) (by first | (go_simp; done) | (go_simp; rfl)) _ rfl info27s (by simp [Value.oneCell', Value.cells]) (by simp [Value.cells]) rfl) ?_; rintro _ w1 ⟨rfl, H1⟩; (try simp only [putsAt, Value.cells, List.setIfInBounds_toArray, List.set_cons_zero, List.set_cons_succ, List.toList_toArray] at H1); replace H := H1; clear H1) | ((with_reducible refine gate_dst (N := 22) rfl ?_); refine Kd.event_run rfl (v := .slice (cutA A c 14) (bs.length - 14) (c - 14)) (w1 := _) (run_cut (t := 25) (e := 5) (j := 14) rfl rfl rfl Try.underlying25 info5s (by omega) _) ?_) | ((with_reducible refine gate_dst (N := 54) rfl ?_); refine ev_ rfl ((H.nil_row (Kd.int .u8) 5).appendS (.tmp 52) (.tmp 53) 25 (.int .u8 0) 1 rfl rfl (.here _) Try.underlying25 info5 rfl (by decide) rfl (H.data C14.out) (by simp; omega)) ?_; rintro v6 w6 H6; simp only [List.nil_append] at H6; have hdl : (bs.drop 14).length = bs.length - 14 := List.length_drop; obtain ⟨A5, c5, hv, hc5, HC5⟩ := H6.reads (.here _); rw [hdl] at hv; subst hv; replace H := H6; clear hc5 HC5 hdl H6))
        refine bodyPost_ret (H.ret_ct (p := 2) (u := 3) rfl (.here _) rfl Try.underlying27 rfl info27s) rfl ⟨_, _, rfl, ⟨_, rfl, rfl⟩, ?_⟩
        exact H.take (.cons (by repeat (first | exact Pick.here _ | apply Pick.there)) (.nil _))
    · skip
      refine step_ (by rfl) rfl (HD.new (cs := #[.int .u64 0, .int .u64 0, .int .u16 0, .slice none 0 0]) (t := 27) (by first | (go_simp; done) | (go_simp; rfl))) ?_
      rintro _ w4 ⟨g4, rfl, H4⟩
      replace HD := H4
      clear H4
      refine hK.out _ _ (HD.only) (fun hHeld => ?_)
      clear hK K
      refine norm_ (a' := ?_) ?_ ?_
      rotate_left
      · show Act.put _ (some 4) _ = _
        simp only [Act.put, List.setIfInBounds_toArray, List.set_cons_zero, List.set_cons_succ, i64_w, i32_w]
        rfl
      refine one_ (i := 5) (N := some 15) #[true, true, true, true, true, true, true, true, false, false, false, true, false] rfl rfl (by kernel_rfl) (by decide) (fun K hK => ?_)
      refine goes_ Try.func38 (by kernel_rfl) rfl #[.slice (cutA A c 6) 6 (c - 6)] (by rfl) rfl rfl (by simp only [List.map_toArray, List.map_cons, List.map_nil]; rfl) ?_
      refine HD.call0 (RefNum_calls _ (cutA A c 6) 6 (c - 6) ((bs.drop 6).take 6) (HD.data C6.out) (by omega)) ?_
      rintro v l1 w3 ⟨hv, rfl⟩ H3
      rw [hS.out] at hv
      subst hv
      replace HD := H3
      clear H3
      refine ⟨_, rfl, ?_⟩
      refine hK.out _ _ (HD.only) (fun hHeld => ?_)
      clear hK K
      refine norm_ (a' := ?_) ?_ ?_
      rotate_left
      · show Act.put _ (some 15) _ = _
        simp only [Act.put, List.setIfInBounds_toArray, List.set_cons_zero, List.set_cons_succ, i64_w, i32_w]
        rfl
      refine one_ (i := 8) (N := some 18) #[true, true, true, true, true, true, true, true, true, false, false, true, false] rfl rfl (by kernel_rfl) (by decide) (fun K hK => ?_)
      refine goes_ Try.func38 (by kernel_rfl) rfl #[.slice (cutA A c 12) 2 (c - 12)] (by rfl) rfl rfl (by simp only [List.map_toArray, List.map_cons, List.map_nil]; rfl) ?_
      refine HD.call0 (RefNum_calls _ (cutA A c 12) 2 (c - 12) ((bs.drop 12).take 2) (HD.data C12.out) (by omega)) ?_
      rintro v l1 w3 ⟨hv, rfl⟩ H3
      rw [hKK.out] at hv
      subst hv
      replace HD := H3
      clear H3
      refine ⟨_, rfl, ?_⟩
      refine hK.out _ _ (HD.only) (fun hHeld => ?_)
      clear hK K
      refine norm_ (a' := ?_) ?_ ?_
      rotate_left
      · show Act.put _ (some 18) _ = _
        simp only [Act.put, List.setIfInBounds_toArray, List.set_cons_zero, List.set_cons_succ, i64_w, i32_w]
        rfl
      refine pure_ (i := 9) (N := some 19) (v := ?_) (a' := ?_) #[true, true, true, true, true, true, true, true, true, true, false, true, false] rfl rfl (by kernel_rfl) (fun _ _ _ h => h) (Or.inl ⟨by rfl, ?_⟩) ?_ ?_
      rotate_left
      · intro w'
        go_simp
        with_reducible rfl
      rotate_left
      · simp only [Act.put, List.setIfInBounds_toArray, List.set_cons_zero, List.set_cons_succ, i64_w, i32_w]
        rfl
      refine pure_ (i := 10) (N := some 20) (v := ?_) (a' := ?_) #[true, true, true, true, true, true, true, true, true, true, true, true, false] rfl rfl (by kernel_rfl) (fun _ _ _ h => h) (Or.inl ⟨by rfl, ?_⟩) ?_ ?_
      rotate_left
      · intro w'
        go_simp
        with_reducible rfl
      rotate_left
      · simp only [Act.put, List.setIfInBounds_toArray, List.set_cons_zero, List.set_cons_succ, i64_w, i32_w]
        rfl
      refine last_ (i := 12) (N := none) #[true, true, true, true, true, true, true, true, true, true, true, true, true] rfl rfl (by kernel_rfl) (by decide) (fun K hK => ?_)
      refine step_ (by rfl) rfl (HD.store 27 (.tmp 4) (.tmp 20) rfl rfl (by repeat (first | exact Pick.here _ | apply Pick.there)) (by first | (go_simp; done) | (go_simp; rfl)) _ rfl info27s (by simp [Value.oneCell', Value.cells]) (by simp [Value.cells]) rfl) ?_
      rintro _ w5 ⟨rfl, H5⟩
      simp only [putsAt, Value.cells, List.setIfInBounds_toArray, List.set_cons_zero, List.set_cons_succ, List.toList_toArray] at H5
      replace HD := H5
      clear H5
      refine hK.out _ _ ?_
      clear hK K
      refine done_ (by kernel_rfl) ?_
      replace H := HD
      clear HD hHeld
      go_wp2_with (first | ((with_reducible refine gate_dst (N := 2) rfl ?_); refine ev_ rfl (H.new (cs := #[.int .u64 0, .int .u64 0, .int .u16 0, .slice none 0 0]) (t := 27) (by first | (go_simp; done) | (go_simp; rfl))) ?_; rintro _ w1 ⟨g2, rfl, H1⟩; replace H := H1; clear H1) | ((with_reducible refine gate_store (p := 2) rfl ?_); refine ev_ rfl (H.store 27 (.tmp 2) (.tmp 9) rfl rfl (by repeat (first | exact Pick.here _ | apply Pick.there)) (by first | (go_simp; done) | (go_simp; rfl)) _ rfl info27s (by simp [Value.oneCell', Value.cells]) (by simp [Value.cells]) rfl) ?_; rintro _ w1 ⟨rfl, H1⟩; (try simp only [putsAt, Value.cells, List.setIfInBounds_toArray, List.set_cons_zero, List.set_cons_succ, List.toList_toArray] at H1); replace H := H1; clear H1) | ((with_reducible refine gate_dst (N := 24) rfl ?_); refine Kd.event_run rfl (H.load1 24 (.tmp 23) rfl rfl (by repeat (first | exact Pick.here _ | apply Pick.there)) Try.underlying24 rfl rfl) ?_) | ((with_reducible refine gate_dst (N := 29) rfl ?_); refine Kd.event_run rfl (H.load1 24 (.tmp 28) rfl rfl (by repeat (first | exact Pick.here _ | apply Pick.there)) Try.underlying24 rfl rfl) ?_) | ((with_reducible refine gate_store (p := 2) rfl ?_); refine ev_ rfl (H.store 27 (.tmp 2) (.tmp 32) rfl rfl (by repeat (first | exact Pick.here _ | apply Pick.there)) (by first | (go_simp; done) | (go_simp; rfl)) _ rfl info27s (by simp [Value.oneCell', Value.cells]) (by simp [Value.cells]) rfl) ?_; rintro _ w1 ⟨rfl, H1⟩; (try simp only [putsAt, Value.cells, List.setIfInBounds_toArray, List.set_cons_zero, List.set_cons_succ, List.toList_toArray] at H1); replace H := H1; clear H1) | ((with_reducible refine gate_dst (N := 42) rfl ?_); refine Kd.event_run rfl (H.loadN 27 (.tmp 4) rfl rfl (by repeat (first | exact Pick.here _ | apply Pick.there)) #[.int .u64 t, .int .u64 s, .int .u16 (k : Int), .slice A5 (bs.length - 14) c5] Try.underlying27 rfl info27s (fun j u hj => by simpa using hj)) ?_) | ((with_reducible refine gate_store (p := 2) rfl ?_); refine ev_ rfl (H.store 27 (.tmp 2) (.tmp 42) rfl rfl (by repeat (first | exact Pick.here _ | apply Pick.there)) (by first | (go_simp; done) | (go_simp; rfl)) _ rfl info27s (by simp [Value.oneCell', Value.cells]) (by simp [Value.cells]) rfl) ?_; rintro _ w1 ⟨rfl, H1⟩; (try simp only [putsAt, Value.cells, List.setIfInBounds_toArray, List.set_cons_zero, List.set_cons_succ, List.toList_toArray] at H1); replace H := H1; clear H1) | ((with_reducible refine gate_dst (N := 44) rfl ?_); refine Kd.event_run rfl (H.load1 24 (.tmp 43) rfl rfl (by repeat (first | exact Pick.here _ | apply Pick.there)) Try.underlying24 rfl rfl) ?_) | ((with_reducible refine gate_store (p := 2) rfl ?_); refine ev_ rfl (H.store 27 (.tmp 2) (.tmp 46) rfl rfl (by repeat (first | exact Pick.here _ | apply Pick.there)) (by first | (go_simp; done) | (go_simp; rfl)) _ rfl info27s (by simp [Value.oneCell', Value.cells]) (by simp [Value.cells]) rfl) ?_; rintro _ w1 ⟨rfl, H1⟩; (try simp only [putsAt, Value.cells, List.setIfInBounds_toArray, List.set_cons_zero, List.set_cons_succ, List.toList_toArray] at H1); replace H := H1; clear H1) | ((with_reducible refine gate_store (p := 2) rfl ?_); refine ev_ rfl (H.store 27 (.tmp 2) (.tmp 50) rfl rfl (by repeat (first | exact Pick.here _ | apply Pick.there)) (by first | (go_simp; done) | (go_simp; rfl)) _ rfl info27s (by simp [Value.oneCell', Value.cells]) (by simp [Value.cells]) rfl) ?_; rintro _ w1 ⟨rfl, H1⟩; (try simp only [putsAt, Value.cells, List.setIfInBounds_toArray, List.set_cons_zero, List.set_cons_succ, List.toList_toArray] at H1); replace H := H1; clear H1) | ((with_reducible refine gate_dst (N := 52) rfl ?_); refine Kd.event_run rfl (H.load1 25 (.tmp 51) rfl rfl (by repeat (first | exact Pick.here _ | apply Pick.there)) Try.underlying25 rfl rfl) ?_) | ((with_reducible refine gate_store (p := 55) rfl ?_); refine ev_ rfl (H.store 25 (.tmp 55) (.tmp 54) rfl rfl (by repeat (first | exact Pick.here _ | apply Pick.there)) (by first | (go_simp; done) | (go_simp; rfl)) _ rfl info25s (by simp [Value.oneCell', Value.cells]) (by simp [Value.cells]) rfl) ?_; rintro _ w1 ⟨rfl, H1⟩; (try simp only [putsAt, Value.cells, List.setIfInBounds_toArray, List.set_cons_zero, List.set_cons_succ, List.toList_toArray] at H1); replace H := H1; clear H1) | ((with_reducible refine gate_dst (N := 56) rfl ?_); refine Kd.event_run rfl (H.loadN 27 (.tmp 4) rfl rfl (by repeat (first | exact Pick.here _ | apply Pick.there)) #[.int .u64 t, .int .u64 s, .int .u16 (k : Int), .slice A5 (bs.length - 14) c5] Try.underlying27 rfl info27s (fun j u hj => by simpa using hj)) ?_) | ((with_reducible refine gate_store (p := 2) rfl ?_); refine ev_ rfl (H.store 27 (.tmp 2) (.tmp 56) rfl rfl (by repeat (first | exact Pick.here _ | apply Pick.there)) (by first | (go_simp; done) | (go_simp; rfl)) _ rfl info27s (by simp [Value.oneCell', Value.cells]) (by simp [Value.cells]) rfl) ?_; rintro _ w1 ⟨rfl, H1⟩; (try simp only [putsAt, Value.cells, List.setIfInBounds_toArray, List.set_cons_zero, List.set_cons_succ, List.toList_toArray] at H1); replace H := H1; clear H1) | ((with_reducible refine gate_dst (N := 22) rfl ?_); refine Kd.event_run rfl (v := .slice (cutA A c 14) (bs.length - 14) (c - 14)) (w1 := _) (run_cut (t := 25) (e := 5) (j := 14) rfl rfl rfl Try.underlying25 info5s (by omega) _) ?_) | ((with_reducible refine gate_dst (N := 54) rfl ?_); refine ev_ rfl ((H.nil_row (Kd.int .u8) 5).appendS (.tmp 52) (.tmp 53) 25 (.int .u8 0) 1 rfl rfl (.here _) Try.underlying25 info5 rfl (by decide) rfl (H.data C14.out) (by simp; omega)) ?_; rintro v6 w6 H6; simp only [List.nil_append] at H6; have hdl : (bs.drop 14).length = bs.length - 14 := List.length_drop; obtain ⟨A5, c5, hv, hc5, HC5⟩ := H6.reads (.here _); rw [hdl] at hv; subst hv; replace H := H6; clear hc5 HC5 hdl H6))
      refine bodyPost_ret (H.ret_ct (p := 2) (u := 3) rfl (.here _) rfl Try.underlying27 rfl info27s) rfl ⟨_, _, rfl, ⟨_, rfl, rfl⟩, ?_⟩
      exact H.take (.cons (by repeat (first | exact Pick.here _ | apply Pick.there)) (.nil _))
  · skip
    refine step_ (by rfl) rfl (HD.new (cs := #[.int .u64 0, .int .u64 0, .int .u16 0, .slice none 0 0]) (t := 27) (by first | (go_simp; done) | (go_simp; rfl))) ?_
    rintro _ w4 ⟨g4, rfl, H4⟩
    replace HD := H4
    clear H4
    refine hK.out _ _ (HD.only) (fun hHeld => ?_)
    clear hK K
    refine norm_ (a' := ?_) ?_ ?_
    rotate_left
    · show Act.put _ (some 4) _ = _
      simp only [Act.put, List.setIfInBounds_toArray, List.set_cons_zero, List.set_cons_succ, i64_w, i32_w]
      rfl
    refine one_ (i := 2) (N := some 12) #[true, true, true, true, true, false, true, true, false, false, false, true, false] rfl rfl (by kernel_rfl) (by decide) (fun K hK => ?_)
    refine goes_ Try.func38 (by kernel_rfl) rfl #[.slice A 6 c] (by rfl) rfl rfl (by simp only [List.map_toArray, List.map_cons, List.map_nil]; rfl) ?_
    refine HD.call0 (RefNum_calls _ A 6 c (bs.take 6) (HD.data C0.out) (by omega)) ?_
    rintro v l1 w3 ⟨hv, rfl⟩ H3
    rw [hT.out] at hv
    subst hv
    replace HD := H3
    clear H3
    refine ⟨_, rfl, ?_⟩
    refine hK.out _ _ (HD.only) (fun hHeld => ?_)
    clear hK K
    refine norm_ (a' := ?_) ?_ ?_
    rotate_left
    · show Act.put _ (some 12) _ = _
      simp only [Act.put, List.setIfInBounds_toArray, List.set_cons_zero, List.set_cons_succ, i64_w, i32_w]
      rfl
    refine one_ (i := 5) (N := some 15) #[true, true, true, true, true, true, true, true, false, false, false, true, false] rfl rfl (by kernel_rfl) (by decide) (fun K hK => ?_)
    refine goes_ Try.func38 (by kernel_rfl) rfl #[.slice (cutA A c 6) 6 (c - 6)] (by rfl) rfl rfl (by simp only [List.map_toArray, List.map_cons, List.map_nil]; rfl) ?_
    refine HD.call0 (RefNum_calls _ (cutA A c 6) 6 (c - 6) ((bs.drop 6).take 6) (HD.data C6.out) (by omega)) ?_
    rintro v l1 w3 ⟨hv, rfl⟩ H3
    rw [hS.out] at hv
    subst hv
    replace HD := H3
    clear H3
    refine ⟨_, rfl, ?_⟩
    refine hK.out _ _ (HD.only) (fun hHeld => ?_)
    clear hK K
    refine norm_ (a' := ?_) ?_ ?_
    rotate_left
    · show Act.put _ (some 15) _ = _
      simp only [Act.put, List.setIfInBounds_toArray, List.set_cons_zero, List.set_cons_succ, i64_w, i32_w]
      rfl
    refine one_ (i := 8) (N := some 18) #[true, true, true, true, true, true, true, true, true, false, false, true, false] rfl rfl (by kernel_rfl) (by decide) (fun K hK => ?_)
    refine goes_ Try.func38 (by kernel_rfl) rfl #[.slice (cutA A c 12) 2 (c - 12)] (by rfl) rfl rfl (by simp only [List.map_toArray, List.map_cons, List.map_nil]; rfl) ?_
    refine HD.call0 (RefNum_calls _ (cutA A c 12) 2 (c - 12) ((bs.drop 12).take 2) (HD.data C12.out) (by omega)) ?_
    rintro v l1 w3 ⟨hv, rfl⟩ H3
    rw [hKK.out] at hv
    subst hv
    replace HD := H3
    clear H3
    refine ⟨_, rfl, ?_⟩
    refine hK.out _ _ (HD.only) (fun hHeld => ?_)
    clear hK K
    refine norm_ (a' := ?_) ?_ ?_
    rotate_left
    · show Act.put _ (some 18) _ = _
      simp only [Act.put, List.setIfInBounds_toArray, List.set_cons_zero, List.set_cons_succ, i64_w, i32_w]
      rfl
    refine pure_ (i := 9) (N := some 19) (v := ?_) (a' := ?_) #[true, true, true, true, true, true, true, true, true, true, false, true, false] rfl rfl (by kernel_rfl) (fun _ _ _ h => h) (Or.inl ⟨by rfl, ?_⟩) ?_ ?_
    rotate_left
    · intro w'
      go_simp
      with_reducible rfl
    rotate_left
    · simp only [Act.put, List.setIfInBounds_toArray, List.set_cons_zero, List.set_cons_succ, i64_w, i32_w]
      rfl
    refine pure_ (i := 10) (N := some 20) (v := ?_) (a' := ?_) #[true, true, true, true, true, true, true, true, true, true, true, true, false] rfl rfl (by kernel_rfl) (fun _ _ _ h => h) (Or.inl ⟨by rfl, ?_⟩) ?_ ?_
    rotate_left
    · intro w'
      go_simp
      with_reducible rfl
    rotate_left
    · simp only [Act.put, List.setIfInBounds_toArray, List.set_cons_zero, List.set_cons_succ, i64_w, i32_w]
      rfl
    refine last_ (i := 12) (N := none) #[true, true, true, true, true, true, true, true, true, true, true, true, true] rfl rfl (by kernel_rfl) (by decide) (fun K hK => ?_)
    refine step_ (by rfl) rfl (HD.store 27 (.tmp 4) (.tmp 20) rfl rfl (by repeat (first | exact Pick.here _ | apply Pick.there)) (by first | (go_simp; done) | (go_simp; rfl)) _ rfl info27s (by simp [Value.oneCell', Value.cells]) (by simp [Value.cells]) rfl) ?_
    rintro _ w5 ⟨rfl, H5⟩
    simp only [putsAt, Value.cells, List.setIfInBounds_toArray, List.set_cons_zero, List.set_cons_succ, List.toList_toArray] at H5
    replace HD := H5
    clear H5
    refine hK.out _ _ ?_
    clear hK K
    refine done_ (by kernel_rfl) ?_
    replace H := HD
    clear HD hHeld
    go_wp2_with (first | ((with_reducible refine gate_dst (N := 2) rfl ?_); refine ev_ rfl (H.new (cs := #[.int .u64 0, .int .u64 0, .int .u16 0, .slice none 0 0]) (t := 27) (by first | (go_simp; done) | (go_simp; rfl))) ?_; rintro _ w1 ⟨g2, rfl, H1⟩; replace H := H1; clear H1) | ((with_reducible refine gate_store (p := 2) rfl ?_); refine ev_ rfl (H.store 27 (.tmp 2) (.tmp 9) rfl rfl (by repeat (first | exact Pick.here _ | apply Pick.there)) (by first | (go_simp; done) | (go_simp; rfl)) _ rfl info27s (by simp [Value.oneCell', Value.cells]) (by simp [Value.cells]) rfl) ?_; rintro _ w1 ⟨rfl, H1⟩; (try simp only [putsAt, Value.cells, List.setIfInBounds_toArray, List.set_cons_zero, List.set_cons_succ, List.toList_toArray] at H1); replace H := H1; clear H1) | ((with_reducible refine gate_dst (N := 24) rfl ?_); refine Kd.event_run rfl (H.load1 24 (.tmp 23) rfl rfl (by repeat (first | exact Pick.here _ | apply Pick.there)) Try.underlying24 rfl rfl) ?_) | ((with_reducible refine gate_dst (N := 29) rfl ?_); refine Kd.event_run rfl (H.load1 24 (.tmp 28) rfl rfl (by repeat (first | exact Pick.here _ | apply Pick.there)) Try.underlying24 rfl rfl) ?_) | ((with_reducible refine gate_store (p := 2) rfl ?_); refine ev_ rfl (H.store 27 (.tmp 2) (.tmp 32) rfl rfl (by repeat (first | exact Pick.here _ | apply Pick.there)) (by first | (go_simp; done) | (go_simp; rfl)) _ rfl info27s (by simp [Value.oneCell', Value.cells]) (by simp [Value.cells]) rfl) ?_; rintro _ w1 ⟨rfl, H1⟩; (try simp only [putsAt, Value.cells, List.setIfInBounds_toArray, List.set_cons_zero, List.set_cons_succ, List.toList_toArray] at H1); replace H := H1; clear H1) | ((with_reducible refine gate_dst (N := 42) rfl ?_); refine Kd.event_run rfl (H.loadN 27 (.tmp 4) rfl rfl (by repeat (first | exact Pick.here _ | apply Pick.there)) #[.int .u64 t, .int .u64 s, .int .u16 (k : Int), .slice A5 (bs.length - 14) c5] Try.underlying27 rfl info27s (fun j u hj => by simpa using hj)) ?_) | ((with_reducible refine gate_store (p := 2) rfl ?_); refine ev_ rfl (H.store 27 (.tmp 2) (.tmp 42) rfl rfl (by repeat (first | exact Pick.here _ | apply Pick.there)) (by first | (go_simp; done) | (go_simp; rfl)) _ rfl info27s (by simp [Value.oneCell', Value.cells]) (by simp [Value.cells]) rfl) ?_; rintro _ w1 ⟨rfl, H1⟩; (try simp only [putsAt, Value.cells, List.setIfInBounds_toArray, List.set_cons_zero, List.set_cons_succ, List.toList_toArray] at H1); replace H := H1; clear H1) | ((with_reducible refine gate_dst (N := 44) rfl ?_); refine Kd.event_run rfl (H.load1 24 (.tmp 43) rfl rfl (by repeat (first | exact Pick.here _ | apply Pick.there)) Try.underlying24 rfl rfl) ?_) | ((with_reducible refine gate_store (p := 2) rfl ?_); refine ev_ rfl (H.store 27 (.tmp 2) (.tmp 46) rfl rfl (by repeat (first | exact Pick.here _ | apply Pick.there)) (by first | (go_simp; done) | (go_simp; rfl)) _ rfl info27s (by simp [Value.oneCell', Value.cells]) (by simp [Value.cells]) rfl) ?_; rintro _ w1 ⟨rfl, H1⟩; (try simp only [putsAt, Value.cells, List.setIfInBounds_toArray, List.set_cons_zero, List.set_cons_succ, List.toList_toArray] at H1); replace H := H1; clear H1) | ((with_reducible refine gate_store (p := 2) rfl ?_); refine ev_ rfl (H.store 27 (.tmp 2) (.tmp 50) rfl rfl (by repeat (first | exact Pick.here _ | apply Pick.there)) (by first | (go_simp; done) | (go_simp; rfl)) _ rfl info27s (by simp [Value.oneCell', Value.cells]) (by simp [Value.cells]) rfl) ?_; rintro _ w1 ⟨rfl, H1⟩; (try simp only [putsAt, Value.cells, List.setIfInBounds_toArray, List.set_cons_zero, List.set_cons_succ, List.toList_toArray] at H1); replace H := H1; clear H1) | ((with_reducible refine gate_dst (N := 52) rfl ?_); refine Kd.event_run rfl (H.load1 25 (.tmp 51) rfl rfl (by repeat (first | exact Pick.here _ | apply Pick.there)) Try.underlying25 rfl rfl) ?_) | ((with_reducible refine gate_store (p := 55) rfl ?_); refine ev_ rfl (H.store 25 (.tmp 55) (.tmp 54) rfl rfl (by repeat (first | exact Pick.here _ | apply Pick.there)) (by first | (go_simp; done) | (go_simp; rfl)) _ rfl info25s (by simp [Value.oneCell', Value.cells]) (by simp [Value.cells]) rfl) ?_; rintro _ w1 ⟨rfl, H1⟩; (try simp only [putsAt, Value.cells, List.setIfInBounds_toArray, List.set_cons_zero, List.set_cons_succ, List.toList_toArray] at H1); replace H := H1; clear H1) | ((with_reducible refine gate_dst (N := 56) rfl ?_); refine Kd.event_run rfl (H.loadN 27 (.tmp 4) rfl rfl (by repeat (first | exact Pick.here _ | apply Pick.there)) #[.int .u64 t, .int .u64 s, .int .u16 (k : Int), .slice A5 (bs.length - 14) c5] Try.underlying27 rfl info27s (fun j u hj => by simpa using hj)) ?_) | ((with_reducible refine gate_store (p := 2) rfl ?_); refine ev_ rfl (H.store 27 (.tmp 2) (.tmp 56) rfl rfl (by repeat (first | exact Pick.here _ | apply Pick.there)) (by first | (go_simp; done) | (go_simp; rfl)) _ rfl info27s (by simp [Value.oneCell', Value.cells]) (by simp [Value.cells]) rfl) ?_; rintro _ w1 ⟨rfl, H1⟩; (try simp only [putsAt, Value.cells, List.setIfInBounds_toArray, List.set_cons_zero, List.set_cons_succ, List.toList_toArray] at H1); replace H := H1; clear H1) | ((with_reducible refine gate_dst (N := 22) rfl ?_); refine Kd.event_run rfl (v := .slice (cutA A c 14) (bs.length - 14) (c - 14)) (w1 := _) (run_cut (t := 25) (e := 5) (j := 14) rfl rfl rfl Try.underlying25 info5s (by omega) _) ?_) | ((with_reducible refine gate_dst (N := 54) rfl ?_); refine ev_ rfl ((H.nil_row (Kd.int .u8) 5).appendS (.tmp 52) (.tmp 53) 25 (.int .u8 0) 1 rfl rfl (.here _) Try.underlying25 info5 rfl (by decide) rfl (H.data C14.out) (by simp; omega)) ?_; rintro v6 w6 H6; simp only [List.nil_append] at H6; have hdl : (bs.drop 14).length = bs.length - 14 := List.length_drop; obtain ⟨A5, c5, hv, hc5, HC5⟩ := H6.reads (.here _); rw [hdl] at hv; subst hv; replace H := H6; clear hc5 HC5 hdl H6))
    refine bodyPost_ret (H.ret_ct (p := 2) (u := 3) rfl (.here _) rfl Try.underlying27 rfl info27s) rfl ⟨_, _, rfl, ⟨_, rfl, rfl⟩, ?_⟩
    exact H.take (.cons (by repeat (first | exact Pick.here _ | apply Pick.there)) (.nil _))

end Go.Proofs.Ytdmlpcbmmdddbaa.Frame
