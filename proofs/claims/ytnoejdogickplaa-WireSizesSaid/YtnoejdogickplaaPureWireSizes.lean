/- For all arguments the law WireSizes answers true: a number takes just so many bytes; of one that fits they tell it. -/
import Derived.Test.YtnoejdogickplaaWire
import Derived.Test.YtnoejdogickplaaSepB
namespace Go.Proofs.Ytnoejdogickplaa.Pure
open Go.RowKit Go.Proofs.YtnoejdogickplaaW.PrintWords Go.Proofs.YtnoejdogickplaaW.PrintLast Go.Proofs.YtnoejdogickplaaW.PrintMore Go.Proofs.Ytnoejdogickplaa.Sep Go.Proofs.Ytnoejdogickplaa.PWireBack Go.Proofs.Ytnoejdogickplaa.Wire
set_option linter.unusedVariables false
set_option linter.unusedSimpArgs false
set_option maxHeartbeats 8000000 in
set_option maxRecDepth 100000 in
theorem Sizes_b (w : World) (A : Option Addr) (n c : Nat) (bs : List Int) (x s : Int) (hb : (Kd.int .u8).C w A n bs) (hc : n ≤ c) (h : 600 < n) :
    Calls Try.prog 10 #[.slice A n c, .int .u64 x, .int .u8 s] w (fun e w' => e = .returned (.bool true) ∧ Below w.heap.size w w') := by
  obtain ⟨ka, ha⟩ := awake_true
  replace ha := Aside0.mk ha
  have H := Hp.nothing w
  have c1 : decide (600 < (n : Int)) = true := decide_eq_true (by omega)
  have c1' : decide (600 < n) = true := decide_eq_true h
  clear hb hc h
  go_enter Try.func10, Try.ntmps10
  go_wp2_with (first | (go_at_call 23; refine H.call1 (treelinelaw03_awake.calls ka true _ ha.out) ?_; intro w1 H1; replace H := H1))
  go_ret
  exact ⟨rfl, H.below⟩

set_option maxHeartbeats 8000000 in
set_option maxRecDepth 100000 in
theorem Sizes_0 (w : World) (A : Option Addr) (n c : Nat) (bs : List Int) (x s : Int) (hb : (Kd.int .u8).C w A n bs) (hc : n ≤ c) (h : n ≤ 600) (x0 : 0 ≤ x) (x1 : x < 18446744073709551616) (s0 : 0 ≤ s) (s1 : s ≤ 255) (hs : s % 20 = (0 : Int)) :
    Calls Try.prog 10 #[.slice A n c, .int .u64 x, .int .u8 s] w (fun e w' => e = .returned (.bool true) ∧ Below w.heap.size w w') := by
  obtain ⟨ka, ha⟩ := awake_true
  replace ha := Aside0.mk ha
  have H := Hp.nothing w
  obtain rfl : bs.length = n := hb.1
  have hq : numL (putL x (0 : Nat)) = x % 1 := by
    rw [num_put x x0 x1]
    rw [if_pos (by decide)]; rfl
  have hs2 : Int.tmod s 20 = (0 : Int) := by rw [Int.tmod_eq_emod_of_nonneg s0]; exact hs
  replace hb := Aside0.mk hb
  replace hc := Aside0.mk hc
  replace hq := Aside0.mk hq
  have hh := Aside0.mk h
  have X0 := Aside0.mk x0
  have X1 := Aside0.mk x1
  have c1 : decide (600 < (bs.length : Int)) = false := decide_eq_false (by omega)
  have c1' : decide (600 < bs.length) = false := decide_eq_false (by omega)
  clear x1
  go_enter Try.func10, Try.ntmps10
  go_wp2_with (first | (go_at_call 23; refine H.call1 (treelinelaw03_awake.calls ka true _ ha.out) ?_; intro w1 H1; replace H := H1) | (go_at_call 27; refine H.call0 (Put64_calls _ A bs.length c bs (H.data hb.out) hc.out (by have := hh.out; omega) x (0 : Nat) (by omega)) ?_; rintro v l1 w2 rfl H1; obtain ⟨A4, c4, hv, hc4, HC4⟩ := H1.reads (.here _); have hlen : (bs ++ putL x (0 : Nat)).length = bs.length + (0 : Nat) := (by rw [List.length_append, putL_length]); rw [hlen] at hv hc4 HC4; subst hv; replace H := H1; replace hc4 := Aside0.mk hc4; have HX := C_cutS (h1 := fun _ => rfl) HC4 bs.length (by omega) hc4.out; rw [List.drop_left, Nat.add_sub_cancel_left] at HX; replace HX := Aside0.mk HX; clear hlen HC4) | ((with_reducible refine gate_dst (N := 36) rfl ?_); refine Kd.event_run rfl (v := .slice (cutA A4 c4 bs.length) (0 : Nat) (c4 - bs.length)) (w1 := _) ((run_cut (t := 48) (e := 5) (n := bs.length + (0 : Nat)) (j := bs.length) rfl rfl rfl Try.underlying48 info5s (by omega) _).trans (by rw [Nat.add_sub_cancel_left])) ?_) | (go_at_call 24; refine H.call0 (New_calls _ _ (0 : Nat) _ (putL x (0 : Nat)) HX.out (by omega)) ?_; rintro v l1 w3 ⟨g, rfl, rfl⟩ H1; replace H := H1.take (p := [reader g (putL x (0 : Nat)) 0 false]) (.cons (.here _) (.nil _)); clear H1 HX) | (go_at_call 29; refine H.call (.cons (.here _) (.nil _)) (fun G hG hGl => Num_yes _ g _ 0 (0 : Nat) G hG hGl (by rw [putL_length]; omega) (by rw [putL_length]; omega)) ?_; rintro v l1 w4 ⟨rfl, rfl⟩ H1; rw [List.drop_zero, List.take_of_length_le (by rw [putL_length]; omega), hq.out]; replace H := H1) | (go_at_call 30; refine H.call (.cons (.here _) (.nil _)) (fun G hG hGl => Short_calls _ g _ _ false G hG hGl) ?_; rintro v l1 w5 ⟨rfl, rfl⟩ H1; replace H := H1) | (go_at_call 25; refine H.call (.cons (.here _) (.nil _)) (fun G hG hGl => Rest_calls _ g _ _ false G hG hGl (by rw [putL_length]; omega) (by rw [putL_length]; omega)) ?_; rintro v l1 w6 rfl H1; rw [List.drop_of_length_le (by rw [putL_length]; omega)] at H1; obtain ⟨A6, c6, rfl, hc6, HC6⟩ := H1.reads (.here _); replace H := H1; clear HC6 hc6))
  go_ret
  exact ⟨rfl, H.below⟩

set_option maxHeartbeats 8000000 in
set_option maxRecDepth 100000 in
theorem Sizes_1 (w : World) (A : Option Addr) (n c : Nat) (bs : List Int) (x s : Int) (hb : (Kd.int .u8).C w A n bs) (hc : n ≤ c) (h : n ≤ 600) (x0 : 0 ≤ x) (x1 : x < 18446744073709551616) (s0 : 0 ≤ s) (s1 : s ≤ 255) (hs : s % 20 = (1 : Int)) :
    Calls Try.prog 10 #[.slice A n c, .int .u64 x, .int .u8 s] w (fun e w' => e = .returned (.bool true) ∧ Below w.heap.size w w') := by
  obtain ⟨ka, ha⟩ := awake_true
  replace ha := Aside0.mk ha
  have H := Hp.nothing w
  obtain rfl : bs.length = n := hb.1
  have hq : numL (putL x (1 : Nat)) = x % 256 := by
    rw [num_put x x0 x1]
    rw [if_pos (by decide)]; rfl
  have hs2 : Int.tmod s 20 = (1 : Int) := by rw [Int.tmod_eq_emod_of_nonneg s0]; exact hs
  replace hb := Aside0.mk hb
  replace hc := Aside0.mk hc
  replace hq := Aside0.mk hq
  have hh := Aside0.mk h
  have X0 := Aside0.mk x0
  have X1 := Aside0.mk x1
  have c1 : decide (600 < (bs.length : Int)) = false := decide_eq_false (by omega)
  have c1' : decide (600 < bs.length) = false := decide_eq_false (by omega)
  clear x1
  go_enter Try.func10, Try.ntmps10
  go_wp2_with (first | (go_at_call 23; refine H.call1 (treelinelaw03_awake.calls ka true _ ha.out) ?_; intro w1 H1; replace H := H1) | (go_at_call 27; refine H.call0 (Put64_calls _ A bs.length c bs (H.data hb.out) hc.out (by have := hh.out; omega) x (1 : Nat) (by omega)) ?_; rintro v l1 w2 rfl H1; obtain ⟨A4, c4, hv, hc4, HC4⟩ := H1.reads (.here _); have hlen : (bs ++ putL x (1 : Nat)).length = bs.length + (1 : Nat) := (by rw [List.length_append, putL_length]); rw [hlen] at hv hc4 HC4; subst hv; replace H := H1; replace hc4 := Aside0.mk hc4; have HX := C_cutS (h1 := fun _ => rfl) HC4 bs.length (by omega) hc4.out; rw [List.drop_left, Nat.add_sub_cancel_left] at HX; replace HX := Aside0.mk HX; clear hlen HC4) | ((with_reducible refine gate_dst (N := 36) rfl ?_); refine Kd.event_run rfl (v := .slice (cutA A4 c4 bs.length) (1 : Nat) (c4 - bs.length)) (w1 := _) ((run_cut (t := 48) (e := 5) (n := bs.length + (1 : Nat)) (j := bs.length) rfl rfl rfl Try.underlying48 info5s (by omega) _).trans (by rw [Nat.add_sub_cancel_left])) ?_) | (go_at_call 24; refine H.call0 (New_calls _ _ (1 : Nat) _ (putL x (1 : Nat)) HX.out (by omega)) ?_; rintro v l1 w3 ⟨g, rfl, rfl⟩ H1; replace H := H1.take (p := [reader g (putL x (1 : Nat)) 0 false]) (.cons (.here _) (.nil _)); clear H1 HX) | (go_at_call 29; refine H.call (.cons (.here _) (.nil _)) (fun G hG hGl => Num_yes _ g _ 0 (1 : Nat) G hG hGl (by rw [putL_length]; omega) (by rw [putL_length]; omega)) ?_; rintro v l1 w4 ⟨rfl, rfl⟩ H1; rw [List.drop_zero, List.take_of_length_le (by rw [putL_length]; omega), hq.out]; replace H := H1) | (go_at_call 30; refine H.call (.cons (.here _) (.nil _)) (fun G hG hGl => Short_calls _ g _ _ false G hG hGl) ?_; rintro v l1 w5 ⟨rfl, rfl⟩ H1; replace H := H1) | (go_at_call 25; refine H.call (.cons (.here _) (.nil _)) (fun G hG hGl => Rest_calls _ g _ _ false G hG hGl (by rw [putL_length]; omega) (by rw [putL_length]; omega)) ?_; rintro v l1 w6 rfl H1; rw [List.drop_of_length_le (by rw [putL_length]; omega)] at H1; obtain ⟨A6, c6, rfl, hc6, HC6⟩ := H1.reads (.here _); replace H := H1; clear HC6 hc6))
  go_ret
  exact ⟨rfl, H.below⟩

set_option maxHeartbeats 8000000 in
set_option maxRecDepth 100000 in
theorem Sizes_2 (w : World) (A : Option Addr) (n c : Nat) (bs : List Int) (x s : Int) (hb : (Kd.int .u8).C w A n bs) (hc : n ≤ c) (h : n ≤ 600) (x0 : 0 ≤ x) (x1 : x < 18446744073709551616) (s0 : 0 ≤ s) (s1 : s ≤ 255) (hs : s % 20 = (2 : Int)) :
    Calls Try.prog 10 #[.slice A n c, .int .u64 x, .int .u8 s] w (fun e w' => e = .returned (.bool true) ∧ Below w.heap.size w w') := by
  obtain ⟨ka, ha⟩ := awake_true
  replace ha := Aside0.mk ha
  have H := Hp.nothing w
  obtain rfl : bs.length = n := hb.1
  have hq : numL (putL x (2 : Nat)) = x % 65536 := by
    rw [num_put x x0 x1]
    rw [if_pos (by decide)]; rfl
  have hs2 : Int.tmod s 20 = (2 : Int) := by rw [Int.tmod_eq_emod_of_nonneg s0]; exact hs
  replace hb := Aside0.mk hb
  replace hc := Aside0.mk hc
  replace hq := Aside0.mk hq
  have hh := Aside0.mk h
  have X0 := Aside0.mk x0
  have X1 := Aside0.mk x1
  have c1 : decide (600 < (bs.length : Int)) = false := decide_eq_false (by omega)
  have c1' : decide (600 < bs.length) = false := decide_eq_false (by omega)
  clear x1
  go_enter Try.func10, Try.ntmps10
  go_wp2_with (first | (go_at_call 23; refine H.call1 (treelinelaw03_awake.calls ka true _ ha.out) ?_; intro w1 H1; replace H := H1) | (go_at_call 27; refine H.call0 (Put64_calls _ A bs.length c bs (H.data hb.out) hc.out (by have := hh.out; omega) x (2 : Nat) (by omega)) ?_; rintro v l1 w2 rfl H1; obtain ⟨A4, c4, hv, hc4, HC4⟩ := H1.reads (.here _); have hlen : (bs ++ putL x (2 : Nat)).length = bs.length + (2 : Nat) := (by rw [List.length_append, putL_length]); rw [hlen] at hv hc4 HC4; subst hv; replace H := H1; replace hc4 := Aside0.mk hc4; have HX := C_cutS (h1 := fun _ => rfl) HC4 bs.length (by omega) hc4.out; rw [List.drop_left, Nat.add_sub_cancel_left] at HX; replace HX := Aside0.mk HX; clear hlen HC4) | ((with_reducible refine gate_dst (N := 36) rfl ?_); refine Kd.event_run rfl (v := .slice (cutA A4 c4 bs.length) (2 : Nat) (c4 - bs.length)) (w1 := _) ((run_cut (t := 48) (e := 5) (n := bs.length + (2 : Nat)) (j := bs.length) rfl rfl rfl Try.underlying48 info5s (by omega) _).trans (by rw [Nat.add_sub_cancel_left])) ?_) | (go_at_call 24; refine H.call0 (New_calls _ _ (2 : Nat) _ (putL x (2 : Nat)) HX.out (by omega)) ?_; rintro v l1 w3 ⟨g, rfl, rfl⟩ H1; replace H := H1.take (p := [reader g (putL x (2 : Nat)) 0 false]) (.cons (.here _) (.nil _)); clear H1 HX) | (go_at_call 29; refine H.call (.cons (.here _) (.nil _)) (fun G hG hGl => Num_yes _ g _ 0 (2 : Nat) G hG hGl (by rw [putL_length]; omega) (by rw [putL_length]; omega)) ?_; rintro v l1 w4 ⟨rfl, rfl⟩ H1; rw [List.drop_zero, List.take_of_length_le (by rw [putL_length]; omega), hq.out]; replace H := H1) | (go_at_call 30; refine H.call (.cons (.here _) (.nil _)) (fun G hG hGl => Short_calls _ g _ _ false G hG hGl) ?_; rintro v l1 w5 ⟨rfl, rfl⟩ H1; replace H := H1) | (go_at_call 25; refine H.call (.cons (.here _) (.nil _)) (fun G hG hGl => Rest_calls _ g _ _ false G hG hGl (by rw [putL_length]; omega) (by rw [putL_length]; omega)) ?_; rintro v l1 w6 rfl H1; rw [List.drop_of_length_le (by rw [putL_length]; omega)] at H1; obtain ⟨A6, c6, rfl, hc6, HC6⟩ := H1.reads (.here _); replace H := H1; clear HC6 hc6))
  go_ret
  exact ⟨rfl, H.below⟩

set_option maxHeartbeats 8000000 in
set_option maxRecDepth 100000 in
theorem Sizes_3 (w : World) (A : Option Addr) (n c : Nat) (bs : List Int) (x s : Int) (hb : (Kd.int .u8).C w A n bs) (hc : n ≤ c) (h : n ≤ 600) (x0 : 0 ≤ x) (x1 : x < 18446744073709551616) (s0 : 0 ≤ s) (s1 : s ≤ 255) (hs : s % 20 = (3 : Int)) :
    Calls Try.prog 10 #[.slice A n c, .int .u64 x, .int .u8 s] w (fun e w' => e = .returned (.bool true) ∧ Below w.heap.size w w') := by
  obtain ⟨ka, ha⟩ := awake_true
  replace ha := Aside0.mk ha
  have H := Hp.nothing w
  obtain rfl : bs.length = n := hb.1
  have hq : numL (putL x (3 : Nat)) = x % 16777216 := by
    rw [num_put x x0 x1]
    rw [if_pos (by decide)]; rfl
  have hs2 : Int.tmod s 20 = (3 : Int) := by rw [Int.tmod_eq_emod_of_nonneg s0]; exact hs
  replace hb := Aside0.mk hb
  replace hc := Aside0.mk hc
  replace hq := Aside0.mk hq
  have hh := Aside0.mk h
  have X0 := Aside0.mk x0
  have X1 := Aside0.mk x1
  have c1 : decide (600 < (bs.length : Int)) = false := decide_eq_false (by omega)
  have c1' : decide (600 < bs.length) = false := decide_eq_false (by omega)
  clear x1
  go_enter Try.func10, Try.ntmps10
  go_wp2_with (first | (go_at_call 23; refine H.call1 (treelinelaw03_awake.calls ka true _ ha.out) ?_; intro w1 H1; replace H := H1) | (go_at_call 27; refine H.call0 (Put64_calls _ A bs.length c bs (H.data hb.out) hc.out (by have := hh.out; omega) x (3 : Nat) (by omega)) ?_; rintro v l1 w2 rfl H1; obtain ⟨A4, c4, hv, hc4, HC4⟩ := H1.reads (.here _); have hlen : (bs ++ putL x (3 : Nat)).length = bs.length + (3 : Nat) := (by rw [List.length_append, putL_length]); rw [hlen] at hv hc4 HC4; subst hv; replace H := H1; replace hc4 := Aside0.mk hc4; have HX := C_cutS (h1 := fun _ => rfl) HC4 bs.length (by omega) hc4.out; rw [List.drop_left, Nat.add_sub_cancel_left] at HX; replace HX := Aside0.mk HX; clear hlen HC4) | ((with_reducible refine gate_dst (N := 36) rfl ?_); refine Kd.event_run rfl (v := .slice (cutA A4 c4 bs.length) (3 : Nat) (c4 - bs.length)) (w1 := _) ((run_cut (t := 48) (e := 5) (n := bs.length + (3 : Nat)) (j := bs.length) rfl rfl rfl Try.underlying48 info5s (by omega) _).trans (by rw [Nat.add_sub_cancel_left])) ?_) | (go_at_call 24; refine H.call0 (New_calls _ _ (3 : Nat) _ (putL x (3 : Nat)) HX.out (by omega)) ?_; rintro v l1 w3 ⟨g, rfl, rfl⟩ H1; replace H := H1.take (p := [reader g (putL x (3 : Nat)) 0 false]) (.cons (.here _) (.nil _)); clear H1 HX) | (go_at_call 29; refine H.call (.cons (.here _) (.nil _)) (fun G hG hGl => Num_yes _ g _ 0 (3 : Nat) G hG hGl (by rw [putL_length]; omega) (by rw [putL_length]; omega)) ?_; rintro v l1 w4 ⟨rfl, rfl⟩ H1; rw [List.drop_zero, List.take_of_length_le (by rw [putL_length]; omega), hq.out]; replace H := H1) | (go_at_call 30; refine H.call (.cons (.here _) (.nil _)) (fun G hG hGl => Short_calls _ g _ _ false G hG hGl) ?_; rintro v l1 w5 ⟨rfl, rfl⟩ H1; replace H := H1) | (go_at_call 25; refine H.call (.cons (.here _) (.nil _)) (fun G hG hGl => Rest_calls _ g _ _ false G hG hGl (by rw [putL_length]; omega) (by rw [putL_length]; omega)) ?_; rintro v l1 w6 rfl H1; rw [List.drop_of_length_le (by rw [putL_length]; omega)] at H1; obtain ⟨A6, c6, rfl, hc6, HC6⟩ := H1.reads (.here _); replace H := H1; clear HC6 hc6))
  go_ret
  exact ⟨rfl, H.below⟩

set_option maxHeartbeats 8000000 in
set_option maxRecDepth 100000 in
theorem Sizes_4 (w : World) (A : Option Addr) (n c : Nat) (bs : List Int) (x s : Int) (hb : (Kd.int .u8).C w A n bs) (hc : n ≤ c) (h : n ≤ 600) (x0 : 0 ≤ x) (x1 : x < 18446744073709551616) (s0 : 0 ≤ s) (s1 : s ≤ 255) (hs : s % 20 = (4 : Int)) :
    Calls Try.prog 10 #[.slice A n c, .int .u64 x, .int .u8 s] w (fun e w' => e = .returned (.bool true) ∧ Below w.heap.size w w') := by
  obtain ⟨ka, ha⟩ := awake_true
  replace ha := Aside0.mk ha
  have H := Hp.nothing w
  obtain rfl : bs.length = n := hb.1
  have hq : numL (putL x (4 : Nat)) = x % 4294967296 := by
    rw [num_put x x0 x1]
    rw [if_pos (by decide)]; rfl
  have hs2 : Int.tmod s 20 = (4 : Int) := by rw [Int.tmod_eq_emod_of_nonneg s0]; exact hs
  replace hb := Aside0.mk hb
  replace hc := Aside0.mk hc
  replace hq := Aside0.mk hq
  have hh := Aside0.mk h
  have X0 := Aside0.mk x0
  have X1 := Aside0.mk x1
  have c1 : decide (600 < (bs.length : Int)) = false := decide_eq_false (by omega)
  have c1' : decide (600 < bs.length) = false := decide_eq_false (by omega)
  clear x1
  go_enter Try.func10, Try.ntmps10
  go_wp2_with (first | (go_at_call 23; refine H.call1 (treelinelaw03_awake.calls ka true _ ha.out) ?_; intro w1 H1; replace H := H1) | (go_at_call 27; refine H.call0 (Put64_calls _ A bs.length c bs (H.data hb.out) hc.out (by have := hh.out; omega) x (4 : Nat) (by omega)) ?_; rintro v l1 w2 rfl H1; obtain ⟨A4, c4, hv, hc4, HC4⟩ := H1.reads (.here _); have hlen : (bs ++ putL x (4 : Nat)).length = bs.length + (4 : Nat) := (by rw [List.length_append, putL_length]); rw [hlen] at hv hc4 HC4; subst hv; replace H := H1; replace hc4 := Aside0.mk hc4; have HX := C_cutS (h1 := fun _ => rfl) HC4 bs.length (by omega) hc4.out; rw [List.drop_left, Nat.add_sub_cancel_left] at HX; replace HX := Aside0.mk HX; clear hlen HC4) | ((with_reducible refine gate_dst (N := 36) rfl ?_); refine Kd.event_run rfl (v := .slice (cutA A4 c4 bs.length) (4 : Nat) (c4 - bs.length)) (w1 := _) ((run_cut (t := 48) (e := 5) (n := bs.length + (4 : Nat)) (j := bs.length) rfl rfl rfl Try.underlying48 info5s (by omega) _).trans (by rw [Nat.add_sub_cancel_left])) ?_) | (go_at_call 24; refine H.call0 (New_calls _ _ (4 : Nat) _ (putL x (4 : Nat)) HX.out (by omega)) ?_; rintro v l1 w3 ⟨g, rfl, rfl⟩ H1; replace H := H1.take (p := [reader g (putL x (4 : Nat)) 0 false]) (.cons (.here _) (.nil _)); clear H1 HX) | (go_at_call 29; refine H.call (.cons (.here _) (.nil _)) (fun G hG hGl => Num_yes _ g _ 0 (4 : Nat) G hG hGl (by rw [putL_length]; omega) (by rw [putL_length]; omega)) ?_; rintro v l1 w4 ⟨rfl, rfl⟩ H1; rw [List.drop_zero, List.take_of_length_le (by rw [putL_length]; omega), hq.out]; replace H := H1) | (go_at_call 30; refine H.call (.cons (.here _) (.nil _)) (fun G hG hGl => Short_calls _ g _ _ false G hG hGl) ?_; rintro v l1 w5 ⟨rfl, rfl⟩ H1; replace H := H1) | (go_at_call 25; refine H.call (.cons (.here _) (.nil _)) (fun G hG hGl => Rest_calls _ g _ _ false G hG hGl (by rw [putL_length]; omega) (by rw [putL_length]; omega)) ?_; rintro v l1 w6 rfl H1; rw [List.drop_of_length_le (by rw [putL_length]; omega)] at H1; obtain ⟨A6, c6, rfl, hc6, HC6⟩ := H1.reads (.here _); replace H := H1; clear HC6 hc6))
  go_ret
  exact ⟨rfl, H.below⟩

set_option maxHeartbeats 8000000 in
set_option maxRecDepth 100000 in
theorem Sizes_5 (w : World) (A : Option Addr) (n c : Nat) (bs : List Int) (x s : Int) (hb : (Kd.int .u8).C w A n bs) (hc : n ≤ c) (h : n ≤ 600) (x0 : 0 ≤ x) (x1 : x < 18446744073709551616) (s0 : 0 ≤ s) (s1 : s ≤ 255) (hs : s % 20 = (5 : Int)) :
    Calls Try.prog 10 #[.slice A n c, .int .u64 x, .int .u8 s] w (fun e w' => e = .returned (.bool true) ∧ Below w.heap.size w w') := by
  obtain ⟨ka, ha⟩ := awake_true
  replace ha := Aside0.mk ha
  have H := Hp.nothing w
  obtain rfl : bs.length = n := hb.1
  have hq : numL (putL x (5 : Nat)) = x % 1099511627776 := by
    rw [num_put x x0 x1]
    rw [if_pos (by decide)]; rfl
  have hs2 : Int.tmod s 20 = (5 : Int) := by rw [Int.tmod_eq_emod_of_nonneg s0]; exact hs
  replace hb := Aside0.mk hb
  replace hc := Aside0.mk hc
  replace hq := Aside0.mk hq
  have hh := Aside0.mk h
  have X0 := Aside0.mk x0
  have X1 := Aside0.mk x1
  have c1 : decide (600 < (bs.length : Int)) = false := decide_eq_false (by omega)
  have c1' : decide (600 < bs.length) = false := decide_eq_false (by omega)
  clear x1
  go_enter Try.func10, Try.ntmps10
  go_wp2_with (first | (go_at_call 23; refine H.call1 (treelinelaw03_awake.calls ka true _ ha.out) ?_; intro w1 H1; replace H := H1) | (go_at_call 27; refine H.call0 (Put64_calls _ A bs.length c bs (H.data hb.out) hc.out (by have := hh.out; omega) x (5 : Nat) (by omega)) ?_; rintro v l1 w2 rfl H1; obtain ⟨A4, c4, hv, hc4, HC4⟩ := H1.reads (.here _); have hlen : (bs ++ putL x (5 : Nat)).length = bs.length + (5 : Nat) := (by rw [List.length_append, putL_length]); rw [hlen] at hv hc4 HC4; subst hv; replace H := H1; replace hc4 := Aside0.mk hc4; have HX := C_cutS (h1 := fun _ => rfl) HC4 bs.length (by omega) hc4.out; rw [List.drop_left, Nat.add_sub_cancel_left] at HX; replace HX := Aside0.mk HX; clear hlen HC4) | ((with_reducible refine gate_dst (N := 36) rfl ?_); refine Kd.event_run rfl (v := .slice (cutA A4 c4 bs.length) (5 : Nat) (c4 - bs.length)) (w1 := _) ((run_cut (t := 48) (e := 5) (n := bs.length + (5 : Nat)) (j := bs.length) rfl rfl rfl Try.underlying48 info5s (by omega) _).trans (by rw [Nat.add_sub_cancel_left])) ?_) | (go_at_call 24; refine H.call0 (New_calls _ _ (5 : Nat) _ (putL x (5 : Nat)) HX.out (by omega)) ?_; rintro v l1 w3 ⟨g, rfl, rfl⟩ H1; replace H := H1.take (p := [reader g (putL x (5 : Nat)) 0 false]) (.cons (.here _) (.nil _)); clear H1 HX) | (go_at_call 29; refine H.call (.cons (.here _) (.nil _)) (fun G hG hGl => Num_yes _ g _ 0 (5 : Nat) G hG hGl (by rw [putL_length]; omega) (by rw [putL_length]; omega)) ?_; rintro v l1 w4 ⟨rfl, rfl⟩ H1; rw [List.drop_zero, List.take_of_length_le (by rw [putL_length]; omega), hq.out]; replace H := H1) | (go_at_call 30; refine H.call (.cons (.here _) (.nil _)) (fun G hG hGl => Short_calls _ g _ _ false G hG hGl) ?_; rintro v l1 w5 ⟨rfl, rfl⟩ H1; replace H := H1) | (go_at_call 25; refine H.call (.cons (.here _) (.nil _)) (fun G hG hGl => Rest_calls _ g _ _ false G hG hGl (by rw [putL_length]; omega) (by rw [putL_length]; omega)) ?_; rintro v l1 w6 rfl H1; rw [List.drop_of_length_le (by rw [putL_length]; omega)] at H1; obtain ⟨A6, c6, rfl, hc6, HC6⟩ := H1.reads (.here _); replace H := H1; clear HC6 hc6))
  go_ret
  exact ⟨rfl, H.below⟩

set_option maxHeartbeats 8000000 in
set_option maxRecDepth 100000 in
theorem Sizes_6 (w : World) (A : Option Addr) (n c : Nat) (bs : List Int) (x s : Int) (hb : (Kd.int .u8).C w A n bs) (hc : n ≤ c) (h : n ≤ 600) (x0 : 0 ≤ x) (x1 : x < 18446744073709551616) (s0 : 0 ≤ s) (s1 : s ≤ 255) (hs : s % 20 = (6 : Int)) :
    Calls Try.prog 10 #[.slice A n c, .int .u64 x, .int .u8 s] w (fun e w' => e = .returned (.bool true) ∧ Below w.heap.size w w') := by
  obtain ⟨ka, ha⟩ := awake_true
  replace ha := Aside0.mk ha
  have H := Hp.nothing w
  obtain rfl : bs.length = n := hb.1
  have hq : numL (putL x (6 : Nat)) = x % 281474976710656 := by
    rw [num_put x x0 x1]
    rw [if_pos (by decide)]; rfl
  have hs2 : Int.tmod s 20 = (6 : Int) := by rw [Int.tmod_eq_emod_of_nonneg s0]; exact hs
  replace hb := Aside0.mk hb
  replace hc := Aside0.mk hc
  replace hq := Aside0.mk hq
  have hh := Aside0.mk h
  have X0 := Aside0.mk x0
  have X1 := Aside0.mk x1
  have c1 : decide (600 < (bs.length : Int)) = false := decide_eq_false (by omega)
  have c1' : decide (600 < bs.length) = false := decide_eq_false (by omega)
  clear x1
  go_enter Try.func10, Try.ntmps10
  go_wp2_with (first | (go_at_call 23; refine H.call1 (treelinelaw03_awake.calls ka true _ ha.out) ?_; intro w1 H1; replace H := H1) | (go_at_call 27; refine H.call0 (Put64_calls _ A bs.length c bs (H.data hb.out) hc.out (by have := hh.out; omega) x (6 : Nat) (by omega)) ?_; rintro v l1 w2 rfl H1; obtain ⟨A4, c4, hv, hc4, HC4⟩ := H1.reads (.here _); have hlen : (bs ++ putL x (6 : Nat)).length = bs.length + (6 : Nat) := (by rw [List.length_append, putL_length]); rw [hlen] at hv hc4 HC4; subst hv; replace H := H1; replace hc4 := Aside0.mk hc4; have HX := C_cutS (h1 := fun _ => rfl) HC4 bs.length (by omega) hc4.out; rw [List.drop_left, Nat.add_sub_cancel_left] at HX; replace HX := Aside0.mk HX; clear hlen HC4) | ((with_reducible refine gate_dst (N := 36) rfl ?_); refine Kd.event_run rfl (v := .slice (cutA A4 c4 bs.length) (6 : Nat) (c4 - bs.length)) (w1 := _) ((run_cut (t := 48) (e := 5) (n := bs.length + (6 : Nat)) (j := bs.length) rfl rfl rfl Try.underlying48 info5s (by omega) _).trans (by rw [Nat.add_sub_cancel_left])) ?_) | (go_at_call 24; refine H.call0 (New_calls _ _ (6 : Nat) _ (putL x (6 : Nat)) HX.out (by omega)) ?_; rintro v l1 w3 ⟨g, rfl, rfl⟩ H1; replace H := H1.take (p := [reader g (putL x (6 : Nat)) 0 false]) (.cons (.here _) (.nil _)); clear H1 HX) | (go_at_call 29; refine H.call (.cons (.here _) (.nil _)) (fun G hG hGl => Num_yes _ g _ 0 (6 : Nat) G hG hGl (by rw [putL_length]; omega) (by rw [putL_length]; omega)) ?_; rintro v l1 w4 ⟨rfl, rfl⟩ H1; rw [List.drop_zero, List.take_of_length_le (by rw [putL_length]; omega), hq.out]; replace H := H1) | (go_at_call 30; refine H.call (.cons (.here _) (.nil _)) (fun G hG hGl => Short_calls _ g _ _ false G hG hGl) ?_; rintro v l1 w5 ⟨rfl, rfl⟩ H1; replace H := H1) | (go_at_call 25; refine H.call (.cons (.here _) (.nil _)) (fun G hG hGl => Rest_calls _ g _ _ false G hG hGl (by rw [putL_length]; omega) (by rw [putL_length]; omega)) ?_; rintro v l1 w6 rfl H1; rw [List.drop_of_length_le (by rw [putL_length]; omega)] at H1; obtain ⟨A6, c6, rfl, hc6, HC6⟩ := H1.reads (.here _); replace H := H1; clear HC6 hc6))
  go_ret
  exact ⟨rfl, H.below⟩

set_option maxHeartbeats 8000000 in
set_option maxRecDepth 100000 in
theorem Sizes_7 (w : World) (A : Option Addr) (n c : Nat) (bs : List Int) (x s : Int) (hb : (Kd.int .u8).C w A n bs) (hc : n ≤ c) (h : n ≤ 600) (x0 : 0 ≤ x) (x1 : x < 18446744073709551616) (s0 : 0 ≤ s) (s1 : s ≤ 255) (hs : s % 20 = (7 : Int)) :
    Calls Try.prog 10 #[.slice A n c, .int .u64 x, .int .u8 s] w (fun e w' => e = .returned (.bool true) ∧ Below w.heap.size w w') := by
  obtain ⟨ka, ha⟩ := awake_true
  replace ha := Aside0.mk ha
  have H := Hp.nothing w
  obtain rfl : bs.length = n := hb.1
  have hq : numL (putL x (7 : Nat)) = x % 72057594037927936 := by
    rw [num_put x x0 x1]
    rw [if_pos (by decide)]; rfl
  have hs2 : Int.tmod s 20 = (7 : Int) := by rw [Int.tmod_eq_emod_of_nonneg s0]; exact hs
  replace hb := Aside0.mk hb
  replace hc := Aside0.mk hc
  replace hq := Aside0.mk hq
  have hh := Aside0.mk h
  have X0 := Aside0.mk x0
  have X1 := Aside0.mk x1
  have c1 : decide (600 < (bs.length : Int)) = false := decide_eq_false (by omega)
  have c1' : decide (600 < bs.length) = false := decide_eq_false (by omega)
  clear x1
  go_enter Try.func10, Try.ntmps10
  go_wp2_with (first | (go_at_call 23; refine H.call1 (treelinelaw03_awake.calls ka true _ ha.out) ?_; intro w1 H1; replace H := H1) | (go_at_call 27; refine H.call0 (Put64_calls _ A bs.length c bs (H.data hb.out) hc.out (by have := hh.out; omega) x (7 : Nat) (by omega)) ?_; rintro v l1 w2 rfl H1; obtain ⟨A4, c4, hv, hc4, HC4⟩ := H1.reads (.here _); have hlen : (bs ++ putL x (7 : Nat)).length = bs.length + (7 : Nat) := (by rw [List.length_append, putL_length]); rw [hlen] at hv hc4 HC4; subst hv; replace H := H1; replace hc4 := Aside0.mk hc4; have HX := C_cutS (h1 := fun _ => rfl) HC4 bs.length (by omega) hc4.out; rw [List.drop_left, Nat.add_sub_cancel_left] at HX; replace HX := Aside0.mk HX; clear hlen HC4) | ((with_reducible refine gate_dst (N := 36) rfl ?_); refine Kd.event_run rfl (v := .slice (cutA A4 c4 bs.length) (7 : Nat) (c4 - bs.length)) (w1 := _) ((run_cut (t := 48) (e := 5) (n := bs.length + (7 : Nat)) (j := bs.length) rfl rfl rfl Try.underlying48 info5s (by omega) _).trans (by rw [Nat.add_sub_cancel_left])) ?_) | (go_at_call 24; refine H.call0 (New_calls _ _ (7 : Nat) _ (putL x (7 : Nat)) HX.out (by omega)) ?_; rintro v l1 w3 ⟨g, rfl, rfl⟩ H1; replace H := H1.take (p := [reader g (putL x (7 : Nat)) 0 false]) (.cons (.here _) (.nil _)); clear H1 HX) | (go_at_call 29; refine H.call (.cons (.here _) (.nil _)) (fun G hG hGl => Num_yes _ g _ 0 (7 : Nat) G hG hGl (by rw [putL_length]; omega) (by rw [putL_length]; omega)) ?_; rintro v l1 w4 ⟨rfl, rfl⟩ H1; rw [List.drop_zero, List.take_of_length_le (by rw [putL_length]; omega), hq.out]; replace H := H1) | (go_at_call 30; refine H.call (.cons (.here _) (.nil _)) (fun G hG hGl => Short_calls _ g _ _ false G hG hGl) ?_; rintro v l1 w5 ⟨rfl, rfl⟩ H1; replace H := H1) | (go_at_call 25; refine H.call (.cons (.here _) (.nil _)) (fun G hG hGl => Rest_calls _ g _ _ false G hG hGl (by rw [putL_length]; omega) (by rw [putL_length]; omega)) ?_; rintro v l1 w6 rfl H1; rw [List.drop_of_length_le (by rw [putL_length]; omega)] at H1; obtain ⟨A6, c6, rfl, hc6, HC6⟩ := H1.reads (.here _); replace H := H1; clear HC6 hc6))
  go_ret
  exact ⟨rfl, H.below⟩

set_option maxHeartbeats 8000000 in
set_option maxRecDepth 100000 in
theorem Sizes_big (w : World) (A : Option Addr) (n c : Nat) (bs : List Int) (x s : Int) (hb : (Kd.int .u8).C w A n bs) (hc : n ≤ c) (k : Nat) (k8 : 8 ≤ k) (k20 : k < 20) (h : n ≤ 600) (x0 : 0 ≤ x) (x1 : x < 18446744073709551616) (s0 : 0 ≤ s) (s1 : s ≤ 255) (hs : s % 20 = (k : Int)) :
    Calls Try.prog 10 #[.slice A n c, .int .u64 x, .int .u8 s] w (fun e w' => e = .returned (.bool true) ∧ Below w.heap.size w w') := by
  obtain ⟨ka, ha⟩ := awake_true
  replace ha := Aside0.mk ha
  have H := Hp.nothing w
  obtain rfl : bs.length = n := hb.1
  have hq : numL (putL x k) = x := by
    rw [num_put x x0 x1]
    rw [if_neg (by omega)]
  have hs2 : Int.tmod s 20 = (k : Int) := by rw [Int.tmod_eq_emod_of_nonneg s0]; exact hs
  have b1 : decide (8 ≤ k) = true := decide_eq_true k8
  have b2 : decide ((8 : Int) ≤ (k : Int)) = true := decide_eq_true (by omega)
  replace hb := Aside0.mk hb
  replace hc := Aside0.mk hc
  replace hq := Aside0.mk hq
  have hh := Aside0.mk h
  have X0 := Aside0.mk x0
  have X1 := Aside0.mk x1
  have c1 : decide (600 < (bs.length : Int)) = false := decide_eq_false (by omega)
  have c1' : decide (600 < bs.length) = false := decide_eq_false (by omega)
  clear x1
  go_enter Try.func10, Try.ntmps10
  go_wp2_with (first | (go_at_call 23; refine H.call1 (treelinelaw03_awake.calls ka true _ ha.out) ?_; intro w1 H1; replace H := H1) | (go_at_call 27; refine H.call0 (Put64_calls _ A bs.length c bs (H.data hb.out) hc.out (by have := hh.out; omega) x k (by omega)) ?_; rintro v l1 w2 rfl H1; obtain ⟨A4, c4, hv, hc4, HC4⟩ := H1.reads (.here _); have hlen : (bs ++ putL x k).length = bs.length + k := (by rw [List.length_append, putL_length]); rw [hlen] at hv hc4 HC4; subst hv; replace H := H1; replace hc4 := Aside0.mk hc4; have HX := C_cutS (h1 := fun _ => rfl) HC4 bs.length (by omega) hc4.out; rw [List.drop_left, Nat.add_sub_cancel_left] at HX; replace HX := Aside0.mk HX; clear hlen HC4) | ((with_reducible refine gate_dst (N := 36) rfl ?_); refine Kd.event_run rfl (v := .slice (cutA A4 c4 bs.length) k (c4 - bs.length)) (w1 := _) ((run_cut (t := 48) (e := 5) (n := bs.length + k) (j := bs.length) rfl rfl rfl Try.underlying48 info5s (by omega) _).trans (by rw [Nat.add_sub_cancel_left])) ?_) | (go_at_call 24; refine H.call0 (New_calls _ _ k _ (putL x k) HX.out (by omega)) ?_; rintro v l1 w3 ⟨g, rfl, rfl⟩ H1; replace H := H1.take (p := [reader g (putL x k) 0 false]) (.cons (.here _) (.nil _)); clear H1 HX) | (go_at_call 29; refine H.call (.cons (.here _) (.nil _)) (fun G hG hGl => Num_yes _ g _ 0 k G hG hGl (by rw [putL_length]; omega) (by rw [putL_length]; omega)) ?_; rintro v l1 w4 ⟨rfl, rfl⟩ H1; rw [List.drop_zero, List.take_of_length_le (by rw [putL_length]; omega), hq.out]; replace H := H1) | (go_at_call 30; refine H.call (.cons (.here _) (.nil _)) (fun G hG hGl => Short_calls _ g _ _ false G hG hGl) ?_; rintro v l1 w5 ⟨rfl, rfl⟩ H1; replace H := H1) | (go_at_call 25; refine H.call (.cons (.here _) (.nil _)) (fun G hG hGl => Rest_calls _ g _ _ false G hG hGl (by rw [putL_length]; omega) (by rw [putL_length]; omega)) ?_; rintro v l1 w6 rfl H1; rw [List.drop_of_length_le (by rw [putL_length]; omega)] at H1; obtain ⟨A6, c6, rfl, hc6, HC6⟩ := H1.reads (.here _); replace H := H1; clear HC6 hc6))
  go_ret
  exact ⟨rfl, H.below⟩

theorem WireSizes (W : World) (l0 : List Int) (a1 a2 : Int) (w0 : ∀ y ∈ l0, (Lit.int .u8 y).wf = true) (w1 : (Lit.int .u64 a1).wf = true) (w2 : (Lit.int .u8 a2).wf = true) {A0 : Option Addr} {c0 : Nat} (hC0 : (Kd.int .u8).C W A0 l0.length l0) (hc0 : l0.length ≤ c0) :
    Calls Try.prog 10 #[.slice A0 l0.length c0, .int .u64 a1, .int .u8 a2] W (fun e w' => e = .returned (.bool true) ∧ Below W.heap.size W w') := by
  have x := Ar.wf_u64 w1
  have s := Ar.wf_u8 w2
  by_cases h : 600 < l0.length
  · exact Sizes_b W A0 _ c0 l0 a1 a2 hC0 hc0 h
  · obtain ⟨k, hk⟩ : ∃ k : Nat, a2 % 20 = (k : Int) := ⟨(a2 % 20).toNat, by omega⟩
    have h20 : k < 20 := by omega
    by_cases h8 : 8 ≤ k
    · exact Sizes_big W A0 _ c0 l0 a1 a2 hC0 hc0 k h8 h20 (by omega) x.1 x.2 s.1 (by omega) hk
    · match k, hk, h8 with
      | 0, hk, _ => exact Sizes_0 W A0 _ c0 l0 a1 a2 hC0 hc0 (by omega) x.1 x.2 s.1 (by omega) hk
      | 1, hk, _ => exact Sizes_1 W A0 _ c0 l0 a1 a2 hC0 hc0 (by omega) x.1 x.2 s.1 (by omega) hk
      | 2, hk, _ => exact Sizes_2 W A0 _ c0 l0 a1 a2 hC0 hc0 (by omega) x.1 x.2 s.1 (by omega) hk
      | 3, hk, _ => exact Sizes_3 W A0 _ c0 l0 a1 a2 hC0 hc0 (by omega) x.1 x.2 s.1 (by omega) hk
      | 4, hk, _ => exact Sizes_4 W A0 _ c0 l0 a1 a2 hC0 hc0 (by omega) x.1 x.2 s.1 (by omega) hk
      | 5, hk, _ => exact Sizes_5 W A0 _ c0 l0 a1 a2 hC0 hc0 (by omega) x.1 x.2 s.1 (by omega) hk
      | 6, hk, _ => exact Sizes_6 W A0 _ c0 l0 a1 a2 hC0 hc0 (by omega) x.1 x.2 s.1 (by omega) hk
      | 7, hk, _ => exact Sizes_7 W A0 _ c0 l0 a1 a2 hC0 hc0 (by omega) x.1 x.2 s.1 (by omega) hk
      | k + 8, hk, h8 => exact absurd (by omega) h8

end Go.Proofs.Ytnoejdogickplaa.Pure
