/- For all numbers and bytes the law WireBack answers true: what is put is read as it was, one number behind the other. -/
import Derived.Test.YtnoejdogickplaaWire
import Derived.Test.YtnoejdogickplaaSepB
namespace Go.Proofs.Ytnoejdogickplaa.Pure
open Go.RowKit Go.Proofs.YtnoejdogickplaaW.PrintWords Go.Proofs.YtnoejdogickplaaW.PrintLast Go.Proofs.YtnoejdogickplaaW.PrintMore Go.Proofs.Ytnoejdogickplaa.Sep Go.Proofs.Ytnoejdogickplaa.PWireBack Go.Proofs.Ytnoejdogickplaa.Wire
set_option linter.unusedVariables false
set_option linter.unusedSimpArgs false
/-- What the law puts of some numbers: each by 8 bytes, then its lowest two. -/
def encB : List Int → List Int
  | [] => []
  | x :: r => putL x 8 ++ (putL (x % 65536) 2 ++ encB r)
theorem encB_length : ∀ l, (encB l).length = 10 * l.length
  | [] => rfl
  | x :: r => by simp [encB, putL_length, encB_length r]; omega
theorem encB_append : ∀ a b, encB (a ++ b) = encB a ++ encB b
  | [], _ => rfl
  | x :: r, b => by simp [encB, encB_append r b]
theorem encB_snoc (ls : List Int) (k : Nat) (x : Int) (h : ls[k]? = some x) : encB (ls.take (k + 1)) = (encB (ls.take k) ++ putL x 8) ++ putL (x % 65536) 2 := by
  rw [List.take_add_one, h]
  simp [encB_append, encB]
theorem encB_at (ls more : List Int) (k : Nat) (x : Int) (h : ls[k]? = some x) : (encB ls ++ more).drop (10 * k) = putL x 8 ++ (putL (x % 65536) 2 ++ (encB (ls.drop (k + 1)) ++ more)) := by
  have hlt : k < ls.length := (List.getElem?_eq_some_iff.1 h).1
  have hk : ls = ls.take k ++ (x :: ls.drop (k + 1)) := by
    rw [← (List.getElem?_eq_some_iff.1 h).2, List.getElem_cons_drop, List.take_append_drop]
  have hl : (encB (ls.take k)).length = 10 * k := by rw [encB_length, List.length_take]; omega
  have e : encB ls ++ more = encB (ls.take k) ++ (putL x 8 ++ (putL (x % 65536) 2 ++ (encB (ls.drop (k + 1)) ++ more))) := by
    conv => lhs; rw [hk]
    simp [encB_append, encB]
  rw [e, ← hl, List.drop_left]
theorem encB_8 (ls more : List Int) (k : Nat) (x : Int) (h : ls[k]? = some x) : ((encB ls ++ more).drop (10 * k)).take 8 = putL x 8 := by
  rw [encB_at ls more k x h, List.take_left' (putL_length _ _)]
theorem encB_2 (ls more : List Int) (k : Nat) (x : Int) (h : ls[k]? = some x) : ((encB ls ++ more).drop (10 * k + 8)).take 2 = putL (x % 65536) 2 := by
  rw [← List.drop_drop, encB_at ls more k x h, List.drop_left' (putL_length _ _), List.take_left' (putL_length _ _)]
theorem encB_rest (ls more : List Int) : (encB ls ++ more).drop (10 * ls.length) = more := by
  rw [← encB_length, List.drop_left]

set_option maxHeartbeats 8000000 in
set_option maxRecDepth 100000 in
theorem Back_l (w : World) (A A2 : Option Addr) (n c n2 c2 : Nat) (ls more : List Int) (hl : (Kd.int .u64).C w A n ls) (hc : n ≤ c) (hb : (Kd.int .u8).C w A2 n2 more) (hc2 : n2 ≤ c2) (h : 75 < n) :
    Calls Try.prog 9 #[.slice A n c, .slice A2 n2 c2] w (fun e w' => e = .returned (.bool true) ∧ Below w.heap.size w w') := by
  obtain ⟨ka, ha⟩ := awake_true
  replace ha := Aside0.mk ha
  have H := Hp.nothing w
  have d1 : decide (75 < (n : Int)) = true := decide_eq_true (by omega)
  have d1' : decide (75 < n) = true := decide_eq_true h
  clear h
  clear hb hl hc hc2
  go_enter Try.func9, Try.ntmps9
  go_wp2_with (first | (go_at_call 23; refine H.call1 (treelinelaw03_awake.calls ka true _ ha.out) ?_; intro w1 H1; replace H := H1))
  go_ret
  exact ⟨rfl, H.below⟩

set_option maxHeartbeats 8000000 in
set_option maxRecDepth 100000 in
theorem Back_m (w : World) (A A2 : Option Addr) (n c n2 c2 : Nat) (ls more : List Int) (hl : (Kd.int .u64).C w A n ls) (hc : n ≤ c) (hb : (Kd.int .u8).C w A2 n2 more) (hc2 : n2 ≤ c2) (h0 : n ≤ 75) (h : 600 < n2) :
    Calls Try.prog 9 #[.slice A n c, .slice A2 n2 c2] w (fun e w' => e = .returned (.bool true) ∧ Below w.heap.size w w') := by
  obtain ⟨ka, ha⟩ := awake_true
  replace ha := Aside0.mk ha
  have H := Hp.nothing w
  have d1 : decide (75 < (n : Int)) = false := decide_eq_false (by omega)
  have d1' : decide (75 < n) = false := decide_eq_false (by omega)
  have d2 : decide (600 < (n2 : Int)) = true := decide_eq_true (by omega)
  have d2' : decide (600 < n2) = true := decide_eq_true h
  clear h h0
  clear hb hl hc hc2
  go_enter Try.func9, Try.ntmps9
  go_wp2_with (first | (go_at_call 23; refine H.call1 (treelinelaw03_awake.calls ka true _ ha.out) ?_; intro w1 H1; replace H := H1))
  go_ret
  exact ⟨rfl, H.below⟩

set_option maxHeartbeats 8000000 in
set_option maxRecDepth 100000 in
theorem Back_main (w : World) (A A2 : Option Addr) (n c n2 c2 : Nat) (ls more : List Int) (hl : (Kd.int .u64).C w A n ls) (hc : n ≤ c) (hb : (Kd.int .u8).C w A2 n2 more) (hc2 : n2 ≤ c2) (h : n ≤ 75) (h2 : n2 ≤ 600) (hrange : ∀ y ∈ ls, 0 ≤ y ∧ y < 18446744073709551616) :
    Calls Try.prog 9 #[.slice A n c, .slice A2 n2 c2] w (fun e w' => e = .returned (.bool true) ∧ Below w.heap.size w w') := by
  obtain ⟨ka, ha⟩ := awake_true
  replace ha := Aside0.mk ha
  have H := Hp.nothing w
  obtain rfl : ls.length = n := hl.1
  obtain rfl : more.length = n2 := hb.1
  have d1 : decide (75 < (ls.length : Int)) = false := decide_eq_false (by omega)
  have d1' : decide (75 < ls.length) = false := decide_eq_false (by omega)
  have d2 : decide (600 < (more.length : Int)) = false := decide_eq_false (by omega)
  have d2' : decide (600 < more.length) = false := decide_eq_false (by omega)
  replace hb := Aside0.mk hb
  replace hl := Aside0.mk hl
  replace hc := Aside0.mk hc
  replace hc2 := Aside0.mk hc2
  replace hrange := Aside0.mk hrange
  have hh := Aside0.mk h
  have hh2 := Aside0.mk h2
  clear h h2
  go_enter Try.func9, Try.ntmps9
  go_wp2_with (first | (go_at_call 23; refine H.call1 (treelinelaw03_awake.calls ka true _ ha.out) ?_; intro w1 H1; replace H := H1))
  replace H := Aside0.mk (H.nil_row (Kd.int .u8) 5)
  go_loopw [5, 6] (fun v5 v6 wr => ∃ (k : Nat), k ≤ ls.length ∧ v6 = .int .i64 (k : Int) ∧ Aside0 (Hp (fun _ => False) w wr [row (Kd.int .u8) 5 v5 (encB (ls.take k))])) (fun _ v6 _ => ls.length - (intOf v6).toNat)
  case atStart => exact ⟨0, Nat.zero_le _, rfl, ⟨H.out⟩⟩
  case round =>
    rename_i v5 v6
    obtain ⟨k, hk, rfl, H⟩ := hrel
    have hh' := hh.out
    obtain ⟨A5, c5, hv, hc5, HC5⟩ := H.out.reads (.here _)
    have hlen : (encB (ls.take k)).length = 10 * k := by rw [encB_length, List.length_take]; omega
    rw [hlen] at hv hc5 HC5
    subst hv
    replace hlen := Aside0.mk hlen
    replace hc5 := Aside0.mk hc5
    replace HC5 := Aside0.mk HC5
    by_cases hlt : k < ls.length
    · obtain ⟨ad, hA⟩ := C_some hl.out (by omega)
      subst hA
      obtain ⟨x, hx⟩ : ∃ x, ls[k]? = some x := ⟨_, List.getElem?_eq_getElem hlt⟩
      have hxr := hrange.out x (List.mem_of_getElem? hx)
      have hcell := C_cell (H.out.data hl.out) k x hx
      replace hx := Aside0.mk hx
      obtain ⟨x0, x1⟩ := hxr
      replace x1 := Aside0.mk x1
      go_wp2_with (first | (go_at_call 27; refine H.out.call0 (Put64_calls _ A5 (10 * k) c5 _ HC5.out hc5.out (by omega) x 8 (by omega)) ?_; rintro v l1 w2 rfl H1; obtain ⟨A6, c6, hv, hc6, HC6⟩ := H1.reads (.here _); rw [List.length_append, putL_length, hlen.out] at hv hc6 HC6; subst hv; replace H := H1; clear H1; replace hc6 := Aside0.mk hc6; replace HC6 := Aside0.mk HC6; have hcell := C_cell (H.data hl.out) k x hx.out) | (go_at_call 28; refine H.call0 (Put16_calls _ A6 (10 * k + 8) c6 _ HC6.out hc6.out (by omega) (x % 65536) (by omega) (by omega) 2 (by omega)) ?_; rintro v l1 w3 rfl H1; rw [← encB_snoc ls k x hx.out] at H1; replace H := Aside0.mk (H1.take (.cons (.here _) (.nil _))); clear H1))
      go_roundw
      case rel => exact ⟨k + 1, by omega, by go_num, H⟩
      case measure => simp [intOf]; omega
    · have hb1 : decide (k < ls.length) = false := decide_eq_false hlt
      have hb2 : decide ((k : Int) < (ls.length : Int)) = false := decide_eq_false (by omega)
      have hke : k = ls.length := by omega
      replace H := H.out
      rw [hke, List.take_length] at H
      rw [← hke] at H
      replace hke := Aside0.mk hke
      clear HC5 hlt hlen
      go_wp2_with (first | ((with_reducible refine gate_dst (N := 41) rfl ?_); refine ev_ rfl (H.lit (cs := #[]) (e := 5) (n := 0) (by first | (go_simp; done) | (go_simp; rfl))) ?_; rintro v w1 ⟨g0, rfl, H1⟩; replace H := Hp.blk_row (d := Kd.int .u8) [] H1 (.cons (.here _) (.nil _)) (fun _ _ => reps_nil _ _ rfl rfl) rfl (Nat.zero_le _)) | ((with_reducible refine gate_dst (N := 43) rfl ?_); refine ev_ rfl (H.appendS (.tmp 41) (.tmp 42) 48 (.int .u8 0) 1 rfl rfl (.here _) Try.underlying48 info5 rfl (by decide) rfl (H.readsN (.there _ (.here _))) (by simp; omega)) ?_; intro v5 w5 H1; simp only [List.nil_append] at H1; obtain ⟨A7, c7, hv, hc7, HC7⟩ := H1.reads (.here _); rw [encB_length] at hv; subst hv; replace H := H1; clear HC7 hc7 H1) | ((with_reducible refine gate_dst (N := 45) rfl ?_); refine ev_ rfl (H.appendS (.tmp 43) (.tmp 44) 48 (.int .u8 0) 1 rfl rfl (.here _) Try.underlying48 info5 rfl (by decide) rfl (H.data hb.out) (by have := hh2.out; rw [encB_length]; omega)) ?_; intro v6 w6 H1; obtain ⟨B, hB⟩ : ∃ B, B = encB ls ++ more := ⟨_, rfl⟩; rw [← hB] at H1; have hBl : B.length ≤ 1350 := (by have := hh2.out; rw [hB, List.length_append, encB_length]; omega); replace hB := Aside0.mk hB; replace hBl := Aside0.mk hBl; obtain ⟨A8, c8, rfl, hc8, HC8⟩ := H1.reads (.here _); replace H := H1; clear hc8 H1; replace HC8 := Aside0.mk HC8) | (go_at_call 24; refine H.call0 (New_calls _ A8 B.length c8 B HC8.out (by have := hBl.out; omega)) ?_; rintro v l1 w2 ⟨g, rfl, rfl⟩ H1; replace H := Aside0.mk (H1.take (p := [reader g B 0 false]) (.cons (.here _) (.nil _))); clear H1 HC8))
      clear hk hb1 hb2
      go_loopw [8] (fun v8 wr => ∃ (k : Nat), k ≤ ls.length ∧ v8 = .int .i64 (k : Int) ∧ Aside0 (Hp (fun _ => False) w wr [reader g B (10 * k) false])) (fun v8 _ => ls.length - (intOf v8).toNat)
      case atStart => exact ⟨0, Nat.zero_le _, rfl, ⟨H.out⟩⟩
      case round =>
        obtain ⟨k, hk, rfl, H⟩ := hrel
        by_cases hlt : k < ls.length
        · obtain ⟨ad, hA⟩ := C_some hl.out (by omega)
          subst hA
          obtain ⟨x, hx⟩ : ∃ x, ls[k]? = some x := ⟨_, List.getElem?_eq_getElem hlt⟩
          have hxr := hrange.out x (List.mem_of_getElem? hx)
          have hn8 : numL ((B.drop (10 * k)).take 8) = x := by rw [hB.out, encB_8 ls more k x hx, num_put x hxr.1 hxr.2, if_neg (by decide)]
          have hn2 : numL ((B.drop (10 * k + 8)).take 2) = x % 65536 := by
            rw [hB.out, encB_2 ls more k x hx, num_put _ (by omega) (by omega), if_pos (by decide)]
            show x % 65536 % 65536 = x % 65536
            omega
          have hfit : 10 * k + 10 ≤ B.length := by rw [hB.out, List.length_append, encB_length]; omega
          replace hn8 := Aside0.mk hn8
          replace hn2 := Aside0.mk hn2
          replace hfit := Aside0.mk hfit
          replace hx := Aside0.mk hx
          obtain ⟨x0, x1⟩ := hxr
          replace x1 := Aside0.mk x1
          have ht : Int.tmod x 65536 = x % 65536 := Int.tmod_eq_emod_of_nonneg x0
          go_wp2_with fail
          refine startH H.out.only (n := 17) [] #[false, false, false, false, false, false, false, false, false, false, false, false, false, false, false, false, false] (by kernel_rfl) rfl rfl (fun hHeld => ?_)
          have HD := H.out.drew
          refine pure_ (i := 0) (N := some 53) (v := ?_) (a' := ?_) #[true, false, false, false, false, false, false, false, false, false, false, false, false, false, false, false, false] rfl rfl (by kernel_rfl) (fun _ _ _ h => h) (Or.inl ⟨by rfl, ?_⟩) ?_ ?_
          rotate_left
          · intro w'
            go_simp
            with_reducible rfl
          rotate_left
          · simp only [Act.put, List.setIfInBounds_toArray, List.set_cons_zero, List.set_cons_succ, i64_w, i32_w]
            rfl
          refine pure_ (i := 2) (N := some 55) (v := ?_) (a' := ?_) #[true, false, true, false, false, false, false, false, false, false, false, false, false, false, false, false, false] rfl rfl (by kernel_rfl) (fun _ _ _ h => h) (Or.inl ⟨by rfl, ?_⟩) ?_ ?_
          rotate_left
          · intro w'
            go_simp
            with_reducible rfl
          rotate_left
          · simp only [Act.put, List.setIfInBounds_toArray, List.set_cons_zero, List.set_cons_succ, i64_w, i32_w]
            rfl
          refine pure_ (i := 3) (N := some 56) (v := ?_) (a' := ?_) #[true, false, true, true, false, false, false, false, false, false, false, false, false, false, false, false, false] rfl rfl (by kernel_rfl) (fun _ _ _ h => h) (Or.inl ⟨by rfl, ?_⟩) ?_ ?_
          rotate_left
          · intro w'
            go_simp
            with_reducible rfl
          rotate_left
          · simp only [Act.put, List.setIfInBounds_toArray, List.set_cons_zero, List.set_cons_succ, i64_w, i32_w]
            rfl
          refine pure_ (i := 4) (N := some 57) (v := ?_) (a' := ?_) #[true, false, true, true, true, false, false, false, false, false, false, false, false, false, false, false, false] rfl rfl (by kernel_rfl) (fun _ _ _ h => h) (Or.inl ⟨by rfl, ?_⟩) ?_ ?_
          rotate_left
          · intro w'
            go_simp
            with_reducible rfl
          rotate_left
          · simp only [Act.put, List.setIfInBounds_toArray, List.set_cons_zero, List.set_cons_succ, i64_w, i32_w]
            rfl
          refine take_ (i := 5) (N := some 58) (v := _) (a' := ?_) #[true, false, true, true, true, true, false, false, false, false, false, false, false, false, false, false, false] rfl rfl (by kernel_rfl) (fun _ _ _ h => h) (Or.inl ⟨by rfl, fun w2 h => run_loadCell rfl rfl Try.underlying22 rfl (C_cell (h.data hl.out) k x hx.out)⟩) hHeld ?_ ?_
          rotate_left
          · simp only [Act.put, List.setIfInBounds_toArray, List.set_cons_zero, List.set_cons_succ, i64_w, i32_w]
            rfl
          refine one_ (i := 1) (N := some 54) #[true, true, true, true, true, true, false, false, false, false, false, false, false, false, false, false, false] rfl rfl (by kernel_rfl) (by decide) (fun K hK => ?_)
          refine goes_ Try.func29 (by kernel_rfl) rfl #[.pointer (some ⟨g, 0, none⟩), .int .i64 8] (by rfl) rfl rfl (by simp only [List.map_toArray, List.map_cons, List.map_nil]; rfl) ?_
          refine HD.call (.cons (.here _) (.nil _)) (fun G hG hGl => Num_yes _ g B (10 * k) 8 G hG hGl (by have := hfit.out; omega) (by have := hBl.out; omega)) ?_
          rintro v l1 w3 ⟨hv, rfl⟩ H3
          rw [hn8.out] at hv
          subst hv
          refine ⟨_, rfl, ?_⟩
          refine hK.out _ _ (H3.only) (fun hHeld => ?_)
          clear hK K
          refine norm_ (a' := ?_) ?_ ?_
          rotate_left
          · show Act.put _ (some 54) _ = _
            simp only [Act.put, List.setIfInBounds_toArray, List.set_cons_zero, List.set_cons_succ, i64_w, i32_w]
            rfl
          refine pure_ (i := 6) (N := some 59) (v := ?_) (a' := ?_) #[true, true, true, true, true, true, true, false, false, false, false, false, false, false, false, false, false] rfl rfl (by kernel_rfl) (fun _ _ _ h => h) (Or.inl ⟨by rfl, ?_⟩) ?_ ?_
          rotate_left
          · intro w'
            go_simp
            with_reducible rfl
          rotate_left
          · simp only [Act.put, List.setIfInBounds_toArray, List.set_cons_zero, List.set_cons_succ, i64_w, i32_w]
            rfl
          refine pure_ (i := 7) (N := some 60) (v := ?_) (a' := ?_) #[true, true, true, true, true, true, true, true, false, false, false, false, false, false, false, false, false] rfl rfl (by kernel_rfl) (fun _ _ _ h => h) (Or.inl ⟨by rfl, ?_⟩) ?_ ?_
          rotate_left
          · intro w'
            go_simp
            with_reducible rfl
          rotate_left
          · simp only [Act.put, List.setIfInBounds_toArray, List.set_cons_zero, List.set_cons_succ, i64_w, i32_w]
            rfl
          refine pure_ (i := 8) (N := some 61) (v := ?_) (a' := ?_) #[true, true, true, true, true, true, true, true, true, false, false, false, false, false, false, false, false] rfl rfl (by kernel_rfl) (fun _ _ _ h => h) (Or.inl ⟨by rfl, ?_⟩) ?_ ?_
          rotate_left
          · intro w'
            go_simp
            with_reducible rfl
          rotate_left
          · simp only [Act.put, List.setIfInBounds_toArray, List.set_cons_zero, List.set_cons_succ, i64_w, i32_w]
            rfl
          refine pure_ (i := 10) (N := some 63) (v := ?_) (a' := ?_) #[true, true, true, true, true, true, true, true, true, false, true, false, false, false, false, false, false] rfl rfl (by kernel_rfl) (fun _ _ _ h => h) (Or.inl ⟨by rfl, ?_⟩) ?_ ?_
          rotate_left
          · intro w'
            go_simp
            with_reducible rfl
          rotate_left
          · simp only [Act.put, List.setIfInBounds_toArray, List.set_cons_zero, List.set_cons_succ, i64_w, i32_w]
            rfl
          refine pure_ (i := 11) (N := some 64) (v := ?_) (a' := ?_) #[true, true, true, true, true, true, true, true, true, false, true, true, false, false, false, false, false] rfl rfl (by kernel_rfl) (fun _ _ _ h => h) (Or.inl ⟨by rfl, ?_⟩) ?_ ?_
          rotate_left
          · intro w'
            go_simp
            with_reducible rfl
          rotate_left
          · simp only [Act.put, List.setIfInBounds_toArray, List.set_cons_zero, List.set_cons_succ, i64_w, i32_w]
            rfl
          refine pure_ (i := 12) (N := some 65) (v := ?_) (a' := ?_) #[true, true, true, true, true, true, true, true, true, false, true, true, true, false, false, false, false] rfl rfl (by kernel_rfl) (fun _ _ _ h => h) (Or.inl ⟨by rfl, ?_⟩) ?_ ?_
          rotate_left
          · intro w'
            go_simp
            with_reducible rfl
          rotate_left
          · simp only [Act.put, List.setIfInBounds_toArray, List.set_cons_zero, List.set_cons_succ, i64_w, i32_w]
            rfl
          refine take_ (i := 13) (N := some 66) (v := _) (a' := ?_) #[true, true, true, true, true, true, true, true, true, false, true, true, true, true, false, false, false] rfl rfl (by kernel_rfl) (fun _ _ _ h => h) (Or.inl ⟨by rfl, fun w2 h => run_loadCell rfl rfl Try.underlying22 rfl (C_cell (h.data hl.out) k x hx.out)⟩) hHeld ?_ ?_
          rotate_left
          · simp only [Act.put, List.setIfInBounds_toArray, List.set_cons_zero, List.set_cons_succ, i64_w, i32_w]
            rfl
          refine pure_ (i := 14) (N := some 67) (v := ?_) (a' := ?_) #[true, true, true, true, true, true, true, true, true, false, true, true, true, true, true, false, false] rfl rfl (by kernel_rfl) (fun _ _ _ h => h) (Or.inl ⟨by rfl, ?_⟩) ?_ ?_
          rotate_left
          · intro w'
            go_simp
            with_reducible rfl
          rotate_left
          · simp only [Act.put, List.setIfInBounds_toArray, List.set_cons_zero, List.set_cons_succ, i64_w, i32_w]
            rfl
          refine one_ (i := 9) (N := some 62) #[true, true, true, true, true, true, true, true, true, true, true, true, true, true, true, false, false] rfl rfl (by kernel_rfl) (by decide) (fun K hK => ?_)
          refine goes_ Try.func29 (by kernel_rfl) rfl #[.pointer (some ⟨g, 0, none⟩), .int .i64 2] (by rfl) rfl rfl (by simp only [List.map_toArray, List.map_cons, List.map_nil]; rfl) ?_
          refine H3.call (.cons (.here _) (.nil _)) (fun G hG hGl => Num_yes _ g B (10 * k + 8) 2 G hG hGl (by have := hfit.out; omega) (by have := hBl.out; omega)) ?_
          rintro v l1 w4 ⟨hv, rfl⟩ H4
          rw [hn2.out] at hv
          subst hv
          refine ⟨_, rfl, ?_⟩
          refine hK.out _ _ (H4.only) (fun hHeld => ?_)
          clear hK K
          refine norm_ (a' := ?_) ?_ ?_
          rotate_left
          · show Act.put _ (some 62) _ = _
            simp only [Act.put, List.setIfInBounds_toArray, List.set_cons_zero, List.set_cons_succ, i64_w, i32_w]
            rfl
          refine pure_ (i := 15) (N := some 68) (v := ?_) (a' := ?_) #[true, true, true, true, true, true, true, true, true, true, true, true, true, true, true, true, false] rfl rfl (by kernel_rfl) (fun _ _ _ h => h) (Or.inl ⟨by rfl, ?_⟩) ?_ ?_
          rotate_left
          · intro w'
            go_simp
            with_reducible rfl
          rotate_left
          · simp only [Act.put, List.setIfInBounds_toArray, List.set_cons_zero, List.set_cons_succ, i64_w, i32_w]
            rfl
          refine pure_ (i := 16) (N := some 69) (v := ?_) (a' := ?_) #[true, true, true, true, true, true, true, true, true, true, true, true, true, true, true, true, true] rfl rfl (by kernel_rfl) (fun _ _ _ h => h) (Or.inl ⟨by rfl, ?_⟩) ?_ ?_
          rotate_left
          · intro w'
            go_simp
            with_reducible rfl
          rotate_left
          · simp only [Act.put, List.setIfInBounds_toArray, List.set_cons_zero, List.set_cons_succ, i64_w, i32_w]
            rfl
          refine done_ (by kernel_rfl) ?_
          have HE := H4.take (p := [reader g B (10 * k + 8 + 2) false]) (.cons (.here _) (.nil _))
          rw [show 10 * k + 8 + 2 = 10 * (k + 1) by omega] at HE
          replace HE := Aside0.mk HE
          clear hHeld HD H3 H4
          go_wp2_with fail
          go_roundw
          case rel => exact ⟨k + 1, by omega, by go_num, HE⟩
          case measure => simp [intOf]; omega
        · have hb1 : decide (k < ls.length) = false := decide_eq_false hlt
          have hb2 : decide ((k : Int) < (ls.length : Int)) = false := decide_eq_false (by omega)
          have hke2 : k = ls.length := by omega
          have hrest : B.drop (10 * k) = more := by rw [hB.out, hke2, encB_rest]
          have hfit : 10 * k ≤ B.length := by rw [hB.out, List.length_append, encB_length]; omega
          replace hrest := Aside0.mk hrest
          replace hke2 := Aside0.mk hke2
          replace hfit := Aside0.mk hfit
          go_wp2_with fail
          refine startH H.out.only (n := 12) [] #[false, false, false, false, false, false, false, false, false, false, false, false] (by kernel_rfl) rfl rfl (fun hHeld => ?_)
          have HD := H.out.drew
          refine pure_ (i := 0) (N := some 70) (v := ?_) (a' := ?_) #[true, false, false, false, false, false, false, false, false, false, false, false] rfl rfl (by kernel_rfl) (fun _ _ _ h => h) (Or.inl ⟨by rfl, ?_⟩) ?_ ?_
          rotate_left
          · intro w'
            go_simp
            with_reducible rfl
          rotate_left
          · simp only [Act.put, List.setIfInBounds_toArray, List.set_cons_zero, List.set_cons_succ, i64_w, i32_w]
            rfl
          refine one_ (i := 1) (N := some 71) #[true, true, false, false, false, false, false, false, false, false, false, false] rfl rfl (by kernel_rfl) (by decide) (fun K hK => ?_)
          refine goes_ Try.func30 (by kernel_rfl) rfl #[.pointer (some ⟨g, 0, none⟩)] (by rfl) rfl rfl (by simp only [List.map_toArray, List.map_cons, List.map_nil]; rfl) ?_
          refine HD.call (.cons (.here _) (.nil _)) (fun G hG hGl => Short_calls _ g B _ false G hG hGl) ?_
          rintro v l1 w5 ⟨rfl, rfl⟩ H5
          refine ⟨_, rfl, ?_⟩
          refine hK.out _ _ (H5.only) (fun hHeld => ?_)
          clear hK K
          refine norm_ (a' := ?_) ?_ ?_
          rotate_left
          · show Act.put _ (some 71) _ = _
            simp only [Act.put, List.setIfInBounds_toArray, List.set_cons_zero, List.set_cons_succ, i64_w, i32_w]
            rfl
          refine pure_ (i := 2) (N := some 72) (v := ?_) (a' := ?_) #[true, true, true, false, false, false, false, false, false, false, false, false] rfl rfl (by kernel_rfl) (fun _ _ _ h => h) (Or.inl ⟨by rfl, ?_⟩) ?_ ?_
          rotate_left
          · intro w'
            go_simp
            with_reducible rfl
          rotate_left
          · simp only [Act.put, List.setIfInBounds_toArray, List.set_cons_zero, List.set_cons_succ, i64_w, i32_w]
            rfl
          refine pure_ (i := 3) (N := some 73) (v := ?_) (a' := ?_) #[true, true, true, true, false, false, false, false, false, false, false, false] rfl rfl (by kernel_rfl) (fun _ _ _ h => h) (Or.inl ⟨by rfl, ?_⟩) ?_ ?_
          rotate_left
          · intro w'
            go_simp
            with_reducible rfl
          rotate_left
          · simp only [Act.put, List.setIfInBounds_toArray, List.set_cons_zero, List.set_cons_succ, i64_w, i32_w]
            rfl
          refine pure_ (i := 4) (N := some 74) (v := ?_) (a' := ?_) #[true, true, true, true, true, false, false, false, false, false, false, false] rfl rfl (by kernel_rfl) (fun _ _ _ h => h) (Or.inl ⟨by rfl, ?_⟩) ?_ ?_
          rotate_left
          · intro w'
            go_simp
            with_reducible rfl
          rotate_left
          · simp only [Act.put, List.setIfInBounds_toArray, List.set_cons_zero, List.set_cons_succ, i64_w, i32_w]
            rfl
          refine pure_ (i := 7) (N := some 77) (v := ?_) (a' := ?_) #[true, true, true, true, true, false, false, true, false, false, false, false] rfl rfl (by kernel_rfl) (fun _ _ _ h => h) (Or.inl ⟨by rfl, ?_⟩) ?_ ?_
          rotate_left
          · intro w'
            go_simp
            with_reducible rfl
          rotate_left
          · simp only [Act.put, List.setIfInBounds_toArray, List.set_cons_zero, List.set_cons_succ, i64_w, i32_w]
            rfl
          refine take_ (i := 8) (N := some 78) (v := _) (a' := ?_) #[true, true, true, true, true, false, false, true, true, false, false, false] rfl rfl (by kernel_rfl) (fun _ _ _ h => h) (Or.inl ⟨by rfl, fun w2 h => run_str rfl rfl Try.underlying48 Try.underlying5 Try.underlying9 (h.data hb.out)⟩) hHeld ?_ ?_
          rotate_left
          · simp only [Act.put, List.setIfInBounds_toArray, List.set_cons_zero, List.set_cons_succ, i64_w, i32_w]
            rfl
          refine one_ (i := 5) (N := some 75) #[true, true, true, true, true, true, false, true, true, false, false, false] rfl rfl (by kernel_rfl) (by decide) (fun K hK => ?_)
          refine goes_ Try.func25 (by kernel_rfl) rfl #[.pointer (some ⟨g, 0, none⟩)] (by rfl) rfl rfl (by simp only [List.map_toArray, List.map_cons, List.map_nil]; rfl) ?_
          refine H5.call (.cons (.here _) (.nil _)) (fun G hG hGl => Rest_calls _ g B (10 * k) false G hG hGl hfit.out (by have := hBl.out; omega)) ?_
          rintro v l1 w6 rfl H6
          rw [hrest.out] at H6
          obtain ⟨A9, c9, rfl, hc9, HC9⟩ := H6.reads (.here _)
          refine ⟨_, rfl, ?_⟩
          refine hK.out _ _ (H6.only) (fun hHeld => ?_)
          clear hK K
          refine norm_ (a' := ?_) ?_ ?_
          rotate_left
          · show Act.put _ (some 75) _ = _
            simp only [Act.put, List.setIfInBounds_toArray, List.set_cons_zero, List.set_cons_succ, i64_w, i32_w]
            rfl
          refine one_ (i := 6) (N := some 76) #[true, true, true, true, true, true, true, true, true, false, false, false] rfl rfl (by kernel_rfl) (by decide) (fun K hK => ?_)
          refine value_ (w1 := w6) (v := .string (strOfNums more)) (by rfl) rfl (run_str rfl rfl Try.underlying48 Try.underlying5 Try.underlying9 HC9) ?_
          refine hK.out _ _ (H6.only) (fun hHeld => ?_)
          clear hK K
          refine norm_ (a' := ?_) ?_ ?_
          rotate_left
          · show Act.put _ (some 76) _ = _
            simp only [Act.put, List.setIfInBounds_toArray, List.set_cons_zero, List.set_cons_succ, i64_w, i32_w]
            rfl
          refine pure_ (i := 9) (N := some 79) (v := ?_) (a' := ?_) #[true, true, true, true, true, true, true, true, true, true, false, false] rfl rfl (by kernel_rfl) (fun _ _ _ h => h) (Or.inl ⟨by rfl, ?_⟩) ?_ ?_
          rotate_left
          · intro w'
            go_simp
            with_reducible rfl
          rotate_left
          · simp only [Act.put, List.setIfInBounds_toArray, List.set_cons_zero, List.set_cons_succ, i64_w, i32_w]
            rfl
          refine pure_ (i := 10) (N := some 80) (v := ?_) (a' := ?_) #[true, true, true, true, true, true, true, true, true, true, true, false] rfl rfl (by kernel_rfl) (fun _ _ _ h => h) (Or.inl ⟨by rfl, ?_⟩) ?_ ?_
          rotate_left
          · intro w'
            go_simp
            with_reducible rfl
          rotate_left
          · simp only [Act.put, List.setIfInBounds_toArray, List.set_cons_zero, List.set_cons_succ, i64_w, i32_w]
            rfl
          refine pure_ (i := 11) (N := some 4) (v := ?_) (a' := ?_) #[true, true, true, true, true, true, true, true, true, true, true, true] rfl rfl (by kernel_rfl) (fun _ _ _ h => h) (Or.inl ⟨by rfl, ?_⟩) ?_ ?_
          rotate_left
          · intro w'
            go_simp
            with_reducible rfl
          rotate_left
          · simp only [Act.put, List.setIfInBounds_toArray, List.set_cons_zero, List.set_cons_succ, i64_w, i32_w]
            rfl
          refine done_ (by kernel_rfl) ?_
          go_wp2_with fail
          go_ret
          exact ⟨rfl, H6.below⟩

theorem WireBack (W : World) (l0 l1 : List Int) (w0 : ∀ y ∈ l0, (Lit.int .u64 y).wf = true) (w1 : ∀ y ∈ l1, (Lit.int .u8 y).wf = true) {A0 A1 : Option Addr} {c0 c1 : Nat} (hC0 : (Kd.int .u64).C W A0 l0.length l0) (hc0 : l0.length ≤ c0) (hC1 : (Kd.int .u8).C W A1 l1.length l1) (hc1 : l1.length ≤ c1) :
    Calls Try.prog 9 #[.slice A0 l0.length c0, .slice A1 l1.length c1] W (fun e w' => e = .returned (.bool true) ∧ Below W.heap.size W w') := by
  by_cases h : 75 < l0.length
  · exact Back_l W A0 A1 _ c0 _ c1 l0 l1 hC0 hc0 hC1 hc1 h
  · by_cases h2 : 600 < l1.length
    · exact Back_m W A0 A1 _ c0 _ c1 l0 l1 hC0 hc0 hC1 hc1 (by omega) h2
    · exact Back_main W A0 A1 _ c0 _ c1 l0 l1 hC0 hc0 hC1 hc1 (by omega) (by omega) fun y hy => Ar.wf_u64 (w0 y hy)

end Go.Proofs.Ytnoejdogickplaa.Pure
