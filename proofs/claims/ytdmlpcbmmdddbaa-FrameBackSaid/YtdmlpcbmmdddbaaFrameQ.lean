/- What ids.Put and frame.Put come to; what is read of bytes, all cases together. Walked by hand. -/
import Derived.Test.YtdmlpcbmmdddbaaFrameP
namespace Go.Proofs.Ytdmlpcbmmdddbaa.Frame
open Go.RowKit Go.Proofs.YtdmlpcbmmdddbaaW.PrintWords Go.Proofs.YtdmlpcbmmdddbaaW.PrintLast Go.Proofs.YtdmlpcbmmdddbaaW.PrintMore
set_option linter.unusedVariables false
set_option linter.unusedSimpArgs false
open Go.Proofs.Ytdmlpcbmmdddbaa.Sep Go.Proofs.Ytdmlpcbmmdddbaa.Wire
/-- A frame's bytes. -/
def putF (a b q : Int) (d : List Int) : List Int := ((putL a 6 ++ putL b 6) ++ putL q 2) ++ d

set_option maxHeartbeats 1000000 in
set_option maxRecDepth 100000 in
theorem Put_ok (w : World) (a b q : Int) (A : Option Addr) (n c : Nat) (d : List Int) (a0 : 0 ≤ a) (a1 : a < 281474976710656) (b0 : 0 ≤ b) (b1 : b < 281474976710656) (q0 : 0 ≤ q) (q1 : q < 65536) (hd : (Kd.int .u8).C w A n d) (hn : n ≤ 1500) (hck : ∀ w1, Calls Try.prog 16 #[.agg #[.int .u64 a, .int .u64 b, .int .u16 q, .slice A n c]] w1 (Ret (fun _ => False) w1 fun v l => v = .int .i64 0 ∧ l = [])) :
    Calls Try.prog 14 #[.agg #[.int .u64 a, .int .u64 b, .int .u16 q, .slice A n c]] w (Ret (fun _ => False) w fun v l => ∃ bv, v = .tuple #[bv, .int .i64 0] ∧ l = [row (Kd.int .u8) 5 bv (putF a b q d)]) := by
  have H := Hp.nothing w
  go_enter Try.func14, Try.ntmps14
  go_wp2_with (first | ((with_reducible refine gate_dst (N := 1) rfl ?_); refine ev_ rfl (H.box rfl (by first | (go_simp; done) | (go_simp; rfl)) rfl) ?_; rintro _ w1 ⟨g1, rfl, H1⟩; (try simp only [Value.cells] at H1); replace H := H1; clear H1) | ((with_reducible refine gate_dst (N := 6) rfl ?_); refine Kd.event_run rfl (H.loadN 27 (.tmp 1) rfl rfl (by repeat (first | exact Pick.here _ | apply Pick.there)) #[.int .u64 a, .int .u64 b, .int .u16 q, .slice A n c] Try.underlying27 rfl info27s (fun j u hj => by simpa using hj)) ?_) | (go_at_call 16; refine H.call0 (hck _) ?_; rintro v l1 w1 ⟨rfl, rfl⟩ H1; replace H := H1; clear H1))
  refine startH H (n := 8) [] #[false, false, false, false, false, false, false, false] (by kernel_rfl) rfl rfl (fun hHeld => ?_)
  have HD := H.drew
  refine pure_ (i := 0) (N := some 11) (v := ?_) (a' := ?_) #[true, false, false, false, false, false, false, false] rfl rfl (by kernel_rfl) (fun _ _ _ h => h) (Or.inl ⟨by rfl, ?_⟩) ?_ ?_
  rotate_left
  · intro w'
    go_simp
    with_reducible rfl
  rotate_left
  · simp only [Act.put, List.setIfInBounds_toArray, List.set_cons_zero, List.set_cons_succ, i64_w, i32_w]
    rfl
  refine pure_ (i := 3) (N := some 14) (v := ?_) (a' := ?_) #[true, false, false, true, false, false, false, false] rfl rfl (by kernel_rfl) (fun _ _ _ h => h) (Or.inl ⟨by rfl, ?_⟩) ?_ ?_
  rotate_left
  · intro w'
    go_simp
    with_reducible rfl
  rotate_left
  · simp only [Act.put, List.setIfInBounds_toArray, List.set_cons_zero, List.set_cons_succ, i64_w, i32_w]
    rfl
  refine take_ (i := 1) (N := some 12) (v := _) (a' := ?_) #[true, true, false, true, false, false, false, false] rfl rfl (by kernel_rfl) (fun _ _ _ h => h) (Or.inl ⟨by rfl, fun w2 h => h.load1 23 (.tmp 11) rfl rfl (by repeat (first | exact Pick.here _ | apply Pick.there)) Try.underlying23 rfl rfl⟩) hHeld ?_ ?_
  rotate_left
  · simp only [Act.put, List.setIfInBounds_toArray, List.set_cons_zero, List.set_cons_succ, i64_w, i32_w]
    rfl
  refine take_ (i := 4) (N := some 15) (v := _) (a' := ?_) #[true, true, false, true, true, false, false, false] rfl rfl (by kernel_rfl) (fun _ _ _ h => h) (Or.inl ⟨by rfl, fun w2 h => h.load1 23 (.tmp 14) rfl rfl (by repeat (first | exact Pick.here _ | apply Pick.there)) Try.underlying23 rfl rfl⟩) hHeld ?_ ?_
  rotate_left
  · simp only [Act.put, List.setIfInBounds_toArray, List.set_cons_zero, List.set_cons_succ, i64_w, i32_w]
    rfl
  refine one_ (i := 2) (N := some 13) #[true, true, true, true, true, false, false, false] rfl rfl (by kernel_rfl) (by decide) (fun K hK => ?_)
  refine goes_ Try.func30 (by kernel_rfl) rfl #[.int .u64 a] (by rfl) rfl rfl (by simp only [List.map_toArray, List.map_cons, List.map_nil]; rfl) ?_
  refine HD.call0 (Ids_calls _ a a0 (by omega)) ?_
  rintro v13 l1 w3 rfl H3
  refine ⟨_, rfl, ?_⟩
  refine hK.out _ _ (H3.drop (.cons (.here _) (.nil _))) (fun hHeld => ?_)
  clear hK K
  refine norm_ (a' := ?_) ?_ ?_
  rotate_left
  · show Act.put _ (some 13) _ = _
    simp only [Act.put, List.setIfInBounds_toArray, List.set_cons_zero, List.set_cons_succ, i64_w, i32_w]
    rfl
  refine one_ (i := 5) (N := some 16) #[true, true, true, true, true, true, false, false] rfl rfl (by kernel_rfl) (by decide) (fun K hK => ?_)
  refine goes_ Try.func30 (by kernel_rfl) rfl #[.int .u64 b] (by rfl) rfl rfl (by simp only [List.map_toArray, List.map_cons, List.map_nil]; rfl) ?_
  refine H3.call0 (Ids_calls _ b b0 (by omega)) ?_
  rintro v16 l1 w4 rfl H4
  obtain ⟨A16, c16, rfl, hc16, HC16⟩ := H4.reads (.here _)
  refine ⟨_, rfl, ?_⟩
  refine hK.out _ _ (H4.drop (.cons (.here _) (.cons (.here _) (.nil _)))) (fun hHeld => ?_)
  clear hK K
  refine norm_ (a' := ?_) ?_ ?_
  rotate_left
  · show Act.put _ (some 16) _ = _
    simp only [Act.put, List.setIfInBounds_toArray, List.set_cons_zero, List.set_cons_succ, i64_w, i32_w]
    rfl
  refine one_ (i := 6) (N := some 17) #[true, true, true, true, true, true, true, false] rfl rfl (by kernel_rfl) (by decide) (fun K hK => ?_)
  refine step_ (by rfl) rfl (H4.appendS (.tmp 13) (.tmp 16) 25 (.int .u8 0) 1 rfl rfl (.there _ (.here _)) Try.underlying25 info5 rfl (by decide) rfl HC16 (by simp [putL_length])) ?_
  rintro v17 w5 H5
  refine hK.out _ _ (H5.drop (.cons (.here _) (.cons (.here _) (.nil _)))) (fun hHeld => ?_)
  clear hK K
  refine norm_ (a' := ?_) ?_ ?_
  rotate_left
  · show Act.put _ (some 17) _ = _
    simp only [Act.put, List.setIfInBounds_toArray, List.set_cons_zero, List.set_cons_succ, i64_w, i32_w]
    rfl
  refine pure_ (i := 7) (N := some 5) (v := ?_) (a' := ?_) #[true, true, true, true, true, true, true, true] rfl rfl (by kernel_rfl) (fun _ _ _ h => h) (Or.inl ⟨by rfl, ?_⟩) ?_ ?_
  rotate_left
  · intro w'
    go_simp
    with_reducible rfl
  rotate_left
  · simp only [Act.put, List.setIfInBounds_toArray, List.set_cons_zero, List.set_cons_succ, i64_w, i32_w]
    rfl
  refine done_ (by kernel_rfl) ?_
  clear hHeld H3 H4 HD HC16 hc16 H
  have H := H5.drop (.cons (.there _ (.here _)) (.nil _))
  clear H5
  obtain ⟨A17, c17, rfl, hc17, HC17⟩ := H.reads (.here _)
  rw [show (putL a 6 ++ putL b 6).length = 12 by simp [putL_length]] at hc17 ⊢
  clear HC17
  go_wp2_with fail
  refine startH H (n := 9) [] #[false, false, false, false, false, false, false, false, false] (by kernel_rfl) rfl rfl (fun hHeld => ?_)
  have HD := H.drew
  refine pure_ (i := 0) (N := some 18) (v := ?_) (a' := ?_) #[true, false, false, false, false, false, false, false, false] rfl rfl (by kernel_rfl) (fun _ _ _ h => h) (Or.inl ⟨by rfl, ?_⟩) ?_ ?_
  rotate_left
  · intro w'
    go_simp
    with_reducible rfl
  rotate_left
  · simp only [Act.put, List.setIfInBounds_toArray, List.set_cons_zero, List.set_cons_succ, i64_w, i32_w]
    rfl
  refine pure_ (i := 1) (N := some 19) (v := ?_) (a' := ?_) #[true, true, false, false, false, false, false, false, false] rfl rfl (by kernel_rfl) (fun _ _ _ h => h) (Or.inl ⟨by rfl, ?_⟩) ?_ ?_
  rotate_left
  · intro w'
    go_simp
    with_reducible rfl
  rotate_left
  · simp only [Act.put, List.setIfInBounds_toArray, List.set_cons_zero, List.set_cons_succ, i64_w, i32_w]
    rfl
  refine pure_ (i := 4) (N := some 22) (v := ?_) (a' := ?_) #[true, true, false, false, true, false, false, false, false] rfl rfl (by kernel_rfl) (fun _ _ _ h => h) (Or.inl ⟨by rfl, ?_⟩) ?_ ?_
  rotate_left
  · intro w'
    go_simp
    with_reducible rfl
  rotate_left
  · simp only [Act.put, List.setIfInBounds_toArray, List.set_cons_zero, List.set_cons_succ, i64_w, i32_w]
    rfl
  refine take_ (i := 2) (N := some 20) (v := _) (a' := ?_) #[true, true, true, false, true, false, false, false, false] rfl rfl (by kernel_rfl) (fun _ _ _ h => h) (Or.inl ⟨by rfl, fun w2 h => h.load1 24 (.tmp 19) rfl rfl (by repeat (first | exact Pick.here _ | apply Pick.there)) Try.underlying24 rfl rfl⟩) hHeld ?_ ?_
  rotate_left
  · simp only [Act.put, List.setIfInBounds_toArray, List.set_cons_zero, List.set_cons_succ, i64_w, i32_w]
    rfl
  refine take_ (i := 5) (N := some 23) (v := _) (a' := ?_) #[true, true, true, false, true, true, false, false, false] rfl rfl (by kernel_rfl) (fun _ _ _ h => h) (Or.inl ⟨by rfl, fun w2 h => h.load1 25 (.tmp 22) rfl rfl (by repeat (first | exact Pick.here _ | apply Pick.there)) Try.underlying25 rfl rfl⟩) hHeld ?_ ?_
  rotate_left
  · simp only [Act.put, List.setIfInBounds_toArray, List.set_cons_zero, List.set_cons_succ, i64_w, i32_w]
    rfl
  refine one_ (i := 3) (N := some 21) #[true, true, true, true, true, true, false, false, false] rfl rfl (by kernel_rfl) (by decide) (fun K hK => ?_)
  refine goes_ Try.func31 (by kernel_rfl) rfl #[.slice A17 12 c17, .int .u16 q, .int .i64 2] (by rfl) rfl rfl (by simp only [List.map_toArray, List.map_cons, List.map_nil]; rfl) ?_
  refine HD.call0 (Put_uint16 _ A17 12 c17 _ (HD.readsN (.here _)) hc17 (by omega) q q0 q1 2 (by decide)) ?_
  rintro v21 l1 w6 rfl H6
  refine ⟨_, rfl, ?_⟩
  refine hK.out _ _ (H6.drop (.cons (.here _) (.nil _))) (fun hHeld => ?_)
  clear hK K
  refine norm_ (a' := ?_) ?_ ?_
  rotate_left
  · show Act.put _ (some 21) _ = _
    simp only [Act.put, List.setIfInBounds_toArray, List.set_cons_zero, List.set_cons_succ, i64_w, i32_w]
    rfl
  refine one_ (i := 6) (N := some 24) #[true, true, true, true, true, true, true, false, false] rfl rfl (by kernel_rfl) (by decide) (fun K hK => ?_)
  refine step_ (by rfl) rfl (H6.appendS (.tmp 21) (.tmp 23) 25 (.int .u8 0) 1 rfl rfl (.here _) Try.underlying25 info5 rfl (by decide) rfl (H6.data hd) (by simp [putL_length]; omega)) ?_
  rintro v24 w7 H7
  refine hK.out _ _ (H7.drop (.cons (.here _) (.nil _))) (fun hHeld => ?_)
  clear hK K
  refine norm_ (a' := ?_) ?_ ?_
  rotate_left
  · show Act.put _ (some 24) _ = _
    simp only [Act.put, List.setIfInBounds_toArray, List.set_cons_zero, List.set_cons_succ, i64_w, i32_w]
    rfl
  refine pure_ (i := 7) (N := some 2) (v := ?_) (a' := ?_) #[true, true, true, true, true, true, true, true, false] rfl rfl (by kernel_rfl) (fun _ _ _ h => h) (Or.inl ⟨by rfl, ?_⟩) ?_ ?_
  rotate_left
  · intro w'
    go_simp
    with_reducible rfl
  rotate_left
  · simp only [Act.put, List.setIfInBounds_toArray, List.set_cons_zero, List.set_cons_succ, i64_w, i32_w]
    rfl
  refine pure_ (i := 8) (N := some 3) (v := ?_) (a' := ?_) #[true, true, true, true, true, true, true, true, true] rfl rfl (by kernel_rfl) (fun _ _ _ h => h) (Or.inl ⟨by rfl, ?_⟩) ?_ ?_
  rotate_left
  · intro w'
    go_simp
    with_reducible rfl
  rotate_left
  · simp only [Act.put, List.setIfInBounds_toArray, List.set_cons_zero, List.set_cons_succ, i64_w, i32_w]
    rfl
  refine done_ (by kernel_rfl) ?_
  go_wp2_with fail
  go_ret2
  exact ⟨_, _, rfl, ⟨_, rfl, rfl⟩, H7.take (.cons (.here _) (.nil _))⟩

set_option maxHeartbeats 1000000 in
set_option maxRecDepth 100000 in
theorem Put_no (w : World) (a b q : Int) (A : Option Addr) (n c : Nat) (e : Int) (he : e ≠ 0) (hck : ∀ w1, Calls Try.prog 16 #[.agg #[.int .u64 a, .int .u64 b, .int .u16 q, .slice A n c]] w1 (Ret (fun _ => False) w1 fun v l => v = .int .i64 e ∧ l = [])) :
    Calls Try.prog 14 #[.agg #[.int .u64 a, .int .u64 b, .int .u16 q, .slice A n c]] w (Ret (fun _ => False) w fun v l => v = .tuple #[.slice none 0 0, .int .i64 e] ∧ l = []) := by
  have H := Hp.nothing w
  have e1 : (e != 0) = true := bne_iff_ne.2 he
  have e2 : (e == 0) = false := beq_eq_false_iff_ne.2 he
  replace he := Aside0.mk he
  go_enter Try.func14, Try.ntmps14
  go_wp2_with (first | ((with_reducible refine gate_dst (N := 1) rfl ?_); refine ev_ rfl (H.box rfl (by first | (go_simp; done) | (go_simp; rfl)) rfl) ?_; rintro _ w1 ⟨g1, rfl, H1⟩; (try simp only [Value.cells] at H1); replace H := H1; clear H1) | ((with_reducible refine gate_dst (N := 6) rfl ?_); refine Kd.event_run rfl (H.loadN 27 (.tmp 1) rfl rfl (by repeat (first | exact Pick.here _ | apply Pick.there)) #[.int .u64 a, .int .u64 b, .int .u16 q, .slice A n c] Try.underlying27 rfl info27s (fun j u hj => by simpa using hj)) ?_) | (go_at_call 16; refine H.call0 (hck _) ?_; rintro v l1 w1 ⟨rfl, rfl⟩ H1; replace H := H1; clear H1))
  go_ret2
  exact ⟨_, _, rfl, ⟨rfl, rfl⟩, H.only⟩

set_option maxHeartbeats 1000000 in
set_option maxRecDepth 100000 in
theorem awake_calls (w : World) : Calls Try.prog 13 #[] w (fun e w' => e = .returned (.bool true) ∧ Below w.heap.size w w') := by
  have H := Hp.nothing w
  go_enter Try.func13, Try.ntmps13
  go_wp2_with (first | (go_at_call 14; refine H.call0 (Put_ok _ 1 2 0 none 0 0 [] (by decide) (by decide) (by decide) (by decide) (by decide) (by decide) (Kd.C_nil _ _) (by decide) (fun w1 => Check_fit w1 1 2 0 none 0 0 (by decide) (by decide) (by decide) (by decide) (by decide) (by decide) (by decide) rfl)) ?_; rintro v l1 w1 ⟨bv, rfl, rfl⟩ H1; obtain ⟨A5, c5, rfl, hc5, HC5⟩ := H1.reads (.here _); replace H := H1; clear H1; replace HC5 := Aside0.mk HC5; clear hc5) | ((with_reducible refine gate_dst (N := 12) rfl ?_); refine gate_guard (by rfl) ?_; dsimp only; refine Kd.event_run rfl (v := .string ⟨#[0, 0, 0, 0, 0, 1, 0, 0, 0, 0, 0, 2, 0, 0]⟩) ((run_str rfl rfl Try.underlying25 Try.underlying5 Try.underlying9 HC5.out).trans (by rw [show strOfNums (putF 1 2 0 []) = ⟨#[0, 0, 0, 0, 0, 1, 0, 0, 0, 0, 0, 2, 0, 0]⟩ from by kernel_rfl])) ?_))
  go_ret
  exact ⟨rfl, H.below⟩

end Go.Proofs.Ytdmlpcbmmdddbaa.Frame
