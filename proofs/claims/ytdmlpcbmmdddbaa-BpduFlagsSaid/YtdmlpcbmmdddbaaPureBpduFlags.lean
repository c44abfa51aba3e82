/- The law BpduFlags over what its functions come to. Walked by hand. -/
import Derived.Test.YtdmlpcbmmdddbaaBpduR
import Derived.Test.YtdmlpcbmmdddbaaAr
namespace Go.Proofs.Ytdmlpcbmmdddbaa.Pure
open Go.RowKit Go.Proofs.YtdmlpcbmmdddbaaW.PrintWords Go.Proofs.YtdmlpcbmmdddbaaW.PrintLast Go.Proofs.YtdmlpcbmmdddbaaW.PrintMore
set_option linter.unusedVariables false
set_option linter.unusedSimpArgs false
open Go.Proofs.Ytdmlpcbmmdddbaa.Sep Go.Proofs.Ytdmlpcbmmdddbaa.Wire Go.Proofs.Ytdmlpcbmmdddbaa.Bpdu
theorem info4s : (Try.prog.info? 4).map (·.size) = some 1 := by kernel_rfl
theorem confB_split (r co br po q1 q2 q3 q4 : Int) : ∃ rest, ∀ c1 c2, confB c1 c2 r co br po q1 q2 q3 q4 = hB c1 c2 ++ rest :=
  ⟨putL r 8 ++ (putL co 4 ++ (putL br 8 ++ (putL po 2 ++ (putL q1 2 ++ (putL q2 2 ++ (putL q3 2 ++ putL q4 2)))))), fun c1 c2 => by simp [confB, addQ, headB, hB, qB, List.append_assoc]⟩
theorem confB_4 (c1 c2 : Bool) (r co br po q1 q2 q3 q4 : Int) : (confB c1 c2 r co br po q1 q2 q3 q4)[4]? = some (fl c1 c2) := by
  obtain ⟨rest, h⟩ := confB_split r co br po q1 q2 q3 q4
  rw [h, List.getElem?_append_left (by rw [hB_length]; decide)]
  cases c1 <;> cases c2 <;> kernel_rfl
theorem hB_k (c1 c3 c2 : Bool) : ∀ k, k < 5 → k ≠ 4 → (hB c1 c2)[k]? = (hB c3 c2)[k]? := by
  cases c1 <;> cases c3 <;> cases c2 <;> decide +kernel
theorem confB_k (c1 c3 c2 : Bool) (r co br po q1 q2 q3 q4 : Int) (k : Nat) (hk : k < 35) (h4 : k ≠ 4) : ∃ x, (confB c1 c2 r co br po q1 q2 q3 q4)[k]? = some x ∧ (confB c3 c2 r co br po q1 q2 q3 q4)[k]? = some x := by
  obtain ⟨x, hx⟩ : ∃ x, (confB c1 c2 r co br po q1 q2 q3 q4)[k]? = some x := ⟨_, List.getElem?_eq_getElem (by rw [confB_length]; exact hk)⟩
  refine ⟨x, hx, ?_⟩
  rw [← hx]
  obtain ⟨rest, h⟩ := confB_split r co br po q1 q2 q3 q4
  rw [h, h]
  by_cases h5 : k < 5
  · rw [List.getElem?_append_left (by rw [hB_length]; exact h5), List.getElem?_append_left (by rw [hB_length]; exact h5)]
    exact (hB_k c1 c3 c2 k h5 h4).symm
  · rw [List.getElem?_append_right (by rw [hB_length]; omega), List.getElem?_append_right (by rw [hB_length]; omega), hB_length, hB_length]

set_option maxHeartbeats 1000000 in
set_option maxRecDepth 100000 in
theorem Flags_tc (w : World) (c1 c2 : Bool) (r co br po q1 q2 q3 q4 : Int) (r0 : 0 ≤ r ∧ r < 18446744073709551616) (co0 : 0 ≤ co ∧ co < 4294967296) (br0 : 0 ≤ br ∧ br < 18446744073709551616) (po0 : 0 ≤ po ∧ po < 65536) (q10 : 0 ≤ q1 ∧ q1 < 65536) (q20 : 0 ≤ q2 ∧ q2 < 65536) (q30 : 0 ≤ q3 ∧ q3 < 65536) (q40 : 0 ≤ q4 ∧ q4 < 65536) :
    Calls Try.prog 9 #[.agg #[.bool true, .bool c1, .bool c2, .int .u64 r, .int .u32 co, .int .u64 br, .int .u16 po, .int .u16 q1, .int .u16 q2, .int .u16 q3, .int .u16 q4]] w (fun e w' => e = .returned (.bool true) ∧ Below w.heap.size w w') := by
  have H := Hp.nothing w
  go_enter Try.func9, Try.ntmps9
  go_wp2_with (first | ((with_reducible refine gate_dst (N := 1) rfl ?_); refine ev_ rfl (H.box rfl (by first | (go_simp; done) | (go_simp; rfl)) rfl) ?_; rintro _ w1 ⟨g1, rfl, H1⟩; (try simp only [Value.cells] at H1); replace H := H1; clear H1) | ((with_reducible refine gate_dst (N := 9) rfl ?_); refine Kd.event_run rfl (H.loadN 48 (.tmp 1) rfl rfl (by repeat (first | exact Pick.here _ | apply Pick.there)) #[.bool true, .bool c1, .bool c2, .int .u64 r, .int .u32 co, .int .u64 br, .int .u16 po, .int .u16 q1, .int .u16 q2, .int .u16 q3, .int .u16 q4] Try.underlying48 rfl info48s (fun j u hj => by simpa using hj)) ?_) | ((with_reducible refine gate_dst (N := 3) rfl ?_); refine ev_ rfl (H.new (cs := #[.bool false, .bool false, .bool false, .int .u64 0, .int .u32 0, .int .u64 0, .int .u16 0, .int .u16 0, .int .u16 0, .int .u16 0, .int .u16 0]) (t := 48) (by first | (go_simp; done) | (go_simp; rfl))) ?_; rintro _ w1 ⟨g3, rfl, H1⟩; replace H := H1; clear H1) | ((with_reducible refine gate_store (p := 3) rfl ?_); refine ev_ rfl (H.store 48 (.tmp 3) (.tmp 9) rfl rfl (by repeat (first | exact Pick.here _ | apply Pick.there)) (by first | (go_simp; done) | (go_simp; rfl)) _ rfl info48s (by simp [Value.oneCell', Value.cells]) (by simp [Value.cells]) rfl) ?_; rintro _ w1 ⟨rfl, H1⟩; (try simp only [putsAt, Value.cells, List.setIfInBounds_toArray, List.set_cons_zero, List.set_cons_succ, List.toList_toArray] at H1); replace H := H1; clear H1) | (go_at_call 23; refine H.call1 (awake_calls _) ?_; intro w1 H1; replace H := H1; clear H1))
  refine startH (H.take (p := [blk g1 #[.bool true, .bool c1, .bool c2, .int .u64 r, .int .u32 co, .int .u64 br, .int .u16 po, .int .u16 q1, .int .u16 q2, .int .u16 q3, .int .u16 q4] 48]) (.cons (by repeat (first | exact Pick.here _ | apply Pick.there)) (.nil _))) (n := 9) [] #[false, false, false, false, false, false, false, false, false] (by kernel_rfl) rfl rfl (fun hHeld => ?_)
  have HD := H.drew
  refine pure_ (i := 0) (N := some 10) (v := ?_) (a' := ?_) #[true, false, false, false, false, false, false, false, false] rfl rfl (by kernel_rfl) (fun _ _ _ h => h) (Or.inl ⟨by rfl, ?_⟩) ?_ ?_
  rotate_left
  · intro w'
    go_simp
    with_reducible rfl
  rotate_left
  · simp only [Act.put, List.setIfInBounds_toArray, List.set_cons_zero, List.set_cons_succ, i64_w, i32_w]
    rfl
  refine pure_ (i := 3) (N := some 13) (v := ?_) (a' := ?_) #[true, false, false, true, false, false, false, false, false] rfl rfl (by kernel_rfl) (fun _ _ _ h => h) (Or.inl ⟨by rfl, ?_⟩) ?_ ?_
  rotate_left
  · intro w'
    go_simp
    with_reducible rfl
  rotate_left
  · simp only [Act.put, List.setIfInBounds_toArray, List.set_cons_zero, List.set_cons_succ, i64_w, i32_w]
    rfl
  refine take_ (i := 1) (N := some 11) (v := _) (a' := ?_) #[true, true, false, true, false, false, false, false, false] rfl rfl (by kernel_rfl) (fun _ _ _ h => h) (Or.inl ⟨by rfl, fun w2 h => h.load1 4 (.tmp 10) rfl rfl (by repeat (first | exact Pick.here _ | apply Pick.there)) Try.underlying4 rfl rfl⟩) hHeld ?_ ?_
  rotate_left
  · simp only [Act.put, List.setIfInBounds_toArray, List.set_cons_zero, List.set_cons_succ, i64_w, i32_w]
    rfl
  refine pure_ (i := 2) (N := some 12) (v := ?_) (a' := ?_) #[true, true, true, true, false, false, false, false, false] rfl rfl (by kernel_rfl) (fun _ _ _ h => h) (Or.inl ⟨by rfl, ?_⟩) ?_ ?_
  rotate_left
  · intro w'
    go_simp
    with_reducible rfl
  rotate_left
  · simp only [Act.put, List.setIfInBounds_toArray, List.set_cons_zero, List.set_cons_succ, i64_w, i32_w]
    rfl
  refine pure_ (i := 5) (N := some 15) (v := ?_) (a' := ?_) #[true, true, true, true, false, true, false, false, false] rfl rfl (by kernel_rfl) (fun _ _ _ h => h) (Or.inl ⟨by rfl, ?_⟩) ?_ ?_
  rotate_left
  · intro w'
    go_simp
    with_reducible rfl
  rotate_left
  · simp only [Act.put, List.setIfInBounds_toArray, List.set_cons_zero, List.set_cons_succ, i64_w, i32_w]
    rfl
  refine take_ (i := 4) (N := some 14) (v := _) (a' := ?_) #[true, true, true, true, true, true, false, false, false] rfl rfl (by kernel_rfl) (fun _ _ _ h => h) (Or.inl ⟨by rfl, fun w2 h => h.load1 4 (.tmp 13) rfl rfl (by repeat (first | exact Pick.here _ | apply Pick.there)) Try.underlying4 rfl rfl⟩) hHeld ?_ ?_
  rotate_left
  · simp only [Act.put, List.setIfInBounds_toArray, List.set_cons_zero, List.set_cons_succ, i64_w, i32_w]
    rfl
  refine one_ (i := 6) (N := none) #[true, true, true, true, true, true, true, false, false] rfl rfl (by kernel_rfl) (by decide) (fun K hK => ?_)
  refine step_ (by rfl) rfl (HD.store 4 (.tmp 15) (.tmp 12) rfl rfl (by repeat (first | exact Pick.here _ | apply Pick.there)) (by first | (go_simp; done) | (go_simp; rfl)) _ rfl info4s (by simp [Value.oneCell', Value.cells]) (by simp [Value.cells]) rfl) ?_
  rintro _ w5 ⟨rfl, H5⟩
  simp only [putsAt, Value.cells, List.setIfInBounds_toArray, List.set_cons_zero, List.set_cons_succ, List.toList_toArray] at H5
  replace HD := H5
  clear H5
  refine hK.out _ _ (HD.take (p := [blk g1 #[.bool true, .bool c1, .bool c2, .int .u64 r, .int .u32 co, .int .u64 br, .int .u16 po, .int .u16 q1, .int .u16 q2, .int .u16 q3, .int .u16 q4] 48]) (.cons (by repeat (first | exact Pick.here _ | apply Pick.there)) (.nil _))) (fun hHeld => ?_)
  clear hK K
  refine pure_ (i := 7) (N := some 16) (v := ?_) (a' := ?_) #[true, true, true, true, true, true, true, true, false] rfl rfl (by kernel_rfl) (fun _ _ _ h => h) (Or.inl ⟨by rfl, ?_⟩) ?_ ?_
  rotate_left
  · intro w'
    go_simp
    with_reducible rfl
  rotate_left
  · simp only [Act.put, List.setIfInBounds_toArray, List.set_cons_zero, List.set_cons_succ, i64_w, i32_w]
    rfl
  refine one_ (i := 8) (N := none) #[true, true, true, true, true, true, true, true, true] rfl rfl (by kernel_rfl) (by decide) (fun K hK => ?_)
  refine step_ (by rfl) rfl (HD.store 4 (.tmp 16) (.tmp 14) rfl rfl (by repeat (first | exact Pick.here _ | apply Pick.there)) (by first | (go_simp; done) | (go_simp; rfl)) _ rfl info4s (by simp [Value.oneCell', Value.cells]) (by simp [Value.cells]) rfl) ?_
  rintro _ w5 ⟨rfl, H5⟩
  simp only [putsAt, Value.cells, List.setIfInBounds_toArray, List.set_cons_zero, List.set_cons_succ, List.toList_toArray] at H5
  replace HD := H5
  clear H5
  refine hK.out _ _ (HD.take (p := [blk g1 #[.bool true, .bool c1, .bool c2, .int .u64 r, .int .u32 co, .int .u64 br, .int .u16 po, .int .u16 q1, .int .u16 q2, .int .u16 q3, .int .u16 q4] 48]) (.cons (by repeat (first | exact Pick.here _ | apply Pick.there)) (.nil _))) (fun hHeld => ?_)
  clear hK K
  refine done_ (by kernel_rfl) ?_
  replace H := HD
  clear HD hHeld
  go_wp2_with fail
  refine startH (H.take (p := [blk g1 #[.bool true, .bool c1, .bool c2, .int .u64 r, .int .u32 co, .int .u64 br, .int .u16 po, .int .u16 q1, .int .u16 q2, .int .u16 q3, .int .u16 q4] 48, blk g3 #[.bool true, .bool (!c1), .bool c2, .int .u64 r, .int .u32 co, .int .u64 br, .int .u16 po, .int .u16 q1, .int .u16 q2, .int .u16 q3, .int .u16 q4] 48]) (.cons (by repeat (first | exact Pick.here _ | apply Pick.there)) (.cons (by repeat (first | exact Pick.here _ | apply Pick.there)) (.nil _)))) (n := 6) [] #[false, false, false, false, false, false] (by kernel_rfl) rfl rfl (fun hHeld => ?_)
  have HD := H.drew
  refine take_ (i := 0) (N := some 17) (v := _) (a' := ?_) #[true, false, false, false, false, false] rfl rfl (by kernel_rfl) (fun _ _ _ h => h) (Or.inl ⟨by rfl, fun w2 h => h.loadN 48 (.tmp 1) rfl rfl (by repeat (first | exact Pick.here _ | apply Pick.there)) #[.bool true, .bool c1, .bool c2, .int .u64 r, .int .u32 co, .int .u64 br, .int .u16 po, .int .u16 q1, .int .u16 q2, .int .u16 q3, .int .u16 q4] Try.underlying48 rfl info48s (fun j u hj => by simpa using hj)⟩) hHeld ?_ ?_
  rotate_left
  · simp only [Act.put, List.setIfInBounds_toArray, List.set_cons_zero, List.set_cons_succ, i64_w, i32_w]
    rfl
  refine take_ (i := 2) (N := some 19) (v := _) (a' := ?_) #[true, false, true, false, false, false] rfl rfl (by kernel_rfl) (fun _ _ _ h => h) (Or.inl ⟨by rfl, fun w2 h => h.loadN 48 (.tmp 3) rfl rfl (by repeat (first | exact Pick.here _ | apply Pick.there)) #[.bool true, .bool (!c1), .bool c2, .int .u64 r, .int .u32 co, .int .u64 br, .int .u16 po, .int .u16 q1, .int .u16 q2, .int .u16 q3, .int .u16 q4] Try.underlying48 rfl info48s (fun j u hj => by simpa using hj)⟩) hHeld ?_ ?_
  rotate_left
  · simp only [Act.put, List.setIfInBounds_toArray, List.set_cons_zero, List.set_cons_succ, i64_w, i32_w]
    rfl
  refine one_ (i := 1) (N := some 18) #[true, true, true, false, false, false] rfl rfl (by kernel_rfl) (by decide) (fun K hK => ?_)
  refine goes_ Try.func24 (by kernel_rfl) rfl #[.agg #[.bool true, .bool c1, .bool c2, .int .u64 r, .int .u32 co, .int .u64 br, .int .u16 po, .int .u16 q1, .int .u16 q2, .int .u16 q3, .int .u16 q4]] (by rfl) rfl rfl (by simp only [List.map_toArray, List.map_cons, List.map_nil]; rfl) ?_
  refine HD.call0 (BPut_tc _ c1 c2 r co br po q1 q2 q3 q4 r0 co0 br0 po0 q10 q20 q30 q40) ?_
  rintro v6 l1 w3 rfl H3
  obtain ⟨A6, c6, rfl, hc6, H4⟩ := named H3 4 (by kernel_rfl)
  replace HD := H4
  clear H3 H4 hc6
  refine ⟨_, rfl, ?_⟩
  refine hK.out _ _ (HD.take (p := [blk g1 #[.bool true, .bool c1, .bool c2, .int .u64 r, .int .u32 co, .int .u64 br, .int .u16 po, .int .u16 q1, .int .u16 q2, .int .u16 q3, .int .u16 q4] 48, blk g3 #[.bool true, .bool (!c1), .bool c2, .int .u64 r, .int .u32 co, .int .u64 br, .int .u16 po, .int .u16 q1, .int .u16 q2, .int .u16 q3, .int .u16 q4] 48]) (.cons (by repeat (first | exact Pick.here _ | apply Pick.there)) (.cons (by repeat (first | exact Pick.here _ | apply Pick.there)) (.nil _)))) (fun hHeld => ?_)
  clear hK K
  refine norm_ (a' := ?_) ?_ ?_
  rotate_left
  · show Act.put _ (some 18) _ = _
    simp only [Act.put, List.setIfInBounds_toArray, List.set_cons_zero, List.set_cons_succ, i64_w, i32_w]
    rfl
  refine one_ (i := 3) (N := some 20) #[true, true, true, true, false, false] rfl rfl (by kernel_rfl) (by decide) (fun K hK => ?_)
  refine goes_ Try.func24 (by kernel_rfl) rfl #[.agg #[.bool true, .bool (!c1), .bool c2, .int .u64 r, .int .u32 co, .int .u64 br, .int .u16 po, .int .u16 q1, .int .u16 q2, .int .u16 q3, .int .u16 q4]] (by rfl) rfl rfl (by simp only [List.map_toArray, List.map_cons, List.map_nil]; rfl) ?_
  refine HD.call0 (BPut_tc _ (!c1) c2 r co br po q1 q2 q3 q4 r0 co0 br0 po0 q10 q20 q30 q40) ?_
  rintro v6 l1 w3 rfl H3
  obtain ⟨A7, c7, rfl, hc7, H4⟩ := named H3 4 (by kernel_rfl)
  replace HD := H4
  clear H3 H4 hc7
  refine ⟨_, rfl, ?_⟩
  refine hK.out _ _ (HD.take (p := [blk g1 #[.bool true, .bool c1, .bool c2, .int .u64 r, .int .u32 co, .int .u64 br, .int .u16 po, .int .u16 q1, .int .u16 q2, .int .u16 q3, .int .u16 q4] 48, blk g3 #[.bool true, .bool (!c1), .bool c2, .int .u64 r, .int .u32 co, .int .u64 br, .int .u16 po, .int .u16 q1, .int .u16 q2, .int .u16 q3, .int .u16 q4] 48]) (.cons (by repeat (first | exact Pick.here _ | apply Pick.there)) (.cons (by repeat (first | exact Pick.here _ | apply Pick.there)) (.nil _)))) (fun hHeld => ?_)
  clear hK K
  refine norm_ (a' := ?_) ?_ ?_
  rotate_left
  · show Act.put _ (some 20) _ = _
    simp only [Act.put, List.setIfInBounds_toArray, List.set_cons_zero, List.set_cons_succ, i64_w, i32_w]
    rfl
  refine pure_ (i := 4) (N := some 4) (v := ?_) (a' := ?_) #[true, true, true, true, true, false] rfl rfl (by kernel_rfl) (fun _ _ _ h => h) (Or.inl ⟨by rfl, ?_⟩) ?_ ?_
  rotate_left
  · intro w'
    go_simp
    with_reducible rfl
  rotate_left
  · simp only [Act.put, List.setIfInBounds_toArray, List.set_cons_zero, List.set_cons_succ, i64_w, i32_w]
    rfl
  refine pure_ (i := 5) (N := some 5) (v := ?_) (a' := ?_) #[true, true, true, true, true, true] rfl rfl (by kernel_rfl) (fun _ _ _ h => h) (Or.inl ⟨by rfl, ?_⟩) ?_ ?_
  rotate_left
  · intro w'
    go_simp
    with_reducible rfl
  rotate_left
  · simp only [Act.put, List.setIfInBounds_toArray, List.set_cons_zero, List.set_cons_succ, i64_w, i32_w]
    rfl
  refine done_ (by kernel_rfl) ?_
  replace H := HD
  clear HD hHeld
  go_wp2_with (first | ((with_reducible refine gate_dst (N := 22) rfl ?_); refine Kd.event_run rfl (H.load1 4 (.tmp 21) rfl rfl (by repeat (first | exact Pick.here _ | apply Pick.there)) Try.underlying4 rfl rfl) ?_) | ((with_reducible refine gate_dst (N := 24) rfl ?_); refine Kd.event_run rfl (v := .string (strOfNums tcB)) (run_str rfl rfl Try.underlying25 Try.underlying5 Try.underlying9 (H.readsN (xs := tcB) (by repeat (first | exact Pick.here _ | apply Pick.there)))) ?_) | ((with_reducible refine gate_dst (N := 26) rfl ?_); refine Kd.event_run rfl (v := .string (strOfNums tcB)) (run_str rfl rfl Try.underlying25 Try.underlying5 Try.underlying9 (H.readsN (xs := tcB) (by repeat (first | exact Pick.here _ | apply Pick.there)))) ?_))
  go_ret
  exact ⟨rfl, H.below⟩

set_option maxHeartbeats 1000000 in
set_option maxRecDepth 100000 in
theorem Flags_0 (w : World) (r co br po q1 q2 q3 q4 : Int) (r0 : 0 ≤ r ∧ r < 18446744073709551616) (co0 : 0 ≤ co ∧ co < 4294967296) (br0 : 0 ≤ br ∧ br < 18446744073709551616) (po0 : 0 ≤ po ∧ po < 65536) (q10 : 0 ≤ q1 ∧ q1 < 65536) (q20 : 0 ≤ q2 ∧ q2 < 65536) (q30 : 0 ≤ q3 ∧ q3 < 65536) (q40 : 0 ≤ q4 ∧ q4 < 65536) :
    Calls Try.prog 9 #[.agg #[.bool false, .bool false, .bool false, .int .u64 r, .int .u32 co, .int .u64 br, .int .u16 po, .int .u16 q1, .int .u16 q2, .int .u16 q3, .int .u16 q4]] w (fun e w' => e = .returned (.bool true) ∧ Below w.heap.size w w') := by
  have H := Hp.nothing w
  go_enter Try.func9, Try.ntmps9
  go_wp2_with (first | ((with_reducible refine gate_dst (N := 1) rfl ?_); refine ev_ rfl (H.box rfl (by first | (go_simp; done) | (go_simp; rfl)) rfl) ?_; rintro _ w1 ⟨g1, rfl, H1⟩; (try simp only [Value.cells] at H1); replace H := H1; clear H1) | ((with_reducible refine gate_dst (N := 9) rfl ?_); refine Kd.event_run rfl (H.loadN 48 (.tmp 1) rfl rfl (by repeat (first | exact Pick.here _ | apply Pick.there)) #[.bool false, .bool false, .bool false, .int .u64 r, .int .u32 co, .int .u64 br, .int .u16 po, .int .u16 q1, .int .u16 q2, .int .u16 q3, .int .u16 q4] Try.underlying48 rfl info48s (fun j u hj => by simpa using hj)) ?_) | ((with_reducible refine gate_dst (N := 3) rfl ?_); refine ev_ rfl (H.new (cs := #[.bool false, .bool false, .bool false, .int .u64 0, .int .u32 0, .int .u64 0, .int .u16 0, .int .u16 0, .int .u16 0, .int .u16 0, .int .u16 0]) (t := 48) (by first | (go_simp; done) | (go_simp; rfl))) ?_; rintro _ w1 ⟨g3, rfl, H1⟩; replace H := H1; clear H1) | ((with_reducible refine gate_store (p := 3) rfl ?_); refine ev_ rfl (H.store 48 (.tmp 3) (.tmp 9) rfl rfl (by repeat (first | exact Pick.here _ | apply Pick.there)) (by first | (go_simp; done) | (go_simp; rfl)) _ rfl info48s (by simp [Value.oneCell', Value.cells]) (by simp [Value.cells]) rfl) ?_; rintro _ w1 ⟨rfl, H1⟩; (try simp only [putsAt, Value.cells, List.setIfInBounds_toArray, List.set_cons_zero, List.set_cons_succ, List.toList_toArray] at H1); replace H := H1; clear H1) | (go_at_call 23; refine H.call1 (awake_calls _) ?_; intro w1 H1; replace H := H1; clear H1))
  refine startH (H.take (p := [blk g1 #[.bool false, .bool false, .bool false, .int .u64 r, .int .u32 co, .int .u64 br, .int .u16 po, .int .u16 q1, .int .u16 q2, .int .u16 q3, .int .u16 q4] 48]) (.cons (by repeat (first | exact Pick.here _ | apply Pick.there)) (.nil _))) (n := 9) [] #[false, false, false, false, false, false, false, false, false] (by kernel_rfl) rfl rfl (fun hHeld => ?_)
  have HD := H.drew
  refine pure_ (i := 0) (N := some 10) (v := ?_) (a' := ?_) #[true, false, false, false, false, false, false, false, false] rfl rfl (by kernel_rfl) (fun _ _ _ h => h) (Or.inl ⟨by rfl, ?_⟩) ?_ ?_
  rotate_left
  · intro w'
    go_simp
    with_reducible rfl
  rotate_left
  · simp only [Act.put, List.setIfInBounds_toArray, List.set_cons_zero, List.set_cons_succ, i64_w, i32_w]
    rfl
  refine pure_ (i := 3) (N := some 13) (v := ?_) (a' := ?_) #[true, false, false, true, false, false, false, false, false] rfl rfl (by kernel_rfl) (fun _ _ _ h => h) (Or.inl ⟨by rfl, ?_⟩) ?_ ?_
  rotate_left
  · intro w'
    go_simp
    with_reducible rfl
  rotate_left
  · simp only [Act.put, List.setIfInBounds_toArray, List.set_cons_zero, List.set_cons_succ, i64_w, i32_w]
    rfl
  refine take_ (i := 1) (N := some 11) (v := _) (a' := ?_) #[true, true, false, true, false, false, false, false, false] rfl rfl (by kernel_rfl) (fun _ _ _ h => h) (Or.inl ⟨by rfl, fun w2 h => h.load1 4 (.tmp 10) rfl rfl (by repeat (first | exact Pick.here _ | apply Pick.there)) Try.underlying4 rfl rfl⟩) hHeld ?_ ?_
  rotate_left
  · simp only [Act.put, List.setIfInBounds_toArray, List.set_cons_zero, List.set_cons_succ, i64_w, i32_w]
    rfl
  refine pure_ (i := 2) (N := some 12) (v := ?_) (a' := ?_) #[true, true, true, true, false, false, false, false, false] rfl rfl (by kernel_rfl) (fun _ _ _ h => h) (Or.inl ⟨by rfl, ?_⟩) ?_ ?_
  rotate_left
  · intro w'
    go_simp
    with_reducible rfl
  rotate_left
  · simp only [Act.put, List.setIfInBounds_toArray, List.set_cons_zero, List.set_cons_succ, i64_w, i32_w]
    rfl
  refine pure_ (i := 5) (N := some 15) (v := ?_) (a' := ?_) #[true, true, true, true, false, true, false, false, false] rfl rfl (by kernel_rfl) (fun _ _ _ h => h) (Or.inl ⟨by rfl, ?_⟩) ?_ ?_
  rotate_left
  · intro w'
    go_simp
    with_reducible rfl
  rotate_left
  · simp only [Act.put, List.setIfInBounds_toArray, List.set_cons_zero, List.set_cons_succ, i64_w, i32_w]
    rfl
  refine take_ (i := 4) (N := some 14) (v := _) (a' := ?_) #[true, true, true, true, true, true, false, false, false] rfl rfl (by kernel_rfl) (fun _ _ _ h => h) (Or.inl ⟨by rfl, fun w2 h => h.load1 4 (.tmp 13) rfl rfl (by repeat (first | exact Pick.here _ | apply Pick.there)) Try.underlying4 rfl rfl⟩) hHeld ?_ ?_
  rotate_left
  · simp only [Act.put, List.setIfInBounds_toArray, List.set_cons_zero, List.set_cons_succ, i64_w, i32_w]
    rfl
  refine one_ (i := 6) (N := none) #[true, true, true, true, true, true, true, false, false] rfl rfl (by kernel_rfl) (by decide) (fun K hK => ?_)
  refine step_ (by rfl) rfl (HD.store 4 (.tmp 15) (.tmp 12) rfl rfl (by repeat (first | exact Pick.here _ | apply Pick.there)) (by first | (go_simp; done) | (go_simp; rfl)) _ rfl info4s (by simp [Value.oneCell', Value.cells]) (by simp [Value.cells]) rfl) ?_
  rintro _ w5 ⟨rfl, H5⟩
  simp only [putsAt, Value.cells, List.setIfInBounds_toArray, List.set_cons_zero, List.set_cons_succ, List.toList_toArray] at H5
  replace HD := H5
  clear H5
  refine hK.out _ _ (HD.take (p := [blk g1 #[.bool false, .bool false, .bool false, .int .u64 r, .int .u32 co, .int .u64 br, .int .u16 po, .int .u16 q1, .int .u16 q2, .int .u16 q3, .int .u16 q4] 48]) (.cons (by repeat (first | exact Pick.here _ | apply Pick.there)) (.nil _))) (fun hHeld => ?_)
  clear hK K
  refine pure_ (i := 7) (N := some 16) (v := ?_) (a' := ?_) #[true, true, true, true, true, true, true, true, false] rfl rfl (by kernel_rfl) (fun _ _ _ h => h) (Or.inl ⟨by rfl, ?_⟩) ?_ ?_
  rotate_left
  · intro w'
    go_simp
    with_reducible rfl
  rotate_left
  · simp only [Act.put, List.setIfInBounds_toArray, List.set_cons_zero, List.set_cons_succ, i64_w, i32_w]
    rfl
  refine one_ (i := 8) (N := none) #[true, true, true, true, true, true, true, true, true] rfl rfl (by kernel_rfl) (by decide) (fun K hK => ?_)
  refine step_ (by rfl) rfl (HD.store 4 (.tmp 16) (.tmp 14) rfl rfl (by repeat (first | exact Pick.here _ | apply Pick.there)) (by first | (go_simp; done) | (go_simp; rfl)) _ rfl info4s (by simp [Value.oneCell', Value.cells]) (by simp [Value.cells]) rfl) ?_
  rintro _ w5 ⟨rfl, H5⟩
  simp only [putsAt, Value.cells, List.setIfInBounds_toArray, List.set_cons_zero, List.set_cons_succ, List.toList_toArray] at H5
  replace HD := H5
  clear H5
  refine hK.out _ _ (HD.take (p := [blk g1 #[.bool false, .bool false, .bool false, .int .u64 r, .int .u32 co, .int .u64 br, .int .u16 po, .int .u16 q1, .int .u16 q2, .int .u16 q3, .int .u16 q4] 48]) (.cons (by repeat (first | exact Pick.here _ | apply Pick.there)) (.nil _))) (fun hHeld => ?_)
  clear hK K
  refine done_ (by kernel_rfl) ?_
  replace H := HD
  clear HD hHeld
  go_wp2_with fail
  refine startH (H.take (p := [blk g1 #[.bool false, .bool false, .bool false, .int .u64 r, .int .u32 co, .int .u64 br, .int .u16 po, .int .u16 q1, .int .u16 q2, .int .u16 q3, .int .u16 q4] 48, blk g3 #[.bool false, .bool true, .bool false, .int .u64 r, .int .u32 co, .int .u64 br, .int .u16 po, .int .u16 q1, .int .u16 q2, .int .u16 q3, .int .u16 q4] 48]) (.cons (by repeat (first | exact Pick.here _ | apply Pick.there)) (.cons (by repeat (first | exact Pick.here _ | apply Pick.there)) (.nil _)))) (n := 6) [] #[false, false, false, false, false, false] (by kernel_rfl) rfl rfl (fun hHeld => ?_)
  have HD := H.drew
  refine take_ (i := 0) (N := some 17) (v := _) (a' := ?_) #[true, false, false, false, false, false] rfl rfl (by kernel_rfl) (fun _ _ _ h => h) (Or.inl ⟨by rfl, fun w2 h => h.loadN 48 (.tmp 1) rfl rfl (by repeat (first | exact Pick.here _ | apply Pick.there)) #[.bool false, .bool false, .bool false, .int .u64 r, .int .u32 co, .int .u64 br, .int .u16 po, .int .u16 q1, .int .u16 q2, .int .u16 q3, .int .u16 q4] Try.underlying48 rfl info48s (fun j u hj => by simpa using hj)⟩) hHeld ?_ ?_
  rotate_left
  · simp only [Act.put, List.setIfInBounds_toArray, List.set_cons_zero, List.set_cons_succ, i64_w, i32_w]
    rfl
  refine take_ (i := 2) (N := some 19) (v := _) (a' := ?_) #[true, false, true, false, false, false] rfl rfl (by kernel_rfl) (fun _ _ _ h => h) (Or.inl ⟨by rfl, fun w2 h => h.loadN 48 (.tmp 3) rfl rfl (by repeat (first | exact Pick.here _ | apply Pick.there)) #[.bool false, .bool true, .bool false, .int .u64 r, .int .u32 co, .int .u64 br, .int .u16 po, .int .u16 q1, .int .u16 q2, .int .u16 q3, .int .u16 q4] Try.underlying48 rfl info48s (fun j u hj => by simpa using hj)⟩) hHeld ?_ ?_
  rotate_left
  · simp only [Act.put, List.setIfInBounds_toArray, List.set_cons_zero, List.set_cons_succ, i64_w, i32_w]
    rfl
  refine one_ (i := 1) (N := some 18) #[true, true, true, false, false, false] rfl rfl (by kernel_rfl) (by decide) (fun K hK => ?_)
  refine goes_ Try.func24 (by kernel_rfl) rfl #[.agg #[.bool false, .bool false, .bool false, .int .u64 r, .int .u32 co, .int .u64 br, .int .u16 po, .int .u16 q1, .int .u16 q2, .int .u16 q3, .int .u16 q4]] (by rfl) rfl rfl (by simp only [List.map_toArray, List.map_cons, List.map_nil]; rfl) ?_
  refine HD.call0 (BPut_conf _ false false r co br po q1 q2 q3 q4 r0 co0 br0 po0 q10 q20 q30 q40) ?_
  rintro v6 l1 w3 rfl H3
  obtain ⟨A6, c6, rfl, hc6, H4⟩ := named H3 35 (confB_length ..)
  replace HD := H4
  clear H3 H4 hc6
  refine ⟨_, rfl, ?_⟩
  refine hK.out _ _ (HD.take (p := [blk g1 #[.bool false, .bool false, .bool false, .int .u64 r, .int .u32 co, .int .u64 br, .int .u16 po, .int .u16 q1, .int .u16 q2, .int .u16 q3, .int .u16 q4] 48, blk g3 #[.bool false, .bool true, .bool false, .int .u64 r, .int .u32 co, .int .u64 br, .int .u16 po, .int .u16 q1, .int .u16 q2, .int .u16 q3, .int .u16 q4] 48]) (.cons (by repeat (first | exact Pick.here _ | apply Pick.there)) (.cons (by repeat (first | exact Pick.here _ | apply Pick.there)) (.nil _)))) (fun hHeld => ?_)
  clear hK K
  refine norm_ (a' := ?_) ?_ ?_
  rotate_left
  · show Act.put _ (some 18) _ = _
    simp only [Act.put, List.setIfInBounds_toArray, List.set_cons_zero, List.set_cons_succ, i64_w, i32_w]
    rfl
  refine one_ (i := 3) (N := some 20) #[true, true, true, true, false, false] rfl rfl (by kernel_rfl) (by decide) (fun K hK => ?_)
  refine goes_ Try.func24 (by kernel_rfl) rfl #[.agg #[.bool false, .bool true, .bool false, .int .u64 r, .int .u32 co, .int .u64 br, .int .u16 po, .int .u16 q1, .int .u16 q2, .int .u16 q3, .int .u16 q4]] (by rfl) rfl rfl (by simp only [List.map_toArray, List.map_cons, List.map_nil]; rfl) ?_
  refine HD.call0 (BPut_conf _ true false r co br po q1 q2 q3 q4 r0 co0 br0 po0 q10 q20 q30 q40) ?_
  rintro v6 l1 w3 rfl H3
  obtain ⟨A7, c7, rfl, hc7, H4⟩ := named H3 35 (confB_length ..)
  replace HD := H4
  clear H3 H4 hc7
  refine ⟨_, rfl, ?_⟩
  refine hK.out _ _ (HD.take (p := [blk g1 #[.bool false, .bool false, .bool false, .int .u64 r, .int .u32 co, .int .u64 br, .int .u16 po, .int .u16 q1, .int .u16 q2, .int .u16 q3, .int .u16 q4] 48, blk g3 #[.bool false, .bool true, .bool false, .int .u64 r, .int .u32 co, .int .u64 br, .int .u16 po, .int .u16 q1, .int .u16 q2, .int .u16 q3, .int .u16 q4] 48]) (.cons (by repeat (first | exact Pick.here _ | apply Pick.there)) (.cons (by repeat (first | exact Pick.here _ | apply Pick.there)) (.nil _)))) (fun hHeld => ?_)
  clear hK K
  refine norm_ (a' := ?_) ?_ ?_
  rotate_left
  · show Act.put _ (some 20) _ = _
    simp only [Act.put, List.setIfInBounds_toArray, List.set_cons_zero, List.set_cons_succ, i64_w, i32_w]
    rfl
  refine pure_ (i := 4) (N := some 4) (v := ?_) (a' := ?_) #[true, true, true, true, true, false] rfl rfl (by kernel_rfl) (fun _ _ _ h => h) (Or.inl ⟨by rfl, ?_⟩) ?_ ?_
  rotate_left
  · intro w'
    go_simp
    with_reducible rfl
  rotate_left
  · simp only [Act.put, List.setIfInBounds_toArray, List.set_cons_zero, List.set_cons_succ, i64_w, i32_w]
    rfl
  refine pure_ (i := 5) (N := some 5) (v := ?_) (a' := ?_) #[true, true, true, true, true, true] rfl rfl (by kernel_rfl) (fun _ _ _ h => h) (Or.inl ⟨by rfl, ?_⟩) ?_ ?_
  rotate_left
  · intro w'
    go_simp
    with_reducible rfl
  rotate_left
  · simp only [Act.put, List.setIfInBounds_toArray, List.set_cons_zero, List.set_cons_succ, i64_w, i32_w]
    rfl
  refine done_ (by kernel_rfl) ?_
  replace H := HD
  clear HD hHeld
  go_wp2_with (first | ((with_reducible refine gate_dst (N := 22) rfl ?_); refine Kd.event_run rfl (H.load1 4 (.tmp 21) rfl rfl (by repeat (first | exact Pick.here _ | apply Pick.there)) Try.underlying4 rfl rfl) ?_))
  obtain ⟨g6, rfl⟩ := H.form (A := A6) (xs := confB false false r co br po q1 q2 q3 q4) (by repeat (first | exact Pick.here _ | apply Pick.there)) (by rw [confB_length]; decide)
  obtain ⟨g7, rfl⟩ := H.form (A := A7) (xs := confB true false r co br po q1 q2 q3 q4) (by repeat (first | exact Pick.here _ | apply Pick.there)) (by rw [confB_length]; decide)
  have hF1 : (confB false false r co br po q1 q2 q3 q4)[4]? = some 0 := confB_4 _ _ _ _ _ _ _ _ _ _
  have hF2 : (confB true false r co br po q1 q2 q3 q4)[4]? = some 1 := confB_4 _ _ _ _ _ _ _ _ _ _
  replace H := H.take (p := [row (Kd.int .u8) 5 (.slice (some ⟨g6, 0, none⟩) 35 c6) (confB false false r co br po q1 q2 q3 q4), row (Kd.int .u8) 5 (.slice (some ⟨g7, 0, none⟩) 35 c7) (confB true false r co br po q1 q2 q3 q4), blk g1 #[.bool false, .bool false, .bool false, .int .u64 r, .int .u32 co, .int .u64 br, .int .u16 po, .int .u16 q1, .int .u16 q2, .int .u16 q3, .int .u16 q4] 48]) (.cons (by repeat (first | exact Pick.here _ | apply Pick.there)) (.cons (by repeat (first | exact Pick.here _ | apply Pick.there)) (.cons (by repeat (first | exact Pick.here _ | apply Pick.there)) (.nil _))))
  refine startH H (n := 18) [] #[false, false, false, false, false, false, false, false, false, false, false, false, false, false, false, false, false, false] (by kernel_rfl) rfl rfl (fun hHeld => ?_)
  have HD := H.drew
  refine pure_ (i := 0) (N := some 28) (v := ?_) (a' := ?_) #[true, false, false, false, false, false, false, false, false, false, false, false, false, false, false, false, false, false] rfl rfl (by kernel_rfl) (fun _ _ _ h => h) (Or.inl ⟨by rfl, ?_⟩) ?_ ?_
  rotate_left
  · intro w'
    go_simp
    with_reducible rfl
  rotate_left
  · simp only [Act.put, List.setIfInBounds_toArray, List.set_cons_zero, List.set_cons_succ, i64_w, i32_w]
    rfl
  refine pure_ (i := 1) (N := some 29) (v := ?_) (a' := ?_) #[true, true, false, false, false, false, false, false, false, false, false, false, false, false, false, false, false, false] rfl rfl (by kernel_rfl) (fun _ _ _ h => h) (Or.inl ⟨by rfl, ?_⟩) ?_ ?_
  rotate_left
  · intro w'
    go_simp
    with_reducible rfl
  rotate_left
  · simp only [Act.put, List.setIfInBounds_toArray, List.set_cons_zero, List.set_cons_succ, i64_w, i32_w]
    rfl
  refine pure_ (i := 2) (N := some 30) (v := ?_) (a' := ?_) #[true, true, true, false, false, false, false, false, false, false, false, false, false, false, false, false, false, false] rfl rfl (by kernel_rfl) (fun _ _ _ h => h) (Or.inl ⟨by rfl, ?_⟩) ?_ ?_
  rotate_left
  · intro w'
    go_simp
    with_reducible rfl
  rotate_left
  · simp only [Act.put, List.setIfInBounds_toArray, List.set_cons_zero, List.set_cons_succ, i64_w, i32_w]
    rfl
  refine pure_ (i := 3) (N := some 31) (v := ?_) (a' := ?_) #[true, true, true, true, false, false, false, false, false, false, false, false, false, false, false, false, false, false] rfl rfl (by kernel_rfl) (fun _ _ _ h => h) (Or.inl ⟨by rfl, ?_⟩) ?_ ?_
  rotate_left
  · intro w'
    go_simp
    with_reducible rfl
  rotate_left
  · simp only [Act.put, List.setIfInBounds_toArray, List.set_cons_zero, List.set_cons_succ, i64_w, i32_w]
    rfl
  refine pure_ (i := 4) (N := some 32) (v := ?_) (a' := ?_) #[true, true, true, true, true, false, false, false, false, false, false, false, false, false, false, false, false, false] rfl rfl (by kernel_rfl) (fun _ _ _ h => h) (Or.inl ⟨by rfl, ?_⟩) ?_ ?_
  rotate_left
  · intro w'
    go_simp
    with_reducible rfl
  rotate_left
  · simp only [Act.put, List.setIfInBounds_toArray, List.set_cons_zero, List.set_cons_succ, i64_w, i32_w]
    rfl
  refine pure_ (i := 5) (N := some 33) (v := ?_) (a' := ?_) #[true, true, true, true, true, true, false, false, false, false, false, false, false, false, false, false, false, false] rfl rfl (by kernel_rfl) (fun _ _ _ h => h) (Or.inl ⟨by rfl, ?_⟩) ?_ ?_
  rotate_left
  · intro w'
    go_simp
    with_reducible rfl
  rotate_left
  · simp only [Act.put, List.setIfInBounds_toArray, List.set_cons_zero, List.set_cons_succ, i64_w, i32_w]
    rfl
  refine pure_ (i := 6) (N := some 34) (v := ?_) (a' := ?_) #[true, true, true, true, true, true, true, false, false, false, false, false, false, false, false, false, false, false] rfl rfl (by kernel_rfl) (fun _ _ _ h => h) (Or.inl ⟨by rfl, ?_⟩) ?_ ?_
  rotate_left
  · intro w'
    go_simp
    with_reducible rfl
  rotate_left
  · simp only [Act.put, List.setIfInBounds_toArray, List.set_cons_zero, List.set_cons_succ, i64_w, i32_w]
    rfl
  refine pure_ (i := 7) (N := some 35) (v := ?_) (a' := ?_) #[true, true, true, true, true, true, true, true, false, false, false, false, false, false, false, false, false, false] rfl rfl (by kernel_rfl) (fun _ _ _ h => h) (Or.inl ⟨by rfl, ?_⟩) ?_ ?_
  rotate_left
  · intro w'
    go_simp
    with_reducible rfl
  rotate_left
  · simp only [Act.put, List.setIfInBounds_toArray, List.set_cons_zero, List.set_cons_succ, i64_w, i32_w]
    rfl
  refine pure_ (i := 8) (N := some 36) (v := ?_) (a' := ?_) #[true, true, true, true, true, true, true, true, true, false, false, false, false, false, false, false, false, false] rfl rfl (by kernel_rfl) (fun _ _ _ h => h) (Or.inl ⟨by rfl, ?_⟩) ?_ ?_
  rotate_left
  · intro w'
    go_simp
    with_reducible rfl
  rotate_left
  · simp only [Act.put, List.setIfInBounds_toArray, List.set_cons_zero, List.set_cons_succ, i64_w, i32_w]
    rfl
  refine pure_ (i := 9) (N := some 37) (v := ?_) (a' := ?_) #[true, true, true, true, true, true, true, true, true, true, false, false, false, false, false, false, false, false] rfl rfl (by kernel_rfl) (fun _ _ _ h => h) (Or.inl ⟨by rfl, ?_⟩) ?_ ?_
  rotate_left
  · intro w'
    go_simp
    with_reducible rfl
  rotate_left
  · simp only [Act.put, List.setIfInBounds_toArray, List.set_cons_zero, List.set_cons_succ, i64_w, i32_w]
    rfl
  refine pure_ (i := 10) (N := some 38) (v := ?_) (a' := ?_) #[true, true, true, true, true, true, true, true, true, true, true, false, false, false, false, false, false, false] rfl rfl (by kernel_rfl) (fun _ _ _ h => h) (Or.inl ⟨by rfl, ?_⟩) ?_ ?_
  rotate_left
  · intro w'
    go_simp
    with_reducible rfl
  rotate_left
  · simp only [Act.put, List.setIfInBounds_toArray, List.set_cons_zero, List.set_cons_succ, i64_w, i32_w]
    rfl
  refine pure_ (i := 12) (N := some 40) (v := ?_) (a' := ?_) #[true, true, true, true, true, true, true, true, true, true, true, false, true, false, false, false, false, false] rfl rfl (by kernel_rfl) (fun _ _ _ h => h) (Or.inl ⟨by rfl, ?_⟩) ?_ ?_
  rotate_left
  · intro w'
    go_simp
    with_reducible rfl
  rotate_left
  · simp only [Act.put, List.setIfInBounds_toArray, List.set_cons_zero, List.set_cons_succ, i64_w, i32_w]
    rfl
  refine pure_ (i := 13) (N := some 41) (v := ?_) (a' := ?_) #[true, true, true, true, true, true, true, true, true, true, true, false, true, true, false, false, false, false] rfl rfl (by kernel_rfl) (fun _ _ _ h => h) (Or.inl ⟨by rfl, ?_⟩) ?_ ?_
  rotate_left
  · intro w'
    go_simp
    with_reducible rfl
  rotate_left
  · simp only [Act.put, List.setIfInBounds_toArray, List.set_cons_zero, List.set_cons_succ, i64_w, i32_w]
    rfl
  refine take_ (i := 11) (N := some 39) (v := _) (a' := ?_) #[true, true, true, true, true, true, true, true, true, true, true, true, true, true, false, false, false, false] rfl rfl (by kernel_rfl) (fun _ _ _ h => h) (Or.inl ⟨by rfl, fun w2 h => run_loadCell rfl rfl Try.underlying5 rfl (h.rowCell (g := g6) (by repeat (first | exact Pick.here _ | apply Pick.there)) 4 0 hF1)⟩) hHeld ?_ ?_
  rotate_left
  · simp only [Act.put, List.setIfInBounds_toArray, List.set_cons_zero, List.set_cons_succ, i64_w, i32_w]
    rfl
  refine take_ (i := 14) (N := some 42) (v := _) (a' := ?_) #[true, true, true, true, true, true, true, true, true, true, true, true, true, true, true, false, false, false] rfl rfl (by kernel_rfl) (fun _ _ _ h => h) (Or.inl ⟨by rfl, fun w2 h => run_loadCell rfl rfl Try.underlying5 rfl (h.rowCell (g := g7) (by repeat (first | exact Pick.here _ | apply Pick.there)) 4 1 hF2)⟩) hHeld ?_ ?_
  rotate_left
  · simp only [Act.put, List.setIfInBounds_toArray, List.set_cons_zero, List.set_cons_succ, i64_w, i32_w]
    rfl
  refine pure_ (i := 15) (N := some 43) (v := ?_) (a' := ?_) #[true, true, true, true, true, true, true, true, true, true, true, true, true, true, true, true, false, false] rfl rfl (by kernel_rfl) (fun _ _ _ h => h) (Or.inl ⟨by rfl, ?_⟩) ?_ ?_
  rotate_left
  · intro w'
    go_simp
    with_reducible rfl
  rotate_left
  · simp only [Act.put, List.setIfInBounds_toArray, List.set_cons_zero, List.set_cons_succ, i64_w, i32_w]
    rfl
  refine pure_ (i := 16) (N := some 44) (v := ?_) (a' := ?_) #[true, true, true, true, true, true, true, true, true, true, true, true, true, true, true, true, true, false] rfl rfl (by kernel_rfl) (fun _ _ _ h => h) (Or.inl ⟨by rfl, ?_⟩) ?_ ?_
  rotate_left
  · intro w'
    go_simp
    with_reducible rfl
  rotate_left
  · simp only [Act.put, List.setIfInBounds_toArray, List.set_cons_zero, List.set_cons_succ, i64_w, i32_w]
    rfl
  refine pure_ (i := 17) (N := some 45) (v := ?_) (a' := ?_) #[true, true, true, true, true, true, true, true, true, true, true, true, true, true, true, true, true, true] rfl rfl (by kernel_rfl) (fun _ _ _ h => h) (Or.inl ⟨by rfl, ?_⟩) ?_ ?_
  rotate_left
  · intro w'
    go_simp
    with_reducible rfl
  rotate_left
  · simp only [Act.put, List.setIfInBounds_toArray, List.set_cons_zero, List.set_cons_succ, i64_w, i32_w]
    rfl
  refine done_ (by kernel_rfl) ?_
  replace H := HD
  clear HD hHeld
  go_wp2_with fail
  replace H := Aside0.mk H
  go_loopw [6] (fun v6 wr => ∃ k : Nat, k ≤ 35 ∧ v6 = .int .i64 (k : Int) ∧ Aside0 (Hp (fun _ => False) w wr [row (Kd.int .u8) 5 (.slice (some ⟨g6, 0, none⟩) 35 c6) (confB false false r co br po q1 q2 q3 q4), row (Kd.int .u8) 5 (.slice (some ⟨g7, 0, none⟩) 35 c7) (confB true false r co br po q1 q2 q3 q4), blk g1 #[.bool false, .bool false, .bool false, .int .u64 r, .int .u32 co, .int .u64 br, .int .u16 po, .int .u16 q1, .int .u16 q2, .int .u16 q3, .int .u16 q4] 48])) (fun v6 _ => 35 - (intOf v6).toNat)
  case atStart => exact ⟨0, by decide, rfl, H⟩
  case round =>
    obtain ⟨k, hk, rfl, H⟩ := hrel
    by_cases hlt : k < 35
    · have d1 : decide (k < 35) = true := decide_eq_true hlt
      have d2 : decide ((k : Int) < 35) = true := decide_eq_true (by omega)
      by_cases h4 : k = 4
      · subst h4
        go_wp2_with fail
        refine startH H.out (n := 13) [] #[false, false, false, false, false, false, false, false, false, false, false, false, false] (by kernel_rfl) rfl rfl (fun hHeld => ?_)
        have HD := H.out.drew
        refine pure_ (i := 0) (N := some 50) (v := ?_) (a' := ?_) #[true, false, false, false, false, false, false, false, false, false, false, false, false] rfl rfl (by kernel_rfl) (fun _ _ _ h => h) (Or.inl ⟨by rfl, ?_⟩) ?_ ?_
        rotate_left
        · intro w'
          go_simp
          with_reducible rfl
        rotate_left
        · simp only [Act.put, List.setIfInBounds_toArray, List.set_cons_zero, List.set_cons_succ, i64_w, i32_w]
          rfl
        refine pure_ (i := 1) (N := some 51) (v := ?_) (a' := ?_) #[true, true, false, false, false, false, false, false, false, false, false, false, false] rfl rfl (by kernel_rfl) (fun _ _ _ h => h) (Or.inl ⟨by rfl, ?_⟩) ?_ ?_
        rotate_left
        · intro w'
          go_simp
          with_reducible rfl
        rotate_left
        · simp only [Act.put, List.setIfInBounds_toArray, List.set_cons_zero, List.set_cons_succ, i64_w, i32_w]
          rfl
        refine pure_ (i := 2) (N := some 52) (v := ?_) (a' := ?_) #[true, true, true, false, false, false, false, false, false, false, false, false, false] rfl rfl (by kernel_rfl) (fun _ _ _ h => h) (Or.inl ⟨by rfl, ?_⟩) ?_ ?_
        rotate_left
        · intro w'
          go_simp
          with_reducible rfl
        rotate_left
        · simp only [Act.put, List.setIfInBounds_toArray, List.set_cons_zero, List.set_cons_succ, i64_w, i32_w]
          rfl
        refine pure_ (i := 3) (N := some 53) (v := undef) (a' := ?_) #[true, true, true, true, false, false, false, false, false, false, false, false, false] rfl rfl (by kernel_rfl) (fun _ _ _ h => h) (Or.inr ⟨by rfl, rfl⟩) ?_ ?_
        rotate_left
        · simp only [Act.put, List.setIfInBounds_toArray, List.set_cons_zero, List.set_cons_succ, i64_w, i32_w]
          rfl
        refine pure_ (i := 4) (N := some 54) (v := undef) (a' := ?_) #[true, true, true, true, true, false, false, false, false, false, false, false, false] rfl rfl (by kernel_rfl) (fun _ _ _ h => h) (Or.inr ⟨by rfl, rfl⟩) ?_ ?_
        rotate_left
        · simp only [Act.put, List.setIfInBounds_toArray, List.set_cons_zero, List.set_cons_succ, i64_w, i32_w]
          rfl
        refine pure_ (i := 5) (N := some 55) (v := undef) (a' := ?_) #[true, true, true, true, true, true, false, false, false, false, false, false, false] rfl rfl (by kernel_rfl) (fun _ _ _ h => h) (Or.inr ⟨by rfl, rfl⟩) ?_ ?_
        rotate_left
        · simp only [Act.put, List.setIfInBounds_toArray, List.set_cons_zero, List.set_cons_succ, i64_w, i32_w]
          rfl
        refine pure_ (i := 6) (N := some 56) (v := undef) (a' := ?_) #[true, true, true, true, true, true, true, false, false, false, false, false, false] rfl rfl (by kernel_rfl) (fun _ _ _ h => h) (Or.inr ⟨by rfl, rfl⟩) ?_ ?_
        rotate_left
        · simp only [Act.put, List.setIfInBounds_toArray, List.set_cons_zero, List.set_cons_succ, i64_w, i32_w]
          rfl
        refine pure_ (i := 7) (N := some 57) (v := undef) (a' := ?_) #[true, true, true, true, true, true, true, true, false, false, false, false, false] rfl rfl (by kernel_rfl) (fun _ _ _ h => h) (Or.inr ⟨by rfl, rfl⟩) ?_ ?_
        rotate_left
        · simp only [Act.put, List.setIfInBounds_toArray, List.set_cons_zero, List.set_cons_succ, i64_w, i32_w]
          rfl
        refine pure_ (i := 8) (N := some 58) (v := undef) (a' := ?_) #[true, true, true, true, true, true, true, true, true, false, false, false, false] rfl rfl (by kernel_rfl) (fun _ _ _ h => h) (Or.inr ⟨by rfl, rfl⟩) ?_ ?_
        rotate_left
        · simp only [Act.put, List.setIfInBounds_toArray, List.set_cons_zero, List.set_cons_succ, i64_w, i32_w]
          rfl
        refine pure_ (i := 9) (N := some 59) (v := undef) (a' := ?_) #[true, true, true, true, true, true, true, true, true, true, false, false, false] rfl rfl (by kernel_rfl) (fun _ _ _ h => h) (Or.inr ⟨by rfl, rfl⟩) ?_ ?_
        rotate_left
        · simp only [Act.put, List.setIfInBounds_toArray, List.set_cons_zero, List.set_cons_succ, i64_w, i32_w]
          rfl
        refine pure_ (i := 10) (N := some 60) (v := undef) (a' := ?_) #[true, true, true, true, true, true, true, true, true, true, true, false, false] rfl rfl (by kernel_rfl) (fun _ _ _ h => h) (Or.inr ⟨by rfl, rfl⟩) ?_ ?_
        rotate_left
        · simp only [Act.put, List.setIfInBounds_toArray, List.set_cons_zero, List.set_cons_succ, i64_w, i32_w]
          rfl
        refine pure_ (i := 11) (N := some 61) (v := undef) (a' := ?_) #[true, true, true, true, true, true, true, true, true, true, true, true, false] rfl rfl (by kernel_rfl) (fun _ _ _ h => h) (Or.inr ⟨by rfl, rfl⟩) ?_ ?_
        rotate_left
        · simp only [Act.put, List.setIfInBounds_toArray, List.set_cons_zero, List.set_cons_succ, i64_w, i32_w]
          rfl
        refine pure_ (i := 12) (N := some 62) (v := ?_) (a' := ?_) #[true, true, true, true, true, true, true, true, true, true, true, true, true] rfl rfl (by kernel_rfl) (fun _ _ _ h => h) (Or.inl ⟨by rfl, ?_⟩) ?_ ?_
        rotate_left
        · intro w'
          go_simp
          with_reducible rfl
        rotate_left
        · simp only [Act.put, List.setIfInBounds_toArray, List.set_cons_zero, List.set_cons_succ, i64_w, i32_w]
          rfl
        refine done_ (by kernel_rfl) ?_
        replace H := Aside0.mk HD
        clear HD hHeld
        go_wp2_with fail
        go_roundw
        case rel => exact ⟨5, by decide, by go_num, H⟩
        case measure => simp [intOf]
      · have e1 : ((k : Int) != 4) = true := bne_iff_ne.2 (by omega)
        have e2 : ((k : Int) == 4) = false := beq_eq_false_iff_ne.2 (by omega)
        have e3 : ¬ (k : Int) = 4 := by omega
        have e5 : (k : Int) < 35 := by omega
        obtain ⟨x, hx1, hx2⟩ := confB_k false true false r co br po q1 q2 q3 q4 k hlt h4
        go_wp2_with fail
        refine startH H.out (n := 13) [] #[false, false, false, false, false, false, false, false, false, false, false, false, false] (by kernel_rfl) rfl rfl (fun hHeld => ?_)
        have HD := H.out.drew
        refine pure_ (i := 0) (N := some 50) (v := ?_) (a' := ?_) #[true, false, false, false, false, false, false, false, false, false, false, false, false] rfl rfl (by kernel_rfl) (fun _ _ _ h => h) (Or.inl ⟨by rfl, ?_⟩) ?_ ?_
        rotate_left
        · intro w'
          go_simp
          with_reducible rfl
        rotate_left
        · simp only [Act.put, List.setIfInBounds_toArray, List.set_cons_zero, List.set_cons_succ, i64_w, i32_w]
          rfl
        refine pure_ (i := 1) (N := some 51) (v := ?_) (a' := ?_) #[true, true, false, false, false, false, false, false, false, false, false, false, false] rfl rfl (by kernel_rfl) (fun _ _ _ h => h) (Or.inl ⟨by rfl, ?_⟩) ?_ ?_
        rotate_left
        · intro w'
          go_simp
          with_reducible rfl
        rotate_left
        · simp only [Act.put, List.setIfInBounds_toArray, List.set_cons_zero, List.set_cons_succ, i64_w, i32_w]
          rfl
        refine pure_ (i := 2) (N := some 52) (v := ?_) (a' := ?_) #[true, true, true, false, false, false, false, false, false, false, false, false, false] rfl rfl (by kernel_rfl) (fun _ _ _ h => h) (Or.inl ⟨by rfl, ?_⟩) ?_ ?_
        rotate_left
        · intro w'
          go_simp
          with_reducible rfl
        rotate_left
        · simp only [Act.put, List.setIfInBounds_toArray, List.set_cons_zero, List.set_cons_succ, i64_w, i32_w]
          rfl
        refine pure_ (i := 3) (N := some 53) (v := ?_) (a' := ?_) #[true, true, true, true, false, false, false, false, false, false, false, false, false] rfl rfl (by kernel_rfl) (fun _ _ _ h => h) (Or.inl ⟨by rfl, ?_⟩) ?_ ?_
        rotate_left
        · intro w'
          go_simp
          with_reducible rfl
        rotate_left
        · simp only [Act.put, List.setIfInBounds_toArray, List.set_cons_zero, List.set_cons_succ, i64_w, i32_w]
          rfl
        refine pure_ (i := 4) (N := some 54) (v := ?_) (a' := ?_) #[true, true, true, true, true, false, false, false, false, false, false, false, false] rfl rfl (by kernel_rfl) (fun _ _ _ h => h) (Or.inl ⟨by rfl, ?_⟩) ?_ ?_
        rotate_left
        · intro w'
          go_simp
          with_reducible rfl
        rotate_left
        · simp only [Act.put, List.setIfInBounds_toArray, List.set_cons_zero, List.set_cons_succ, i64_w, i32_w]
          rfl
        refine pure_ (i := 5) (N := some 55) (v := ?_) (a' := ?_) #[true, true, true, true, true, true, false, false, false, false, false, false, false] rfl rfl (by kernel_rfl) (fun _ _ _ h => h) (Or.inl ⟨by rfl, ?_⟩) ?_ ?_
        rotate_left
        · intro w'
          go_simp
          with_reducible rfl
        rotate_left
        · simp only [Act.put, List.setIfInBounds_toArray, List.set_cons_zero, List.set_cons_succ, i64_w, i32_w]
          rfl
        refine pure_ (i := 7) (N := some 57) (v := ?_) (a' := ?_) #[true, true, true, true, true, true, false, true, false, false, false, false, false] rfl rfl (by kernel_rfl) (fun _ _ _ h => h) (Or.inl ⟨by rfl, ?_⟩) ?_ ?_
        rotate_left
        · intro w'
          go_simp
          with_reducible rfl
        rotate_left
        · simp only [Act.put, List.setIfInBounds_toArray, List.set_cons_zero, List.set_cons_succ, i64_w, i32_w]
          rfl
        refine pure_ (i := 8) (N := some 58) (v := ?_) (a' := ?_) #[true, true, true, true, true, true, false, true, true, false, false, false, false] rfl rfl (by kernel_rfl) (fun _ _ _ h => h) (Or.inl ⟨by rfl, ?_⟩) ?_ ?_
        rotate_left
        · intro w'
          go_simp
          with_reducible rfl
        rotate_left
        · simp only [Act.put, List.setIfInBounds_toArray, List.set_cons_zero, List.set_cons_succ, i64_w, i32_w]
          rfl
        refine pure_ (i := 9) (N := some 59) (v := ?_) (a' := ?_) #[true, true, true, true, true, true, false, true, true, true, false, false, false] rfl rfl (by kernel_rfl) (fun _ _ _ h => h) (Or.inl ⟨by rfl, ?_⟩) ?_ ?_
        rotate_left
        · intro w'
          go_simp
          with_reducible rfl
        rotate_left
        · simp only [Act.put, List.setIfInBounds_toArray, List.set_cons_zero, List.set_cons_succ, i64_w, i32_w]
          rfl
        refine take_ (i := 6) (N := some 56) (v := _) (a' := ?_) #[true, true, true, true, true, true, true, true, true, true, false, false, false] rfl rfl (by kernel_rfl) (fun _ _ _ h => h) (Or.inl ⟨by rfl, fun w2 h => run_loadCell rfl rfl Try.underlying5 rfl (h.rowCell (g := g6) (by repeat (first | exact Pick.here _ | apply Pick.there)) k x hx1)⟩) hHeld ?_ ?_
        rotate_left
        · simp only [Act.put, List.setIfInBounds_toArray, List.set_cons_zero, List.set_cons_succ, i64_w, i32_w]
          rfl
        refine take_ (i := 10) (N := some 60) (v := _) (a' := ?_) #[true, true, true, true, true, true, true, true, true, true, true, false, false] rfl rfl (by kernel_rfl) (fun _ _ _ h => h) (Or.inl ⟨by rfl, fun w2 h => run_loadCell rfl rfl Try.underlying5 rfl (h.rowCell (g := g7) (by repeat (first | exact Pick.here _ | apply Pick.there)) k x hx2)⟩) hHeld ?_ ?_
        rotate_left
        · simp only [Act.put, List.setIfInBounds_toArray, List.set_cons_zero, List.set_cons_succ, i64_w, i32_w]
          rfl
        refine pure_ (i := 11) (N := some 61) (v := ?_) (a' := ?_) #[true, true, true, true, true, true, true, true, true, true, true, true, false] rfl rfl (by kernel_rfl) (fun _ _ _ h => h) (Or.inl ⟨by rfl, ?_⟩) ?_ ?_
        rotate_left
        · intro w'
          go_simp
          with_reducible rfl
        rotate_left
        · simp only [Act.put, List.setIfInBounds_toArray, List.set_cons_zero, List.set_cons_succ, i64_w, i32_w]
          rfl
        refine pure_ (i := 12) (N := some 62) (v := ?_) (a' := ?_) #[true, true, true, true, true, true, true, true, true, true, true, true, true] rfl rfl (by kernel_rfl) (fun _ _ _ h => h) (Or.inl ⟨by rfl, ?_⟩) ?_ ?_
        rotate_left
        · intro w'
          go_simp
          with_reducible rfl
        rotate_left
        · simp only [Act.put, List.setIfInBounds_toArray, List.set_cons_zero, List.set_cons_succ, i64_w, i32_w]
          rfl
        refine done_ (by kernel_rfl) ?_
        replace H := Aside0.mk HD
        clear HD hHeld
        go_wp2_with fail
        go_roundw
        case rel => exact ⟨k + 1, by omega, by go_num, H⟩
        case measure => simp [intOf]; omega
    · have d1 : decide (k < 35) = false := decide_eq_false hlt
      have d2 : decide ((k : Int) < 35) = false := decide_eq_false (by omega)
      go_wp2_with fail
      refine startH H.out (n := 16) [] #[false, false, false, false, false, false, false, false, false, false, false, false, false, false, false, false] (by kernel_rfl) rfl rfl (fun hHeld => ?_)
      have HD := H.out.drew
      refine pure_ (i := 0) (N := some 63) (v := ?_) (a' := ?_) #[true, false, false, false, false, false, false, false, false, false, false, false, false, false, false, false] rfl rfl (by kernel_rfl) (fun _ _ _ h => h) (Or.inl ⟨by rfl, ?_⟩) ?_ ?_
      rotate_left
      · intro w'
        go_simp
        with_reducible rfl
      rotate_left
      · simp only [Act.put, List.setIfInBounds_toArray, List.set_cons_zero, List.set_cons_succ, i64_w, i32_w]
        rfl
      refine pure_ (i := 1) (N := some 64) (v := ?_) (a' := ?_) #[true, true, false, false, false, false, false, false, false, false, false, false, false, false, false, false] rfl rfl (by kernel_rfl) (fun _ _ _ h => h) (Or.inl ⟨by rfl, ?_⟩) ?_ ?_
      rotate_left
      · intro w'
        go_simp
        with_reducible rfl
      rotate_left
      · simp only [Act.put, List.setIfInBounds_toArray, List.set_cons_zero, List.set_cons_succ, i64_w, i32_w]
        rfl
      refine pure_ (i := 5) (N := some 68) (v := ?_) (a' := ?_) #[true, true, false, false, false, true, false, false, false, false, false, false, false, false, false, false] rfl rfl (by kernel_rfl) (fun _ _ _ h => h) (Or.inl ⟨by rfl, ?_⟩) ?_ ?_
      rotate_left
      · intro w'
        go_simp
        with_reducible rfl
      rotate_left
      · simp only [Act.put, List.setIfInBounds_toArray, List.set_cons_zero, List.set_cons_succ, i64_w, i32_w]
        rfl
      refine take_ (i := 2) (N := some 65) (v := _) (a' := ?_) #[true, true, true, false, false, true, false, false, false, false, false, false, false, false, false, false] rfl rfl (by kernel_rfl) (fun _ _ _ h => h) (Or.inl ⟨by rfl, fun w2 h => run_loadCell rfl rfl Try.underlying5 rfl (h.rowCell (g := g6) (by repeat (first | exact Pick.here _ | apply Pick.there)) 4 0 hF1)⟩) hHeld ?_ ?_
      rotate_left
      · simp only [Act.put, List.setIfInBounds_toArray, List.set_cons_zero, List.set_cons_succ, i64_w, i32_w]
        rfl
      refine pure_ (i := 3) (N := some 66) (v := ?_) (a' := ?_) #[true, true, true, true, false, true, false, false, false, false, false, false, false, false, false, false] rfl rfl (by kernel_rfl) (fun _ _ _ h => h) (Or.inl ⟨by rfl, ?_⟩) ?_ ?_
      rotate_left
      · intro w'
        go_simp
        with_reducible rfl
      rotate_left
      · simp only [Act.put, List.setIfInBounds_toArray, List.set_cons_zero, List.set_cons_succ, i64_w, i32_w]
        rfl
      refine pure_ (i := 4) (N := some 67) (v := ?_) (a' := ?_) #[true, true, true, true, true, true, false, false, false, false, false, false, false, false, false, false] rfl rfl (by kernel_rfl) (fun _ _ _ h => h) (Or.inl ⟨by rfl, ?_⟩) ?_ ?_
      rotate_left
      · intro w'
        go_simp
        with_reducible rfl
      rotate_left
      · simp only [Act.put, List.setIfInBounds_toArray, List.set_cons_zero, List.set_cons_succ, i64_w, i32_w]
        rfl
      refine take_ (i := 6) (N := some 69) (v := _) (a' := ?_) #[true, true, true, true, true, true, true, false, false, false, false, false, false, false, false, false] rfl rfl (by kernel_rfl) (fun _ _ _ h => h) (Or.inl ⟨by rfl, fun w2 h => h.load1 4 (.tmp 68) rfl rfl (by repeat (first | exact Pick.here _ | apply Pick.there)) Try.underlying4 rfl rfl⟩) hHeld ?_ ?_
      rotate_left
      · simp only [Act.put, List.setIfInBounds_toArray, List.set_cons_zero, List.set_cons_succ, i64_w, i32_w]
        rfl
      refine pure_ (i := 7) (N := some 70) (v := ?_) (a' := ?_) #[true, true, true, true, true, true, true, true, false, false, false, false, false, false, false, false] rfl rfl (by kernel_rfl) (fun _ _ _ h => h) (Or.inl ⟨by rfl, ?_⟩) ?_ ?_
      rotate_left
      · intro w'
        go_simp
        with_reducible rfl
      rotate_left
      · simp only [Act.put, List.setIfInBounds_toArray, List.set_cons_zero, List.set_cons_succ, i64_w, i32_w]
        rfl
      refine pure_ (i := 8) (N := some 71) (v := ?_) (a' := ?_) #[true, true, true, true, true, true, true, true, true, false, false, false, false, false, false, false] rfl rfl (by kernel_rfl) (fun _ _ _ h => h) (Or.inl ⟨by rfl, ?_⟩) ?_ ?_
      rotate_left
      · intro w'
        go_simp
        with_reducible rfl
      rotate_left
      · simp only [Act.put, List.setIfInBounds_toArray, List.set_cons_zero, List.set_cons_succ, i64_w, i32_w]
        rfl
      refine pure_ (i := 9) (N := some 72) (v := ?_) (a' := ?_) #[true, true, true, true, true, true, true, true, true, true, false, false, false, false, false, false] rfl rfl (by kernel_rfl) (fun _ _ _ h => h) (Or.inl ⟨by rfl, ?_⟩) ?_ ?_
      rotate_left
      · intro w'
        go_simp
        with_reducible rfl
      rotate_left
      · simp only [Act.put, List.setIfInBounds_toArray, List.set_cons_zero, List.set_cons_succ, i64_w, i32_w]
        rfl
      refine pure_ (i := 10) (N := some 73) (v := ?_) (a' := ?_) #[true, true, true, true, true, true, true, true, true, true, true, false, false, false, false, false] rfl rfl (by kernel_rfl) (fun _ _ _ h => h) (Or.inl ⟨by rfl, ?_⟩) ?_ ?_
      rotate_left
      · intro w'
        go_simp
        with_reducible rfl
      rotate_left
      · simp only [Act.put, List.setIfInBounds_toArray, List.set_cons_zero, List.set_cons_succ, i64_w, i32_w]
        rfl
      refine take_ (i := 11) (N := some 74) (v := _) (a' := ?_) #[true, true, true, true, true, true, true, true, true, true, true, true, false, false, false, false] rfl rfl (by kernel_rfl) (fun _ _ _ h => h) (Or.inl ⟨by rfl, fun w2 h => run_loadCell rfl rfl Try.underlying5 rfl (h.rowCell (g := g6) (by repeat (first | exact Pick.here _ | apply Pick.there)) 4 0 hF1)⟩) hHeld ?_ ?_
      rotate_left
      · simp only [Act.put, List.setIfInBounds_toArray, List.set_cons_zero, List.set_cons_succ, i64_w, i32_w]
        rfl
      refine pure_ (i := 12) (N := some 75) (v := ?_) (a' := ?_) #[true, true, true, true, true, true, true, true, true, true, true, true, true, false, false, false] rfl rfl (by kernel_rfl) (fun _ _ _ h => h) (Or.inl ⟨by rfl, ?_⟩) ?_ ?_
      rotate_left
      · intro w'
        go_simp
        with_reducible rfl
      rotate_left
      · simp only [Act.put, List.setIfInBounds_toArray, List.set_cons_zero, List.set_cons_succ, i64_w, i32_w]
        rfl
      refine pure_ (i := 13) (N := some 76) (v := ?_) (a' := ?_) #[true, true, true, true, true, true, true, true, true, true, true, true, true, true, false, false] rfl rfl (by kernel_rfl) (fun _ _ _ h => h) (Or.inl ⟨by rfl, ?_⟩) ?_ ?_
      rotate_left
      · intro w'
        go_simp
        with_reducible rfl
      rotate_left
      · simp only [Act.put, List.setIfInBounds_toArray, List.set_cons_zero, List.set_cons_succ, i64_w, i32_w]
        rfl
      refine pure_ (i := 14) (N := some 77) (v := ?_) (a' := ?_) #[true, true, true, true, true, true, true, true, true, true, true, true, true, true, true, false] rfl rfl (by kernel_rfl) (fun _ _ _ h => h) (Or.inl ⟨by rfl, ?_⟩) ?_ ?_
      rotate_left
      · intro w'
        go_simp
        with_reducible rfl
      rotate_left
      · simp only [Act.put, List.setIfInBounds_toArray, List.set_cons_zero, List.set_cons_succ, i64_w, i32_w]
        rfl
      refine pure_ (i := 15) (N := some 2) (v := ?_) (a' := ?_) #[true, true, true, true, true, true, true, true, true, true, true, true, true, true, true, true] rfl rfl (by kernel_rfl) (fun _ _ _ h => h) (Or.inl ⟨by rfl, ?_⟩) ?_ ?_
      rotate_left
      · intro w'
        go_simp
        with_reducible rfl
      rotate_left
      · simp only [Act.put, List.setIfInBounds_toArray, List.set_cons_zero, List.set_cons_succ, i64_w, i32_w]
        rfl
      refine done_ (by kernel_rfl) ?_
      go_wp2_with fail
      go_ret
      exact ⟨rfl, HD.below⟩

set_option maxHeartbeats 1000000 in
set_option maxRecDepth 100000 in
theorem Flags_1 (w : World) (r co br po q1 q2 q3 q4 : Int) (r0 : 0 ≤ r ∧ r < 18446744073709551616) (co0 : 0 ≤ co ∧ co < 4294967296) (br0 : 0 ≤ br ∧ br < 18446744073709551616) (po0 : 0 ≤ po ∧ po < 65536) (q10 : 0 ≤ q1 ∧ q1 < 65536) (q20 : 0 ≤ q2 ∧ q2 < 65536) (q30 : 0 ≤ q3 ∧ q3 < 65536) (q40 : 0 ≤ q4 ∧ q4 < 65536) :
    Calls Try.prog 9 #[.agg #[.bool false, .bool false, .bool true, .int .u64 r, .int .u32 co, .int .u64 br, .int .u16 po, .int .u16 q1, .int .u16 q2, .int .u16 q3, .int .u16 q4]] w (fun e w' => e = .returned (.bool true) ∧ Below w.heap.size w w') := by
  have H := Hp.nothing w
  go_enter Try.func9, Try.ntmps9
  go_wp2_with (first | ((with_reducible refine gate_dst (N := 1) rfl ?_); refine ev_ rfl (H.box rfl (by first | (go_simp; done) | (go_simp; rfl)) rfl) ?_; rintro _ w1 ⟨g1, rfl, H1⟩; (try simp only [Value.cells] at H1); replace H := H1; clear H1) | ((with_reducible refine gate_dst (N := 9) rfl ?_); refine Kd.event_run rfl (H.loadN 48 (.tmp 1) rfl rfl (by repeat (first | exact Pick.here _ | apply Pick.there)) #[.bool false, .bool false, .bool true, .int .u64 r, .int .u32 co, .int .u64 br, .int .u16 po, .int .u16 q1, .int .u16 q2, .int .u16 q3, .int .u16 q4] Try.underlying48 rfl info48s (fun j u hj => by simpa using hj)) ?_) | ((with_reducible refine gate_dst (N := 3) rfl ?_); refine ev_ rfl (H.new (cs := #[.bool false, .bool false, .bool false, .int .u64 0, .int .u32 0, .int .u64 0, .int .u16 0, .int .u16 0, .int .u16 0, .int .u16 0, .int .u16 0]) (t := 48) (by first | (go_simp; done) | (go_simp; rfl))) ?_; rintro _ w1 ⟨g3, rfl, H1⟩; replace H := H1; clear H1) | ((with_reducible refine gate_store (p := 3) rfl ?_); refine ev_ rfl (H.store 48 (.tmp 3) (.tmp 9) rfl rfl (by repeat (first | exact Pick.here _ | apply Pick.there)) (by first | (go_simp; done) | (go_simp; rfl)) _ rfl info48s (by simp [Value.oneCell', Value.cells]) (by simp [Value.cells]) rfl) ?_; rintro _ w1 ⟨rfl, H1⟩; (try simp only [putsAt, Value.cells, List.setIfInBounds_toArray, List.set_cons_zero, List.set_cons_succ, List.toList_toArray] at H1); replace H := H1; clear H1) | (go_at_call 23; refine H.call1 (awake_calls _) ?_; intro w1 H1; replace H := H1; clear H1))
  refine startH (H.take (p := [blk g1 #[.bool false, .bool false, .bool true, .int .u64 r, .int .u32 co, .int .u64 br, .int .u16 po, .int .u16 q1, .int .u16 q2, .int .u16 q3, .int .u16 q4] 48]) (.cons (by repeat (first | exact Pick.here _ | apply Pick.there)) (.nil _))) (n := 9) [] #[false, false, false, false, false, false, false, false, false] (by kernel_rfl) rfl rfl (fun hHeld => ?_)
  have HD := H.drew
  refine pure_ (i := 0) (N := some 10) (v := ?_) (a' := ?_) #[true, false, false, false, false, false, false, false, false] rfl rfl (by kernel_rfl) (fun _ _ _ h => h) (Or.inl ⟨by rfl, ?_⟩) ?_ ?_
  rotate_left
  · intro w'
    go_simp
    with_reducible rfl
  rotate_left
  · simp only [Act.put, List.setIfInBounds_toArray, List.set_cons_zero, List.set_cons_succ, i64_w, i32_w]
    rfl
  refine pure_ (i := 3) (N := some 13) (v := ?_) (a' := ?_) #[true, false, false, true, false, false, false, false, false] rfl rfl (by kernel_rfl) (fun _ _ _ h => h) (Or.inl ⟨by rfl, ?_⟩) ?_ ?_
  rotate_left
  · intro w'
    go_simp
    with_reducible rfl
  rotate_left
  · simp only [Act.put, List.setIfInBounds_toArray, List.set_cons_zero, List.set_cons_succ, i64_w, i32_w]
    rfl
  refine take_ (i := 1) (N := some 11) (v := _) (a' := ?_) #[true, true, false, true, false, false, false, false, false] rfl rfl (by kernel_rfl) (fun _ _ _ h => h) (Or.inl ⟨by rfl, fun w2 h => h.load1 4 (.tmp 10) rfl rfl (by repeat (first | exact Pick.here _ | apply Pick.there)) Try.underlying4 rfl rfl⟩) hHeld ?_ ?_
  rotate_left
  · simp only [Act.put, List.setIfInBounds_toArray, List.set_cons_zero, List.set_cons_succ, i64_w, i32_w]
    rfl
  refine pure_ (i := 2) (N := some 12) (v := ?_) (a' := ?_) #[true, true, true, true, false, false, false, false, false] rfl rfl (by kernel_rfl) (fun _ _ _ h => h) (Or.inl ⟨by rfl, ?_⟩) ?_ ?_
  rotate_left
  · intro w'
    go_simp
    with_reducible rfl
  rotate_left
  · simp only [Act.put, List.setIfInBounds_toArray, List.set_cons_zero, List.set_cons_succ, i64_w, i32_w]
    rfl
  refine pure_ (i := 5) (N := some 15) (v := ?_) (a' := ?_) #[true, true, true, true, false, true, false, false, false] rfl rfl (by kernel_rfl) (fun _ _ _ h => h) (Or.inl ⟨by rfl, ?_⟩) ?_ ?_
  rotate_left
  · intro w'
    go_simp
    with_reducible rfl
  rotate_left
  · simp only [Act.put, List.setIfInBounds_toArray, List.set_cons_zero, List.set_cons_succ, i64_w, i32_w]
    rfl
  refine take_ (i := 4) (N := some 14) (v := _) (a' := ?_) #[true, true, true, true, true, true, false, false, false] rfl rfl (by kernel_rfl) (fun _ _ _ h => h) (Or.inl ⟨by rfl, fun w2 h => h.load1 4 (.tmp 13) rfl rfl (by repeat (first | exact Pick.here _ | apply Pick.there)) Try.underlying4 rfl rfl⟩) hHeld ?_ ?_
  rotate_left
  · simp only [Act.put, List.setIfInBounds_toArray, List.set_cons_zero, List.set_cons_succ, i64_w, i32_w]
    rfl
  refine one_ (i := 6) (N := none) #[true, true, true, true, true, true, true, false, false] rfl rfl (by kernel_rfl) (by decide) (fun K hK => ?_)
  refine step_ (by rfl) rfl (HD.store 4 (.tmp 15) (.tmp 12) rfl rfl (by repeat (first | exact Pick.here _ | apply Pick.there)) (by first | (go_simp; done) | (go_simp; rfl)) _ rfl info4s (by simp [Value.oneCell', Value.cells]) (by simp [Value.cells]) rfl) ?_
  rintro _ w5 ⟨rfl, H5⟩
  simp only [putsAt, Value.cells, List.setIfInBounds_toArray, List.set_cons_zero, List.set_cons_succ, List.toList_toArray] at H5
  replace HD := H5
  clear H5
  refine hK.out _ _ (HD.take (p := [blk g1 #[.bool false, .bool false, .bool true, .int .u64 r, .int .u32 co, .int .u64 br, .int .u16 po, .int .u16 q1, .int .u16 q2, .int .u16 q3, .int .u16 q4] 48]) (.cons (by repeat (first | exact Pick.here _ | apply Pick.there)) (.nil _))) (fun hHeld => ?_)
  clear hK K
  refine pure_ (i := 7) (N := some 16) (v := ?_) (a' := ?_) #[true, true, true, true, true, true, true, true, false] rfl rfl (by kernel_rfl) (fun _ _ _ h => h) (Or.inl ⟨by rfl, ?_⟩) ?_ ?_
  rotate_left
  · intro w'
    go_simp
    with_reducible rfl
  rotate_left
  · simp only [Act.put, List.setIfInBounds_toArray, List.set_cons_zero, List.set_cons_succ, i64_w, i32_w]
    rfl
  refine one_ (i := 8) (N := none) #[true, true, true, true, true, true, true, true, true] rfl rfl (by kernel_rfl) (by decide) (fun K hK => ?_)
  refine step_ (by rfl) rfl (HD.store 4 (.tmp 16) (.tmp 14) rfl rfl (by repeat (first | exact Pick.here _ | apply Pick.there)) (by first | (go_simp; done) | (go_simp; rfl)) _ rfl info4s (by simp [Value.oneCell', Value.cells]) (by simp [Value.cells]) rfl) ?_
  rintro _ w5 ⟨rfl, H5⟩
  simp only [putsAt, Value.cells, List.setIfInBounds_toArray, List.set_cons_zero, List.set_cons_succ, List.toList_toArray] at H5
  replace HD := H5
  clear H5
  refine hK.out _ _ (HD.take (p := [blk g1 #[.bool false, .bool false, .bool true, .int .u64 r, .int .u32 co, .int .u64 br, .int .u16 po, .int .u16 q1, .int .u16 q2, .int .u16 q3, .int .u16 q4] 48]) (.cons (by repeat (first | exact Pick.here _ | apply Pick.there)) (.nil _))) (fun hHeld => ?_)
  clear hK K
  refine done_ (by kernel_rfl) ?_
  replace H := HD
  clear HD hHeld
  go_wp2_with fail
  refine startH (H.take (p := [blk g1 #[.bool false, .bool false, .bool true, .int .u64 r, .int .u32 co, .int .u64 br, .int .u16 po, .int .u16 q1, .int .u16 q2, .int .u16 q3, .int .u16 q4] 48, blk g3 #[.bool false, .bool true, .bool true, .int .u64 r, .int .u32 co, .int .u64 br, .int .u16 po, .int .u16 q1, .int .u16 q2, .int .u16 q3, .int .u16 q4] 48]) (.cons (by repeat (first | exact Pick.here _ | apply Pick.there)) (.cons (by repeat (first | exact Pick.here _ | apply Pick.there)) (.nil _)))) (n := 6) [] #[false, false, false, false, false, false] (by kernel_rfl) rfl rfl (fun hHeld => ?_)
  have HD := H.drew
  refine take_ (i := 0) (N := some 17) (v := _) (a' := ?_) #[true, false, false, false, false, false] rfl rfl (by kernel_rfl) (fun _ _ _ h => h) (Or.inl ⟨by rfl, fun w2 h => h.loadN 48 (.tmp 1) rfl rfl (by repeat (first | exact Pick.here _ | apply Pick.there)) #[.bool false, .bool false, .bool true, .int .u64 r, .int .u32 co, .int .u64 br, .int .u16 po, .int .u16 q1, .int .u16 q2, .int .u16 q3, .int .u16 q4] Try.underlying48 rfl info48s (fun j u hj => by simpa using hj)⟩) hHeld ?_ ?_
  rotate_left
  · simp only [Act.put, List.setIfInBounds_toArray, List.set_cons_zero, List.set_cons_succ, i64_w, i32_w]
    rfl
  refine take_ (i := 2) (N := some 19) (v := _) (a' := ?_) #[true, false, true, false, false, false] rfl rfl (by kernel_rfl) (fun _ _ _ h => h) (Or.inl ⟨by rfl, fun w2 h => h.loadN 48 (.tmp 3) rfl rfl (by repeat (first | exact Pick.here _ | apply Pick.there)) #[.bool false, .bool true, .bool true, .int .u64 r, .int .u32 co, .int .u64 br, .int .u16 po, .int .u16 q1, .int .u16 q2, .int .u16 q3, .int .u16 q4] Try.underlying48 rfl info48s (fun j u hj => by simpa using hj)⟩) hHeld ?_ ?_
  rotate_left
  · simp only [Act.put, List.setIfInBounds_toArray, List.set_cons_zero, List.set_cons_succ, i64_w, i32_w]
    rfl
  refine one_ (i := 1) (N := some 18) #[true, true, true, false, false, false] rfl rfl (by kernel_rfl) (by decide) (fun K hK => ?_)
  refine goes_ Try.func24 (by kernel_rfl) rfl #[.agg #[.bool false, .bool false, .bool true, .int .u64 r, .int .u32 co, .int .u64 br, .int .u16 po, .int .u16 q1, .int .u16 q2, .int .u16 q3, .int .u16 q4]] (by rfl) rfl rfl (by simp only [List.map_toArray, List.map_cons, List.map_nil]; rfl) ?_
  refine HD.call0 (BPut_conf _ false true r co br po q1 q2 q3 q4 r0 co0 br0 po0 q10 q20 q30 q40) ?_
  rintro v6 l1 w3 rfl H3
  obtain ⟨A6, c6, rfl, hc6, H4⟩ := named H3 35 (confB_length ..)
  replace HD := H4
  clear H3 H4 hc6
  refine ⟨_, rfl, ?_⟩
  refine hK.out _ _ (HD.take (p := [blk g1 #[.bool false, .bool false, .bool true, .int .u64 r, .int .u32 co, .int .u64 br, .int .u16 po, .int .u16 q1, .int .u16 q2, .int .u16 q3, .int .u16 q4] 48, blk g3 #[.bool false, .bool true, .bool true, .int .u64 r, .int .u32 co, .int .u64 br, .int .u16 po, .int .u16 q1, .int .u16 q2, .int .u16 q3, .int .u16 q4] 48]) (.cons (by repeat (first | exact Pick.here _ | apply Pick.there)) (.cons (by repeat (first | exact Pick.here _ | apply Pick.there)) (.nil _)))) (fun hHeld => ?_)
  clear hK K
  refine norm_ (a' := ?_) ?_ ?_
  rotate_left
  · show Act.put _ (some 18) _ = _
    simp only [Act.put, List.setIfInBounds_toArray, List.set_cons_zero, List.set_cons_succ, i64_w, i32_w]
    rfl
  refine one_ (i := 3) (N := some 20) #[true, true, true, true, false, false] rfl rfl (by kernel_rfl) (by decide) (fun K hK => ?_)
  refine goes_ Try.func24 (by kernel_rfl) rfl #[.agg #[.bool false, .bool true, .bool true, .int .u64 r, .int .u32 co, .int .u64 br, .int .u16 po, .int .u16 q1, .int .u16 q2, .int .u16 q3, .int .u16 q4]] (by rfl) rfl rfl (by simp only [List.map_toArray, List.map_cons, List.map_nil]; rfl) ?_
  refine HD.call0 (BPut_conf _ true true r co br po q1 q2 q3 q4 r0 co0 br0 po0 q10 q20 q30 q40) ?_
  rintro v6 l1 w3 rfl H3
  obtain ⟨A7, c7, rfl, hc7, H4⟩ := named H3 35 (confB_length ..)
  replace HD := H4
  clear H3 H4 hc7
  refine ⟨_, rfl, ?_⟩
  refine hK.out _ _ (HD.take (p := [blk g1 #[.bool false, .bool false, .bool true, .int .u64 r, .int .u32 co, .int .u64 br, .int .u16 po, .int .u16 q1, .int .u16 q2, .int .u16 q3, .int .u16 q4] 48, blk g3 #[.bool false, .bool true, .bool true, .int .u64 r, .int .u32 co, .int .u64 br, .int .u16 po, .int .u16 q1, .int .u16 q2, .int .u16 q3, .int .u16 q4] 48]) (.cons (by repeat (first | exact Pick.here _ | apply Pick.there)) (.cons (by repeat (first | exact Pick.here _ | apply Pick.there)) (.nil _)))) (fun hHeld => ?_)
  clear hK K
  refine norm_ (a' := ?_) ?_ ?_
  rotate_left
  · show Act.put _ (some 20) _ = _
    simp only [Act.put, List.setIfInBounds_toArray, List.set_cons_zero, List.set_cons_succ, i64_w, i32_w]
    rfl
  refine pure_ (i := 4) (N := some 4) (v := ?_) (a' := ?_) #[true, true, true, true, true, false] rfl rfl (by kernel_rfl) (fun _ _ _ h => h) (Or.inl ⟨by rfl, ?_⟩) ?_ ?_
  rotate_left
  · intro w'
    go_simp
    with_reducible rfl
  rotate_left
  · simp only [Act.put, List.setIfInBounds_toArray, List.set_cons_zero, List.set_cons_succ, i64_w, i32_w]
    rfl
  refine pure_ (i := 5) (N := some 5) (v := ?_) (a' := ?_) #[true, true, true, true, true, true] rfl rfl (by kernel_rfl) (fun _ _ _ h => h) (Or.inl ⟨by rfl, ?_⟩) ?_ ?_
  rotate_left
  · intro w'
    go_simp
    with_reducible rfl
  rotate_left
  · simp only [Act.put, List.setIfInBounds_toArray, List.set_cons_zero, List.set_cons_succ, i64_w, i32_w]
    rfl
  refine done_ (by kernel_rfl) ?_
  replace H := HD
  clear HD hHeld
  go_wp2_with (first | ((with_reducible refine gate_dst (N := 22) rfl ?_); refine Kd.event_run rfl (H.load1 4 (.tmp 21) rfl rfl (by repeat (first | exact Pick.here _ | apply Pick.there)) Try.underlying4 rfl rfl) ?_))
  obtain ⟨g6, rfl⟩ := H.form (A := A6) (xs := confB false true r co br po q1 q2 q3 q4) (by repeat (first | exact Pick.here _ | apply Pick.there)) (by rw [confB_length]; decide)
  obtain ⟨g7, rfl⟩ := H.form (A := A7) (xs := confB true true r co br po q1 q2 q3 q4) (by repeat (first | exact Pick.here _ | apply Pick.there)) (by rw [confB_length]; decide)
  have hF1 : (confB false true r co br po q1 q2 q3 q4)[4]? = some 128 := confB_4 _ _ _ _ _ _ _ _ _ _
  have hF2 : (confB true true r co br po q1 q2 q3 q4)[4]? = some 129 := confB_4 _ _ _ _ _ _ _ _ _ _
  replace H := H.take (p := [row (Kd.int .u8) 5 (.slice (some ⟨g6, 0, none⟩) 35 c6) (confB false true r co br po q1 q2 q3 q4), row (Kd.int .u8) 5 (.slice (some ⟨g7, 0, none⟩) 35 c7) (confB true true r co br po q1 q2 q3 q4), blk g1 #[.bool false, .bool false, .bool true, .int .u64 r, .int .u32 co, .int .u64 br, .int .u16 po, .int .u16 q1, .int .u16 q2, .int .u16 q3, .int .u16 q4] 48]) (.cons (by repeat (first | exact Pick.here _ | apply Pick.there)) (.cons (by repeat (first | exact Pick.here _ | apply Pick.there)) (.cons (by repeat (first | exact Pick.here _ | apply Pick.there)) (.nil _))))
  refine startH H (n := 18) [] #[false, false, false, false, false, false, false, false, false, false, false, false, false, false, false, false, false, false] (by kernel_rfl) rfl rfl (fun hHeld => ?_)
  have HD := H.drew
  refine pure_ (i := 0) (N := some 28) (v := ?_) (a' := ?_) #[true, false, false, false, false, false, false, false, false, false, false, false, false, false, false, false, false, false] rfl rfl (by kernel_rfl) (fun _ _ _ h => h) (Or.inl ⟨by rfl, ?_⟩) ?_ ?_
  rotate_left
  · intro w'
    go_simp
    with_reducible rfl
  rotate_left
  · simp only [Act.put, List.setIfInBounds_toArray, List.set_cons_zero, List.set_cons_succ, i64_w, i32_w]
    rfl
  refine pure_ (i := 1) (N := some 29) (v := ?_) (a' := ?_) #[true, true, false, false, false, false, false, false, false, false, false, false, false, false, false, false, false, false] rfl rfl (by kernel_rfl) (fun _ _ _ h => h) (Or.inl ⟨by rfl, ?_⟩) ?_ ?_
  rotate_left
  · intro w'
    go_simp
    with_reducible rfl
  rotate_left
  · simp only [Act.put, List.setIfInBounds_toArray, List.set_cons_zero, List.set_cons_succ, i64_w, i32_w]
    rfl
  refine pure_ (i := 2) (N := some 30) (v := ?_) (a' := ?_) #[true, true, true, false, false, false, false, false, false, false, false, false, false, false, false, false, false, false] rfl rfl (by kernel_rfl) (fun _ _ _ h => h) (Or.inl ⟨by rfl, ?_⟩) ?_ ?_
  rotate_left
  · intro w'
    go_simp
    with_reducible rfl
  rotate_left
  · simp only [Act.put, List.setIfInBounds_toArray, List.set_cons_zero, List.set_cons_succ, i64_w, i32_w]
    rfl
  refine pure_ (i := 3) (N := some 31) (v := ?_) (a' := ?_) #[true, true, true, true, false, false, false, false, false, false, false, false, false, false, false, false, false, false] rfl rfl (by kernel_rfl) (fun _ _ _ h => h) (Or.inl ⟨by rfl, ?_⟩) ?_ ?_
  rotate_left
  · intro w'
    go_simp
    with_reducible rfl
  rotate_left
  · simp only [Act.put, List.setIfInBounds_toArray, List.set_cons_zero, List.set_cons_succ, i64_w, i32_w]
    rfl
  refine pure_ (i := 4) (N := some 32) (v := ?_) (a' := ?_) #[true, true, true, true, true, false, false, false, false, false, false, false, false, false, false, false, false, false] rfl rfl (by kernel_rfl) (fun _ _ _ h => h) (Or.inl ⟨by rfl, ?_⟩) ?_ ?_
  rotate_left
  · intro w'
    go_simp
    with_reducible rfl
  rotate_left
  · simp only [Act.put, List.setIfInBounds_toArray, List.set_cons_zero, List.set_cons_succ, i64_w, i32_w]
    rfl
  refine pure_ (i := 5) (N := some 33) (v := ?_) (a' := ?_) #[true, true, true, true, true, true, false, false, false, false, false, false, false, false, false, false, false, false] rfl rfl (by kernel_rfl) (fun _ _ _ h => h) (Or.inl ⟨by rfl, ?_⟩) ?_ ?_
  rotate_left
  · intro w'
    go_simp
    with_reducible rfl
  rotate_left
  · simp only [Act.put, List.setIfInBounds_toArray, List.set_cons_zero, List.set_cons_succ, i64_w, i32_w]
    rfl
  refine pure_ (i := 6) (N := some 34) (v := ?_) (a' := ?_) #[true, true, true, true, true, true, true, false, false, false, false, false, false, false, false, false, false, false] rfl rfl (by kernel_rfl) (fun _ _ _ h => h) (Or.inl ⟨by rfl, ?_⟩) ?_ ?_
  rotate_left
  · intro w'
    go_simp
    with_reducible rfl
  rotate_left
  · simp only [Act.put, List.setIfInBounds_toArray, List.set_cons_zero, List.set_cons_succ, i64_w, i32_w]
    rfl
  refine pure_ (i := 7) (N := some 35) (v := ?_) (a' := ?_) #[true, true, true, true, true, true, true, true, false, false, false, false, false, false, false, false, false, false] rfl rfl (by kernel_rfl) (fun _ _ _ h => h) (Or.inl ⟨by rfl, ?_⟩) ?_ ?_
  rotate_left
  · intro w'
    go_simp
    with_reducible rfl
  rotate_left
  · simp only [Act.put, List.setIfInBounds_toArray, List.set_cons_zero, List.set_cons_succ, i64_w, i32_w]
    rfl
  refine pure_ (i := 8) (N := some 36) (v := ?_) (a' := ?_) #[true, true, true, true, true, true, true, true, true, false, false, false, false, false, false, false, false, false] rfl rfl (by kernel_rfl) (fun _ _ _ h => h) (Or.inl ⟨by rfl, ?_⟩) ?_ ?_
  rotate_left
  · intro w'
    go_simp
    with_reducible rfl
  rotate_left
  · simp only [Act.put, List.setIfInBounds_toArray, List.set_cons_zero, List.set_cons_succ, i64_w, i32_w]
    rfl
  refine pure_ (i := 9) (N := some 37) (v := ?_) (a' := ?_) #[true, true, true, true, true, true, true, true, true, true, false, false, false, false, false, false, false, false] rfl rfl (by kernel_rfl) (fun _ _ _ h => h) (Or.inl ⟨by rfl, ?_⟩) ?_ ?_
  rotate_left
  · intro w'
    go_simp
    with_reducible rfl
  rotate_left
  · simp only [Act.put, List.setIfInBounds_toArray, List.set_cons_zero, List.set_cons_succ, i64_w, i32_w]
    rfl
  refine pure_ (i := 10) (N := some 38) (v := ?_) (a' := ?_) #[true, true, true, true, true, true, true, true, true, true, true, false, false, false, false, false, false, false] rfl rfl (by kernel_rfl) (fun _ _ _ h => h) (Or.inl ⟨by rfl, ?_⟩) ?_ ?_
  rotate_left
  · intro w'
    go_simp
    with_reducible rfl
  rotate_left
  · simp only [Act.put, List.setIfInBounds_toArray, List.set_cons_zero, List.set_cons_succ, i64_w, i32_w]
    rfl
  refine pure_ (i := 12) (N := some 40) (v := ?_) (a' := ?_) #[true, true, true, true, true, true, true, true, true, true, true, false, true, false, false, false, false, false] rfl rfl (by kernel_rfl) (fun _ _ _ h => h) (Or.inl ⟨by rfl, ?_⟩) ?_ ?_
  rotate_left
  · intro w'
    go_simp
    with_reducible rfl
  rotate_left
  · simp only [Act.put, List.setIfInBounds_toArray, List.set_cons_zero, List.set_cons_succ, i64_w, i32_w]
    rfl
  refine pure_ (i := 13) (N := some 41) (v := ?_) (a' := ?_) #[true, true, true, true, true, true, true, true, true, true, true, false, true, true, false, false, false, false] rfl rfl (by kernel_rfl) (fun _ _ _ h => h) (Or.inl ⟨by rfl, ?_⟩) ?_ ?_
  rotate_left
  · intro w'
    go_simp
    with_reducible rfl
  rotate_left
  · simp only [Act.put, List.setIfInBounds_toArray, List.set_cons_zero, List.set_cons_succ, i64_w, i32_w]
    rfl
  refine take_ (i := 11) (N := some 39) (v := _) (a' := ?_) #[true, true, true, true, true, true, true, true, true, true, true, true, true, true, false, false, false, false] rfl rfl (by kernel_rfl) (fun _ _ _ h => h) (Or.inl ⟨by rfl, fun w2 h => run_loadCell rfl rfl Try.underlying5 rfl (h.rowCell (g := g6) (by repeat (first | exact Pick.here _ | apply Pick.there)) 4 128 hF1)⟩) hHeld ?_ ?_
  rotate_left
  · simp only [Act.put, List.setIfInBounds_toArray, List.set_cons_zero, List.set_cons_succ, i64_w, i32_w]
    rfl
  refine take_ (i := 14) (N := some 42) (v := _) (a' := ?_) #[true, true, true, true, true, true, true, true, true, true, true, true, true, true, true, false, false, false] rfl rfl (by kernel_rfl) (fun _ _ _ h => h) (Or.inl ⟨by rfl, fun w2 h => run_loadCell rfl rfl Try.underlying5 rfl (h.rowCell (g := g7) (by repeat (first | exact Pick.here _ | apply Pick.there)) 4 129 hF2)⟩) hHeld ?_ ?_
  rotate_left
  · simp only [Act.put, List.setIfInBounds_toArray, List.set_cons_zero, List.set_cons_succ, i64_w, i32_w]
    rfl
  refine pure_ (i := 15) (N := some 43) (v := ?_) (a' := ?_) #[true, true, true, true, true, true, true, true, true, true, true, true, true, true, true, true, false, false] rfl rfl (by kernel_rfl) (fun _ _ _ h => h) (Or.inl ⟨by rfl, ?_⟩) ?_ ?_
  rotate_left
  · intro w'
    go_simp
    with_reducible rfl
  rotate_left
  · simp only [Act.put, List.setIfInBounds_toArray, List.set_cons_zero, List.set_cons_succ, i64_w, i32_w]
    rfl
  refine pure_ (i := 16) (N := some 44) (v := ?_) (a' := ?_) #[true, true, true, true, true, true, true, true, true, true, true, true, true, true, true, true, true, false] rfl rfl (by kernel_rfl) (fun _ _ _ h => h) (Or.inl ⟨by rfl, ?_⟩) ?_ ?_
  rotate_left
  · intro w'
    go_simp
    with_reducible rfl
  rotate_left
  · simp only [Act.put, List.setIfInBounds_toArray, List.set_cons_zero, List.set_cons_succ, i64_w, i32_w]
    rfl
  refine pure_ (i := 17) (N := some 45) (v := ?_) (a' := ?_) #[true, true, true, true, true, true, true, true, true, true, true, true, true, true, true, true, true, true] rfl rfl (by kernel_rfl) (fun _ _ _ h => h) (Or.inl ⟨by rfl, ?_⟩) ?_ ?_
  rotate_left
  · intro w'
    go_simp
    with_reducible rfl
  rotate_left
  · simp only [Act.put, List.setIfInBounds_toArray, List.set_cons_zero, List.set_cons_succ, i64_w, i32_w]
    rfl
  refine done_ (by kernel_rfl) ?_
  replace H := HD
  clear HD hHeld
  go_wp2_with fail
  replace H := Aside0.mk H
  go_loopw [6] (fun v6 wr => ∃ k : Nat, k ≤ 35 ∧ v6 = .int .i64 (k : Int) ∧ Aside0 (Hp (fun _ => False) w wr [row (Kd.int .u8) 5 (.slice (some ⟨g6, 0, none⟩) 35 c6) (confB false true r co br po q1 q2 q3 q4), row (Kd.int .u8) 5 (.slice (some ⟨g7, 0, none⟩) 35 c7) (confB true true r co br po q1 q2 q3 q4), blk g1 #[.bool false, .bool false, .bool true, .int .u64 r, .int .u32 co, .int .u64 br, .int .u16 po, .int .u16 q1, .int .u16 q2, .int .u16 q3, .int .u16 q4] 48])) (fun v6 _ => 35 - (intOf v6).toNat)
  case atStart => exact ⟨0, by decide, rfl, H⟩
  case round =>
    obtain ⟨k, hk, rfl, H⟩ := hrel
    by_cases hlt : k < 35
    · have d1 : decide (k < 35) = true := decide_eq_true hlt
      have d2 : decide ((k : Int) < 35) = true := decide_eq_true (by omega)
      by_cases h4 : k = 4
      · subst h4
        go_wp2_with fail
        refine startH H.out (n := 13) [] #[false, false, false, false, false, false, false, false, false, false, false, false, false] (by kernel_rfl) rfl rfl (fun hHeld => ?_)
        have HD := H.out.drew
        refine pure_ (i := 0) (N := some 50) (v := ?_) (a' := ?_) #[true, false, false, false, false, false, false, false, false, false, false, false, false] rfl rfl (by kernel_rfl) (fun _ _ _ h => h) (Or.inl ⟨by rfl, ?_⟩) ?_ ?_
        rotate_left
        · intro w'
          go_simp
          with_reducible rfl
        rotate_left
        · simp only [Act.put, List.setIfInBounds_toArray, List.set_cons_zero, List.set_cons_succ, i64_w, i32_w]
          rfl
        refine pure_ (i := 1) (N := some 51) (v := ?_) (a' := ?_) #[true, true, false, false, false, false, false, false, false, false, false, false, false] rfl rfl (by kernel_rfl) (fun _ _ _ h => h) (Or.inl ⟨by rfl, ?_⟩) ?_ ?_
        rotate_left
        · intro w'
          go_simp
          with_reducible rfl
        rotate_left
        · simp only [Act.put, List.setIfInBounds_toArray, List.set_cons_zero, List.set_cons_succ, i64_w, i32_w]
          rfl
        refine pure_ (i := 2) (N := some 52) (v := ?_) (a' := ?_) #[true, true, true, false, false, false, false, false, false, false, false, false, false] rfl rfl (by kernel_rfl) (fun _ _ _ h => h) (Or.inl ⟨by rfl, ?_⟩) ?_ ?_
        rotate_left
        · intro w'
          go_simp
          with_reducible rfl
        rotate_left
        · simp only [Act.put, List.setIfInBounds_toArray, List.set_cons_zero, List.set_cons_succ, i64_w, i32_w]
          rfl
        refine pure_ (i := 3) (N := some 53) (v := undef) (a' := ?_) #[true, true, true, true, false, false, false, false, false, false, false, false, false] rfl rfl (by kernel_rfl) (fun _ _ _ h => h) (Or.inr ⟨by rfl, rfl⟩) ?_ ?_
        rotate_left
        · simp only [Act.put, List.setIfInBounds_toArray, List.set_cons_zero, List.set_cons_succ, i64_w, i32_w]
          rfl
        refine pure_ (i := 4) (N := some 54) (v := undef) (a' := ?_) #[true, true, true, true, true, false, false, false, false, false, false, false, false] rfl rfl (by kernel_rfl) (fun _ _ _ h => h) (Or.inr ⟨by rfl, rfl⟩) ?_ ?_
        rotate_left
        · simp only [Act.put, List.setIfInBounds_toArray, List.set_cons_zero, List.set_cons_succ, i64_w, i32_w]
          rfl
        refine pure_ (i := 5) (N := some 55) (v := undef) (a' := ?_) #[true, true, true, true, true, true, false, false, false, false, false, false, false] rfl rfl (by kernel_rfl) (fun _ _ _ h => h) (Or.inr ⟨by rfl, rfl⟩) ?_ ?_
        rotate_left
        · simp only [Act.put, List.setIfInBounds_toArray, List.set_cons_zero, List.set_cons_succ, i64_w, i32_w]
          rfl
        refine pure_ (i := 6) (N := some 56) (v := undef) (a' := ?_) #[true, true, true, true, true, true, true, false, false, false, false, false, false] rfl rfl (by kernel_rfl) (fun _ _ _ h => h) (Or.inr ⟨by rfl, rfl⟩) ?_ ?_
        rotate_left
        · simp only [Act.put, List.setIfInBounds_toArray, List.set_cons_zero, List.set_cons_succ, i64_w, i32_w]
          rfl
        refine pure_ (i := 7) (N := some 57) (v := undef) (a' := ?_) #[true, true, true, true, true, true, true, true, false, false, false, false, false] rfl rfl (by kernel_rfl) (fun _ _ _ h => h) (Or.inr ⟨by rfl, rfl⟩) ?_ ?_
        rotate_left
        · simp only [Act.put, List.setIfInBounds_toArray, List.set_cons_zero, List.set_cons_succ, i64_w, i32_w]
          rfl
        refine pure_ (i := 8) (N := some 58) (v := undef) (a' := ?_) #[true, true, true, true, true, true, true, true, true, false, false, false, false] rfl rfl (by kernel_rfl) (fun _ _ _ h => h) (Or.inr ⟨by rfl, rfl⟩) ?_ ?_
        rotate_left
        · simp only [Act.put, List.setIfInBounds_toArray, List.set_cons_zero, List.set_cons_succ, i64_w, i32_w]
          rfl
        refine pure_ (i := 9) (N := some 59) (v := undef) (a' := ?_) #[true, true, true, true, true, true, true, true, true, true, false, false, false] rfl rfl (by kernel_rfl) (fun _ _ _ h => h) (Or.inr ⟨by rfl, rfl⟩) ?_ ?_
        rotate_left
        · simp only [Act.put, List.setIfInBounds_toArray, List.set_cons_zero, List.set_cons_succ, i64_w, i32_w]
          rfl
        refine pure_ (i := 10) (N := some 60) (v := undef) (a' := ?_) #[true, true, true, true, true, true, true, true, true, true, true, false, false] rfl rfl (by kernel_rfl) (fun _ _ _ h => h) (Or.inr ⟨by rfl, rfl⟩) ?_ ?_
        rotate_left
        · simp only [Act.put, List.setIfInBounds_toArray, List.set_cons_zero, List.set_cons_succ, i64_w, i32_w]
          rfl
        refine pure_ (i := 11) (N := some 61) (v := undef) (a' := ?_) #[true, true, true, true, true, true, true, true, true, true, true, true, false] rfl rfl (by kernel_rfl) (fun _ _ _ h => h) (Or.inr ⟨by rfl, rfl⟩) ?_ ?_
        rotate_left
        · simp only [Act.put, List.setIfInBounds_toArray, List.set_cons_zero, List.set_cons_succ, i64_w, i32_w]
          rfl
        refine pure_ (i := 12) (N := some 62) (v := ?_) (a' := ?_) #[true, true, true, true, true, true, true, true, true, true, true, true, true] rfl rfl (by kernel_rfl) (fun _ _ _ h => h) (Or.inl ⟨by rfl, ?_⟩) ?_ ?_
        rotate_left
        · intro w'
          go_simp
          with_reducible rfl
        rotate_left
        · simp only [Act.put, List.setIfInBounds_toArray, List.set_cons_zero, List.set_cons_succ, i64_w, i32_w]
          rfl
        refine done_ (by kernel_rfl) ?_
        replace H := Aside0.mk HD
        clear HD hHeld
        go_wp2_with fail
        go_roundw
        case rel => exact ⟨5, by decide, by go_num, H⟩
        case measure => simp [intOf]
      · have e1 : ((k : Int) != 4) = true := bne_iff_ne.2 (by omega)
        have e2 : ((k : Int) == 4) = false := beq_eq_false_iff_ne.2 (by omega)
        have e3 : ¬ (k : Int) = 4 := by omega
        have e5 : (k : Int) < 35 := by omega
        obtain ⟨x, hx1, hx2⟩ := confB_k false true true r co br po q1 q2 q3 q4 k hlt h4
        go_wp2_with fail
        refine startH H.out (n := 13) [] #[false, false, false, false, false, false, false, false, false, false, false, false, false] (by kernel_rfl) rfl rfl (fun hHeld => ?_)
        have HD := H.out.drew
        refine pure_ (i := 0) (N := some 50) (v := ?_) (a' := ?_) #[true, false, false, false, false, false, false, false, false, false, false, false, false] rfl rfl (by kernel_rfl) (fun _ _ _ h => h) (Or.inl ⟨by rfl, ?_⟩) ?_ ?_
        rotate_left
        · intro w'
          go_simp
          with_reducible rfl
        rotate_left
        · simp only [Act.put, List.setIfInBounds_toArray, List.set_cons_zero, List.set_cons_succ, i64_w, i32_w]
          rfl
        refine pure_ (i := 1) (N := some 51) (v := ?_) (a' := ?_) #[true, true, false, false, false, false, false, false, false, false, false, false, false] rfl rfl (by kernel_rfl) (fun _ _ _ h => h) (Or.inl ⟨by rfl, ?_⟩) ?_ ?_
        rotate_left
        · intro w'
          go_simp
          with_reducible rfl
        rotate_left
        · simp only [Act.put, List.setIfInBounds_toArray, List.set_cons_zero, List.set_cons_succ, i64_w, i32_w]
          rfl
        refine pure_ (i := 2) (N := some 52) (v := ?_) (a' := ?_) #[true, true, true, false, false, false, false, false, false, false, false, false, false] rfl rfl (by kernel_rfl) (fun _ _ _ h => h) (Or.inl ⟨by rfl, ?_⟩) ?_ ?_
        rotate_left
        · intro w'
          go_simp
          with_reducible rfl
        rotate_left
        · simp only [Act.put, List.setIfInBounds_toArray, List.set_cons_zero, List.set_cons_succ, i64_w, i32_w]
          rfl
        refine pure_ (i := 3) (N := some 53) (v := ?_) (a' := ?_) #[true, true, true, true, false, false, false, false, false, false, false, false, false] rfl rfl (by kernel_rfl) (fun _ _ _ h => h) (Or.inl ⟨by rfl, ?_⟩) ?_ ?_
        rotate_left
        · intro w'
          go_simp
          with_reducible rfl
        rotate_left
        · simp only [Act.put, List.setIfInBounds_toArray, List.set_cons_zero, List.set_cons_succ, i64_w, i32_w]
          rfl
        refine pure_ (i := 4) (N := some 54) (v := ?_) (a' := ?_) #[true, true, true, true, true, false, false, false, false, false, false, false, false] rfl rfl (by kernel_rfl) (fun _ _ _ h => h) (Or.inl ⟨by rfl, ?_⟩) ?_ ?_
        rotate_left
        · intro w'
          go_simp
          with_reducible rfl
        rotate_left
        · simp only [Act.put, List.setIfInBounds_toArray, List.set_cons_zero, List.set_cons_succ, i64_w, i32_w]
          rfl
        refine pure_ (i := 5) (N := some 55) (v := ?_) (a' := ?_) #[true, true, true, true, true, true, false, false, false, false, false, false, false] rfl rfl (by kernel_rfl) (fun _ _ _ h => h) (Or.inl ⟨by rfl, ?_⟩) ?_ ?_
        rotate_left
        · intro w'
          go_simp
          with_reducible rfl
        rotate_left
        · simp only [Act.put, List.setIfInBounds_toArray, List.set_cons_zero, List.set_cons_succ, i64_w, i32_w]
          rfl
        refine pure_ (i := 7) (N := some 57) (v := ?_) (a' := ?_) #[true, true, true, true, true, true, false, true, false, false, false, false, false] rfl rfl (by kernel_rfl) (fun _ _ _ h => h) (Or.inl ⟨by rfl, ?_⟩) ?_ ?_
        rotate_left
        · intro w'
          go_simp
          with_reducible rfl
        rotate_left
        · simp only [Act.put, List.setIfInBounds_toArray, List.set_cons_zero, List.set_cons_succ, i64_w, i32_w]
          rfl
        refine pure_ (i := 8) (N := some 58) (v := ?_) (a' := ?_) #[true, true, true, true, true, true, false, true, true, false, false, false, false] rfl rfl (by kernel_rfl) (fun _ _ _ h => h) (Or.inl ⟨by rfl, ?_⟩) ?_ ?_
        rotate_left
        · intro w'
          go_simp
          with_reducible rfl
        rotate_left
        · simp only [Act.put, List.setIfInBounds_toArray, List.set_cons_zero, List.set_cons_succ, i64_w, i32_w]
          rfl
        refine pure_ (i := 9) (N := some 59) (v := ?_) (a' := ?_) #[true, true, true, true, true, true, false, true, true, true, false, false, false] rfl rfl (by kernel_rfl) (fun _ _ _ h => h) (Or.inl ⟨by rfl, ?_⟩) ?_ ?_
        rotate_left
        · intro w'
          go_simp
          with_reducible rfl
        rotate_left
        · simp only [Act.put, List.setIfInBounds_toArray, List.set_cons_zero, List.set_cons_succ, i64_w, i32_w]
          rfl
        refine take_ (i := 6) (N := some 56) (v := _) (a' := ?_) #[true, true, true, true, true, true, true, true, true, true, false, false, false] rfl rfl (by kernel_rfl) (fun _ _ _ h => h) (Or.inl ⟨by rfl, fun w2 h => run_loadCell rfl rfl Try.underlying5 rfl (h.rowCell (g := g6) (by repeat (first | exact Pick.here _ | apply Pick.there)) k x hx1)⟩) hHeld ?_ ?_
        rotate_left
        · simp only [Act.put, List.setIfInBounds_toArray, List.set_cons_zero, List.set_cons_succ, i64_w, i32_w]
          rfl
        refine take_ (i := 10) (N := some 60) (v := _) (a' := ?_) #[true, true, true, true, true, true, true, true, true, true, true, false, false] rfl rfl (by kernel_rfl) (fun _ _ _ h => h) (Or.inl ⟨by rfl, fun w2 h => run_loadCell rfl rfl Try.underlying5 rfl (h.rowCell (g := g7) (by repeat (first | exact Pick.here _ | apply Pick.there)) k x hx2)⟩) hHeld ?_ ?_
        rotate_left
        · simp only [Act.put, List.setIfInBounds_toArray, List.set_cons_zero, List.set_cons_succ, i64_w, i32_w]
          rfl
        refine pure_ (i := 11) (N := some 61) (v := ?_) (a' := ?_) #[true, true, true, true, true, true, true, true, true, true, true, true, false] rfl rfl (by kernel_rfl) (fun _ _ _ h => h) (Or.inl ⟨by rfl, ?_⟩) ?_ ?_
        rotate_left
        · intro w'
          go_simp
          with_reducible rfl
        rotate_left
        · simp only [Act.put, List.setIfInBounds_toArray, List.set_cons_zero, List.set_cons_succ, i64_w, i32_w]
          rfl
        refine pure_ (i := 12) (N := some 62) (v := ?_) (a' := ?_) #[true, true, true, true, true, true, true, true, true, true, true, true, true] rfl rfl (by kernel_rfl) (fun _ _ _ h => h) (Or.inl ⟨by rfl, ?_⟩) ?_ ?_
        rotate_left
        · intro w'
          go_simp
          with_reducible rfl
        rotate_left
        · simp only [Act.put, List.setIfInBounds_toArray, List.set_cons_zero, List.set_cons_succ, i64_w, i32_w]
          rfl
        refine done_ (by kernel_rfl) ?_
        replace H := Aside0.mk HD
        clear HD hHeld
        go_wp2_with fail
        go_roundw
        case rel => exact ⟨k + 1, by omega, by go_num, H⟩
        case measure => simp [intOf]; omega
    · have d1 : decide (k < 35) = false := decide_eq_false hlt
      have d2 : decide ((k : Int) < 35) = false := decide_eq_false (by omega)
      go_wp2_with fail
      refine startH H.out (n := 16) [] #[false, false, false, false, false, false, false, false, false, false, false, false, false, false, false, false] (by kernel_rfl) rfl rfl (fun hHeld => ?_)
      have HD := H.out.drew
      refine pure_ (i := 0) (N := some 63) (v := ?_) (a' := ?_) #[true, false, false, false, false, false, false, false, false, false, false, false, false, false, false, false] rfl rfl (by kernel_rfl) (fun _ _ _ h => h) (Or.inl ⟨by rfl, ?_⟩) ?_ ?_
      rotate_left
      · intro w'
        go_simp
        with_reducible rfl
      rotate_left
      · simp only [Act.put, List.setIfInBounds_toArray, List.set_cons_zero, List.set_cons_succ, i64_w, i32_w]
        rfl
      refine pure_ (i := 1) (N := some 64) (v := ?_) (a' := ?_) #[true, true, false, false, false, false, false, false, false, false, false, false, false, false, false, false] rfl rfl (by kernel_rfl) (fun _ _ _ h => h) (Or.inl ⟨by rfl, ?_⟩) ?_ ?_
      rotate_left
      · intro w'
        go_simp
        with_reducible rfl
      rotate_left
      · simp only [Act.put, List.setIfInBounds_toArray, List.set_cons_zero, List.set_cons_succ, i64_w, i32_w]
        rfl
      refine pure_ (i := 5) (N := some 68) (v := ?_) (a' := ?_) #[true, true, false, false, false, true, false, false, false, false, false, false, false, false, false, false] rfl rfl (by kernel_rfl) (fun _ _ _ h => h) (Or.inl ⟨by rfl, ?_⟩) ?_ ?_
      rotate_left
      · intro w'
        go_simp
        with_reducible rfl
      rotate_left
      · simp only [Act.put, List.setIfInBounds_toArray, List.set_cons_zero, List.set_cons_succ, i64_w, i32_w]
        rfl
      refine take_ (i := 2) (N := some 65) (v := _) (a' := ?_) #[true, true, true, false, false, true, false, false, false, false, false, false, false, false, false, false] rfl rfl (by kernel_rfl) (fun _ _ _ h => h) (Or.inl ⟨by rfl, fun w2 h => run_loadCell rfl rfl Try.underlying5 rfl (h.rowCell (g := g6) (by repeat (first | exact Pick.here _ | apply Pick.there)) 4 128 hF1)⟩) hHeld ?_ ?_
      rotate_left
      · simp only [Act.put, List.setIfInBounds_toArray, List.set_cons_zero, List.set_cons_succ, i64_w, i32_w]
        rfl
      refine pure_ (i := 3) (N := some 66) (v := ?_) (a' := ?_) #[true, true, true, true, false, true, false, false, false, false, false, false, false, false, false, false] rfl rfl (by kernel_rfl) (fun _ _ _ h => h) (Or.inl ⟨by rfl, ?_⟩) ?_ ?_
      rotate_left
      · intro w'
        go_simp
        with_reducible rfl
      rotate_left
      · simp only [Act.put, List.setIfInBounds_toArray, List.set_cons_zero, List.set_cons_succ, i64_w, i32_w]
        rfl
      refine pure_ (i := 4) (N := some 67) (v := ?_) (a' := ?_) #[true, true, true, true, true, true, false, false, false, false, false, false, false, false, false, false] rfl rfl (by kernel_rfl) (fun _ _ _ h => h) (Or.inl ⟨by rfl, ?_⟩) ?_ ?_
      rotate_left
      · intro w'
        go_simp
        with_reducible rfl
      rotate_left
      · simp only [Act.put, List.setIfInBounds_toArray, List.set_cons_zero, List.set_cons_succ, i64_w, i32_w]
        rfl
      refine take_ (i := 6) (N := some 69) (v := _) (a' := ?_) #[true, true, true, true, true, true, true, false, false, false, false, false, false, false, false, false] rfl rfl (by kernel_rfl) (fun _ _ _ h => h) (Or.inl ⟨by rfl, fun w2 h => h.load1 4 (.tmp 68) rfl rfl (by repeat (first | exact Pick.here _ | apply Pick.there)) Try.underlying4 rfl rfl⟩) hHeld ?_ ?_
      rotate_left
      · simp only [Act.put, List.setIfInBounds_toArray, List.set_cons_zero, List.set_cons_succ, i64_w, i32_w]
        rfl
      refine pure_ (i := 7) (N := some 70) (v := ?_) (a' := ?_) #[true, true, true, true, true, true, true, true, false, false, false, false, false, false, false, false] rfl rfl (by kernel_rfl) (fun _ _ _ h => h) (Or.inl ⟨by rfl, ?_⟩) ?_ ?_
      rotate_left
      · intro w'
        go_simp
        with_reducible rfl
      rotate_left
      · simp only [Act.put, List.setIfInBounds_toArray, List.set_cons_zero, List.set_cons_succ, i64_w, i32_w]
        rfl
      refine pure_ (i := 8) (N := some 71) (v := ?_) (a' := ?_) #[true, true, true, true, true, true, true, true, true, false, false, false, false, false, false, false] rfl rfl (by kernel_rfl) (fun _ _ _ h => h) (Or.inl ⟨by rfl, ?_⟩) ?_ ?_
      rotate_left
      · intro w'
        go_simp
        with_reducible rfl
      rotate_left
      · simp only [Act.put, List.setIfInBounds_toArray, List.set_cons_zero, List.set_cons_succ, i64_w, i32_w]
        rfl
      refine pure_ (i := 9) (N := some 72) (v := ?_) (a' := ?_) #[true, true, true, true, true, true, true, true, true, true, false, false, false, false, false, false] rfl rfl (by kernel_rfl) (fun _ _ _ h => h) (Or.inl ⟨by rfl, ?_⟩) ?_ ?_
      rotate_left
      · intro w'
        go_simp
        with_reducible rfl
      rotate_left
      · simp only [Act.put, List.setIfInBounds_toArray, List.set_cons_zero, List.set_cons_succ, i64_w, i32_w]
        rfl
      refine pure_ (i := 10) (N := some 73) (v := ?_) (a' := ?_) #[true, true, true, true, true, true, true, true, true, true, true, false, false, false, false, false] rfl rfl (by kernel_rfl) (fun _ _ _ h => h) (Or.inl ⟨by rfl, ?_⟩) ?_ ?_
      rotate_left
      · intro w'
        go_simp
        with_reducible rfl
      rotate_left
      · simp only [Act.put, List.setIfInBounds_toArray, List.set_cons_zero, List.set_cons_succ, i64_w, i32_w]
        rfl
      refine take_ (i := 11) (N := some 74) (v := _) (a' := ?_) #[true, true, true, true, true, true, true, true, true, true, true, true, false, false, false, false] rfl rfl (by kernel_rfl) (fun _ _ _ h => h) (Or.inl ⟨by rfl, fun w2 h => run_loadCell rfl rfl Try.underlying5 rfl (h.rowCell (g := g6) (by repeat (first | exact Pick.here _ | apply Pick.there)) 4 128 hF1)⟩) hHeld ?_ ?_
      rotate_left
      · simp only [Act.put, List.setIfInBounds_toArray, List.set_cons_zero, List.set_cons_succ, i64_w, i32_w]
        rfl
      refine pure_ (i := 12) (N := some 75) (v := ?_) (a' := ?_) #[true, true, true, true, true, true, true, true, true, true, true, true, true, false, false, false] rfl rfl (by kernel_rfl) (fun _ _ _ h => h) (Or.inl ⟨by rfl, ?_⟩) ?_ ?_
      rotate_left
      · intro w'
        go_simp
        with_reducible rfl
      rotate_left
      · simp only [Act.put, List.setIfInBounds_toArray, List.set_cons_zero, List.set_cons_succ, i64_w, i32_w]
        rfl
      refine pure_ (i := 13) (N := some 76) (v := ?_) (a' := ?_) #[true, true, true, true, true, true, true, true, true, true, true, true, true, true, false, false] rfl rfl (by kernel_rfl) (fun _ _ _ h => h) (Or.inl ⟨by rfl, ?_⟩) ?_ ?_
      rotate_left
      · intro w'
        go_simp
        with_reducible rfl
      rotate_left
      · simp only [Act.put, List.setIfInBounds_toArray, List.set_cons_zero, List.set_cons_succ, i64_w, i32_w]
        rfl
      refine pure_ (i := 14) (N := some 77) (v := ?_) (a' := ?_) #[true, true, true, true, true, true, true, true, true, true, true, true, true, true, true, false] rfl rfl (by kernel_rfl) (fun _ _ _ h => h) (Or.inl ⟨by rfl, ?_⟩) ?_ ?_
      rotate_left
      · intro w'
        go_simp
        with_reducible rfl
      rotate_left
      · simp only [Act.put, List.setIfInBounds_toArray, List.set_cons_zero, List.set_cons_succ, i64_w, i32_w]
        rfl
      refine pure_ (i := 15) (N := some 2) (v := ?_) (a' := ?_) #[true, true, true, true, true, true, true, true, true, true, true, true, true, true, true, true] rfl rfl (by kernel_rfl) (fun _ _ _ h => h) (Or.inl ⟨by rfl, ?_⟩) ?_ ?_
      rotate_left
      · intro w'
        go_simp
        with_reducible rfl
      rotate_left
      · simp only [Act.put, List.setIfInBounds_toArray, List.set_cons_zero, List.set_cons_succ, i64_w, i32_w]
        rfl
      refine done_ (by kernel_rfl) ?_
      go_wp2_with fail
      go_ret
      exact ⟨rfl, HD.below⟩

set_option maxHeartbeats 1000000 in
set_option maxRecDepth 100000 in
theorem Flags_2 (w : World) (r co br po q1 q2 q3 q4 : Int) (r0 : 0 ≤ r ∧ r < 18446744073709551616) (co0 : 0 ≤ co ∧ co < 4294967296) (br0 : 0 ≤ br ∧ br < 18446744073709551616) (po0 : 0 ≤ po ∧ po < 65536) (q10 : 0 ≤ q1 ∧ q1 < 65536) (q20 : 0 ≤ q2 ∧ q2 < 65536) (q30 : 0 ≤ q3 ∧ q3 < 65536) (q40 : 0 ≤ q4 ∧ q4 < 65536) :
    Calls Try.prog 9 #[.agg #[.bool false, .bool true, .bool false, .int .u64 r, .int .u32 co, .int .u64 br, .int .u16 po, .int .u16 q1, .int .u16 q2, .int .u16 q3, .int .u16 q4]] w (fun e w' => e = .returned (.bool true) ∧ Below w.heap.size w w') := by
  have H := Hp.nothing w
  go_enter Try.func9, Try.ntmps9
  go_wp2_with (first | ((with_reducible refine gate_dst (N := 1) rfl ?_); refine ev_ rfl (H.box rfl (by first | (go_simp; done) | (go_simp; rfl)) rfl) ?_; rintro _ w1 ⟨g1, rfl, H1⟩; (try simp only [Value.cells] at H1); replace H := H1; clear H1) | ((with_reducible refine gate_dst (N := 9) rfl ?_); refine Kd.event_run rfl (H.loadN 48 (.tmp 1) rfl rfl (by repeat (first | exact Pick.here _ | apply Pick.there)) #[.bool false, .bool true, .bool false, .int .u64 r, .int .u32 co, .int .u64 br, .int .u16 po, .int .u16 q1, .int .u16 q2, .int .u16 q3, .int .u16 q4] Try.underlying48 rfl info48s (fun j u hj => by simpa using hj)) ?_) | ((with_reducible refine gate_dst (N := 3) rfl ?_); refine ev_ rfl (H.new (cs := #[.bool false, .bool false, .bool false, .int .u64 0, .int .u32 0, .int .u64 0, .int .u16 0, .int .u16 0, .int .u16 0, .int .u16 0, .int .u16 0]) (t := 48) (by first | (go_simp; done) | (go_simp; rfl))) ?_; rintro _ w1 ⟨g3, rfl, H1⟩; replace H := H1; clear H1) | ((with_reducible refine gate_store (p := 3) rfl ?_); refine ev_ rfl (H.store 48 (.tmp 3) (.tmp 9) rfl rfl (by repeat (first | exact Pick.here _ | apply Pick.there)) (by first | (go_simp; done) | (go_simp; rfl)) _ rfl info48s (by simp [Value.oneCell', Value.cells]) (by simp [Value.cells]) rfl) ?_; rintro _ w1 ⟨rfl, H1⟩; (try simp only [putsAt, Value.cells, List.setIfInBounds_toArray, List.set_cons_zero, List.set_cons_succ, List.toList_toArray] at H1); replace H := H1; clear H1) | (go_at_call 23; refine H.call1 (awake_calls _) ?_; intro w1 H1; replace H := H1; clear H1))
  refine startH (H.take (p := [blk g1 #[.bool false, .bool true, .bool false, .int .u64 r, .int .u32 co, .int .u64 br, .int .u16 po, .int .u16 q1, .int .u16 q2, .int .u16 q3, .int .u16 q4] 48]) (.cons (by repeat (first | exact Pick.here _ | apply Pick.there)) (.nil _))) (n := 9) [] #[false, false, false, false, false, false, false, false, false] (by kernel_rfl) rfl rfl (fun hHeld => ?_)
  have HD := H.drew
  refine pure_ (i := 0) (N := some 10) (v := ?_) (a' := ?_) #[true, false, false, false, false, false, false, false, false] rfl rfl (by kernel_rfl) (fun _ _ _ h => h) (Or.inl ⟨by rfl, ?_⟩) ?_ ?_
  rotate_left
  · intro w'
    go_simp
    with_reducible rfl
  rotate_left
  · simp only [Act.put, List.setIfInBounds_toArray, List.set_cons_zero, List.set_cons_succ, i64_w, i32_w]
    rfl
  refine pure_ (i := 3) (N := some 13) (v := ?_) (a' := ?_) #[true, false, false, true, false, false, false, false, false] rfl rfl (by kernel_rfl) (fun _ _ _ h => h) (Or.inl ⟨by rfl, ?_⟩) ?_ ?_
  rotate_left
  · intro w'
    go_simp
    with_reducible rfl
  rotate_left
  · simp only [Act.put, List.setIfInBounds_toArray, List.set_cons_zero, List.set_cons_succ, i64_w, i32_w]
    rfl
  refine take_ (i := 1) (N := some 11) (v := _) (a' := ?_) #[true, true, false, true, false, false, false, false, false] rfl rfl (by kernel_rfl) (fun _ _ _ h => h) (Or.inl ⟨by rfl, fun w2 h => h.load1 4 (.tmp 10) rfl rfl (by repeat (first | exact Pick.here _ | apply Pick.there)) Try.underlying4 rfl rfl⟩) hHeld ?_ ?_
  rotate_left
  · simp only [Act.put, List.setIfInBounds_toArray, List.set_cons_zero, List.set_cons_succ, i64_w, i32_w]
    rfl
  refine pure_ (i := 2) (N := some 12) (v := ?_) (a' := ?_) #[true, true, true, true, false, false, false, false, false] rfl rfl (by kernel_rfl) (fun _ _ _ h => h) (Or.inl ⟨by rfl, ?_⟩) ?_ ?_
  rotate_left
  · intro w'
    go_simp
    with_reducible rfl
  rotate_left
  · simp only [Act.put, List.setIfInBounds_toArray, List.set_cons_zero, List.set_cons_succ, i64_w, i32_w]
    rfl
  refine pure_ (i := 5) (N := some 15) (v := ?_) (a' := ?_) #[true, true, true, true, false, true, false, false, false] rfl rfl (by kernel_rfl) (fun _ _ _ h => h) (Or.inl ⟨by rfl, ?_⟩) ?_ ?_
  rotate_left
  · intro w'
    go_simp
    with_reducible rfl
  rotate_left
  · simp only [Act.put, List.setIfInBounds_toArray, List.set_cons_zero, List.set_cons_succ, i64_w, i32_w]
    rfl
  refine take_ (i := 4) (N := some 14) (v := _) (a' := ?_) #[true, true, true, true, true, true, false, false, false] rfl rfl (by kernel_rfl) (fun _ _ _ h => h) (Or.inl ⟨by rfl, fun w2 h => h.load1 4 (.tmp 13) rfl rfl (by repeat (first | exact Pick.here _ | apply Pick.there)) Try.underlying4 rfl rfl⟩) hHeld ?_ ?_
  rotate_left
  · simp only [Act.put, List.setIfInBounds_toArray, List.set_cons_zero, List.set_cons_succ, i64_w, i32_w]
    rfl
  refine one_ (i := 6) (N := none) #[true, true, true, true, true, true, true, false, false] rfl rfl (by kernel_rfl) (by decide) (fun K hK => ?_)
  refine step_ (by rfl) rfl (HD.store 4 (.tmp 15) (.tmp 12) rfl rfl (by repeat (first | exact Pick.here _ | apply Pick.there)) (by first | (go_simp; done) | (go_simp; rfl)) _ rfl info4s (by simp [Value.oneCell', Value.cells]) (by simp [Value.cells]) rfl) ?_
  rintro _ w5 ⟨rfl, H5⟩
  simp only [putsAt, Value.cells, List.setIfInBounds_toArray, List.set_cons_zero, List.set_cons_succ, List.toList_toArray] at H5
  replace HD := H5
  clear H5
  refine hK.out _ _ (HD.take (p := [blk g1 #[.bool false, .bool true, .bool false, .int .u64 r, .int .u32 co, .int .u64 br, .int .u16 po, .int .u16 q1, .int .u16 q2, .int .u16 q3, .int .u16 q4] 48]) (.cons (by repeat (first | exact Pick.here _ | apply Pick.there)) (.nil _))) (fun hHeld => ?_)
  clear hK K
  refine pure_ (i := 7) (N := some 16) (v := ?_) (a' := ?_) #[true, true, true, true, true, true, true, true, false] rfl rfl (by kernel_rfl) (fun _ _ _ h => h) (Or.inl ⟨by rfl, ?_⟩) ?_ ?_
  rotate_left
  · intro w'
    go_simp
    with_reducible rfl
  rotate_left
  · simp only [Act.put, List.setIfInBounds_toArray, List.set_cons_zero, List.set_cons_succ, i64_w, i32_w]
    rfl
  refine one_ (i := 8) (N := none) #[true, true, true, true, true, true, true, true, true] rfl rfl (by kernel_rfl) (by decide) (fun K hK => ?_)
  refine step_ (by rfl) rfl (HD.store 4 (.tmp 16) (.tmp 14) rfl rfl (by repeat (first | exact Pick.here _ | apply Pick.there)) (by first | (go_simp; done) | (go_simp; rfl)) _ rfl info4s (by simp [Value.oneCell', Value.cells]) (by simp [Value.cells]) rfl) ?_
  rintro _ w5 ⟨rfl, H5⟩
  simp only [putsAt, Value.cells, List.setIfInBounds_toArray, List.set_cons_zero, List.set_cons_succ, List.toList_toArray] at H5
  replace HD := H5
  clear H5
  refine hK.out _ _ (HD.take (p := [blk g1 #[.bool false, .bool true, .bool false, .int .u64 r, .int .u32 co, .int .u64 br, .int .u16 po, .int .u16 q1, .int .u16 q2, .int .u16 q3, .int .u16 q4] 48]) (.cons (by repeat (first | exact Pick.here _ | apply Pick.there)) (.nil _))) (fun hHeld => ?_)
  clear hK K
  refine done_ (by kernel_rfl) ?_
  replace H := HD
  clear HD hHeld
  go_wp2_with fail
  refine startH (H.take (p := [blk g1 #[.bool false, .bool true, .bool false, .int .u64 r, .int .u32 co, .int .u64 br, .int .u16 po, .int .u16 q1, .int .u16 q2, .int .u16 q3, .int .u16 q4] 48, blk g3 #[.bool false, .bool false, .bool false, .int .u64 r, .int .u32 co, .int .u64 br, .int .u16 po, .int .u16 q1, .int .u16 q2, .int .u16 q3, .int .u16 q4] 48]) (.cons (by repeat (first | exact Pick.here _ | apply Pick.there)) (.cons (by repeat (first | exact Pick.here _ | apply Pick.there)) (.nil _)))) (n := 6) [] #[false, false, false, false, false, false] (by kernel_rfl) rfl rfl (fun hHeld => ?_)
  have HD := H.drew
  refine take_ (i := 0) (N := some 17) (v := _) (a' := ?_) #[true, false, false, false, false, false] rfl rfl (by kernel_rfl) (fun _ _ _ h => h) (Or.inl ⟨by rfl, fun w2 h => h.loadN 48 (.tmp 1) rfl rfl (by repeat (first | exact Pick.here _ | apply Pick.there)) #[.bool false, .bool true, .bool false, .int .u64 r, .int .u32 co, .int .u64 br, .int .u16 po, .int .u16 q1, .int .u16 q2, .int .u16 q3, .int .u16 q4] Try.underlying48 rfl info48s (fun j u hj => by simpa using hj)⟩) hHeld ?_ ?_
  rotate_left
  · simp only [Act.put, List.setIfInBounds_toArray, List.set_cons_zero, List.set_cons_succ, i64_w, i32_w]
    rfl
  refine take_ (i := 2) (N := some 19) (v := _) (a' := ?_) #[true, false, true, false, false, false] rfl rfl (by kernel_rfl) (fun _ _ _ h => h) (Or.inl ⟨by rfl, fun w2 h => h.loadN 48 (.tmp 3) rfl rfl (by repeat (first | exact Pick.here _ | apply Pick.there)) #[.bool false, .bool false, .bool false, .int .u64 r, .int .u32 co, .int .u64 br, .int .u16 po, .int .u16 q1, .int .u16 q2, .int .u16 q3, .int .u16 q4] Try.underlying48 rfl info48s (fun j u hj => by simpa using hj)⟩) hHeld ?_ ?_
  rotate_left
  · simp only [Act.put, List.setIfInBounds_toArray, List.set_cons_zero, List.set_cons_succ, i64_w, i32_w]
    rfl
  refine one_ (i := 1) (N := some 18) #[true, true, true, false, false, false] rfl rfl (by kernel_rfl) (by decide) (fun K hK => ?_)
  refine goes_ Try.func24 (by kernel_rfl) rfl #[.agg #[.bool false, .bool true, .bool false, .int .u64 r, .int .u32 co, .int .u64 br, .int .u16 po, .int .u16 q1, .int .u16 q2, .int .u16 q3, .int .u16 q4]] (by rfl) rfl rfl (by simp only [List.map_toArray, List.map_cons, List.map_nil]; rfl) ?_
  refine HD.call0 (BPut_conf _ true false r co br po q1 q2 q3 q4 r0 co0 br0 po0 q10 q20 q30 q40) ?_
  rintro v6 l1 w3 rfl H3
  obtain ⟨A6, c6, rfl, hc6, H4⟩ := named H3 35 (confB_length ..)
  replace HD := H4
  clear H3 H4 hc6
  refine ⟨_, rfl, ?_⟩
  refine hK.out _ _ (HD.take (p := [blk g1 #[.bool false, .bool true, .bool false, .int .u64 r, .int .u32 co, .int .u64 br, .int .u16 po, .int .u16 q1, .int .u16 q2, .int .u16 q3, .int .u16 q4] 48, blk g3 #[.bool false, .bool false, .bool false, .int .u64 r, .int .u32 co, .int .u64 br, .int .u16 po, .int .u16 q1, .int .u16 q2, .int .u16 q3, .int .u16 q4] 48]) (.cons (by repeat (first | exact Pick.here _ | apply Pick.there)) (.cons (by repeat (first | exact Pick.here _ | apply Pick.there)) (.nil _)))) (fun hHeld => ?_)
  clear hK K
  refine norm_ (a' := ?_) ?_ ?_
  rotate_left
  · show Act.put _ (some 18) _ = _
    simp only [Act.put, List.setIfInBounds_toArray, List.set_cons_zero, List.set_cons_succ, i64_w, i32_w]
    rfl
  refine one_ (i := 3) (N := some 20) #[true, true, true, true, false, false] rfl rfl (by kernel_rfl) (by decide) (fun K hK => ?_)
  refine goes_ Try.func24 (by kernel_rfl) rfl #[.agg #[.bool false, .bool false, .bool false, .int .u64 r, .int .u32 co, .int .u64 br, .int .u16 po, .int .u16 q1, .int .u16 q2, .int .u16 q3, .int .u16 q4]] (by rfl) rfl rfl (by simp only [List.map_toArray, List.map_cons, List.map_nil]; rfl) ?_
  refine HD.call0 (BPut_conf _ false false r co br po q1 q2 q3 q4 r0 co0 br0 po0 q10 q20 q30 q40) ?_
  rintro v6 l1 w3 rfl H3
  obtain ⟨A7, c7, rfl, hc7, H4⟩ := named H3 35 (confB_length ..)
  replace HD := H4
  clear H3 H4 hc7
  refine ⟨_, rfl, ?_⟩
  refine hK.out _ _ (HD.take (p := [blk g1 #[.bool false, .bool true, .bool false, .int .u64 r, .int .u32 co, .int .u64 br, .int .u16 po, .int .u16 q1, .int .u16 q2, .int .u16 q3, .int .u16 q4] 48, blk g3 #[.bool false, .bool false, .bool false, .int .u64 r, .int .u32 co, .int .u64 br, .int .u16 po, .int .u16 q1, .int .u16 q2, .int .u16 q3, .int .u16 q4] 48]) (.cons (by repeat (first | exact Pick.here _ | apply Pick.there)) (.cons (by repeat (first | exact Pick.here _ | apply Pick.there)) (.nil _)))) (fun hHeld => ?_)
  clear hK K
  refine norm_ (a' := ?_) ?_ ?_
  rotate_left
  · show Act.put _ (some 20) _ = _
    simp only [Act.put, List.setIfInBounds_toArray, List.set_cons_zero, List.set_cons_succ, i64_w, i32_w]
    rfl
  refine pure_ (i := 4) (N := some 4) (v := ?_) (a' := ?_) #[true, true, true, true, true, false] rfl rfl (by kernel_rfl) (fun _ _ _ h => h) (Or.inl ⟨by rfl, ?_⟩) ?_ ?_
  rotate_left
  · intro w'
    go_simp
    with_reducible rfl
  rotate_left
  · simp only [Act.put, List.setIfInBounds_toArray, List.set_cons_zero, List.set_cons_succ, i64_w, i32_w]
    rfl
  refine pure_ (i := 5) (N := some 5) (v := ?_) (a' := ?_) #[true, true, true, true, true, true] rfl rfl (by kernel_rfl) (fun _ _ _ h => h) (Or.inl ⟨by rfl, ?_⟩) ?_ ?_
  rotate_left
  · intro w'
    go_simp
    with_reducible rfl
  rotate_left
  · simp only [Act.put, List.setIfInBounds_toArray, List.set_cons_zero, List.set_cons_succ, i64_w, i32_w]
    rfl
  refine done_ (by kernel_rfl) ?_
  replace H := HD
  clear HD hHeld
  go_wp2_with (first | ((with_reducible refine gate_dst (N := 22) rfl ?_); refine Kd.event_run rfl (H.load1 4 (.tmp 21) rfl rfl (by repeat (first | exact Pick.here _ | apply Pick.there)) Try.underlying4 rfl rfl) ?_))
  obtain ⟨g6, rfl⟩ := H.form (A := A6) (xs := confB true false r co br po q1 q2 q3 q4) (by repeat (first | exact Pick.here _ | apply Pick.there)) (by rw [confB_length]; decide)
  obtain ⟨g7, rfl⟩ := H.form (A := A7) (xs := confB false false r co br po q1 q2 q3 q4) (by repeat (first | exact Pick.here _ | apply Pick.there)) (by rw [confB_length]; decide)
  have hF1 : (confB true false r co br po q1 q2 q3 q4)[4]? = some 1 := confB_4 _ _ _ _ _ _ _ _ _ _
  have hF2 : (confB false false r co br po q1 q2 q3 q4)[4]? = some 0 := confB_4 _ _ _ _ _ _ _ _ _ _
  replace H := H.take (p := [row (Kd.int .u8) 5 (.slice (some ⟨g6, 0, none⟩) 35 c6) (confB true false r co br po q1 q2 q3 q4), row (Kd.int .u8) 5 (.slice (some ⟨g7, 0, none⟩) 35 c7) (confB false false r co br po q1 q2 q3 q4), blk g1 #[.bool false, .bool true, .bool false, .int .u64 r, .int .u32 co, .int .u64 br, .int .u16 po, .int .u16 q1, .int .u16 q2, .int .u16 q3, .int .u16 q4] 48]) (.cons (by repeat (first | exact Pick.here _ | apply Pick.there)) (.cons (by repeat (first | exact Pick.here _ | apply Pick.there)) (.cons (by repeat (first | exact Pick.here _ | apply Pick.there)) (.nil _))))
  refine startH H (n := 18) [] #[false, false, false, false, false, false, false, false, false, false, false, false, false, false, false, false, false, false] (by kernel_rfl) rfl rfl (fun hHeld => ?_)
  have HD := H.drew
  refine pure_ (i := 0) (N := some 28) (v := ?_) (a' := ?_) #[true, false, false, false, false, false, false, false, false, false, false, false, false, false, false, false, false, false] rfl rfl (by kernel_rfl) (fun _ _ _ h => h) (Or.inl ⟨by rfl, ?_⟩) ?_ ?_
  rotate_left
  · intro w'
    go_simp
    with_reducible rfl
  rotate_left
  · simp only [Act.put, List.setIfInBounds_toArray, List.set_cons_zero, List.set_cons_succ, i64_w, i32_w]
    rfl
  refine pure_ (i := 1) (N := some 29) (v := ?_) (a' := ?_) #[true, true, false, false, false, false, false, false, false, false, false, false, false, false, false, false, false, false] rfl rfl (by kernel_rfl) (fun _ _ _ h => h) (Or.inl ⟨by rfl, ?_⟩) ?_ ?_
  rotate_left
  · intro w'
    go_simp
    with_reducible rfl
  rotate_left
  · simp only [Act.put, List.setIfInBounds_toArray, List.set_cons_zero, List.set_cons_succ, i64_w, i32_w]
    rfl
  refine pure_ (i := 2) (N := some 30) (v := ?_) (a' := ?_) #[true, true, true, false, false, false, false, false, false, false, false, false, false, false, false, false, false, false] rfl rfl (by kernel_rfl) (fun _ _ _ h => h) (Or.inl ⟨by rfl, ?_⟩) ?_ ?_
  rotate_left
  · intro w'
    go_simp
    with_reducible rfl
  rotate_left
  · simp only [Act.put, List.setIfInBounds_toArray, List.set_cons_zero, List.set_cons_succ, i64_w, i32_w]
    rfl
  refine pure_ (i := 3) (N := some 31) (v := ?_) (a' := ?_) #[true, true, true, true, false, false, false, false, false, false, false, false, false, false, false, false, false, false] rfl rfl (by kernel_rfl) (fun _ _ _ h => h) (Or.inl ⟨by rfl, ?_⟩) ?_ ?_
  rotate_left
  · intro w'
    go_simp
    with_reducible rfl
  rotate_left
  · simp only [Act.put, List.setIfInBounds_toArray, List.set_cons_zero, List.set_cons_succ, i64_w, i32_w]
    rfl
  refine pure_ (i := 4) (N := some 32) (v := ?_) (a' := ?_) #[true, true, true, true, true, false, false, false, false, false, false, false, false, false, false, false, false, false] rfl rfl (by kernel_rfl) (fun _ _ _ h => h) (Or.inl ⟨by rfl, ?_⟩) ?_ ?_
  rotate_left
  · intro w'
    go_simp
    with_reducible rfl
  rotate_left
  · simp only [Act.put, List.setIfInBounds_toArray, List.set_cons_zero, List.set_cons_succ, i64_w, i32_w]
    rfl
  refine pure_ (i := 5) (N := some 33) (v := ?_) (a' := ?_) #[true, true, true, true, true, true, false, false, false, false, false, false, false, false, false, false, false, false] rfl rfl (by kernel_rfl) (fun _ _ _ h => h) (Or.inl ⟨by rfl, ?_⟩) ?_ ?_
  rotate_left
  · intro w'
    go_simp
    with_reducible rfl
  rotate_left
  · simp only [Act.put, List.setIfInBounds_toArray, List.set_cons_zero, List.set_cons_succ, i64_w, i32_w]
    rfl
  refine pure_ (i := 6) (N := some 34) (v := ?_) (a' := ?_) #[true, true, true, true, true, true, true, false, false, false, false, false, false, false, false, false, false, false] rfl rfl (by kernel_rfl) (fun _ _ _ h => h) (Or.inl ⟨by rfl, ?_⟩) ?_ ?_
  rotate_left
  · intro w'
    go_simp
    with_reducible rfl
  rotate_left
  · simp only [Act.put, List.setIfInBounds_toArray, List.set_cons_zero, List.set_cons_succ, i64_w, i32_w]
    rfl
  refine pure_ (i := 7) (N := some 35) (v := ?_) (a' := ?_) #[true, true, true, true, true, true, true, true, false, false, false, false, false, false, false, false, false, false] rfl rfl (by kernel_rfl) (fun _ _ _ h => h) (Or.inl ⟨by rfl, ?_⟩) ?_ ?_
  rotate_left
  · intro w'
    go_simp
    with_reducible rfl
  rotate_left
  · simp only [Act.put, List.setIfInBounds_toArray, List.set_cons_zero, List.set_cons_succ, i64_w, i32_w]
    rfl
  refine pure_ (i := 8) (N := some 36) (v := ?_) (a' := ?_) #[true, true, true, true, true, true, true, true, true, false, false, false, false, false, false, false, false, false] rfl rfl (by kernel_rfl) (fun _ _ _ h => h) (Or.inl ⟨by rfl, ?_⟩) ?_ ?_
  rotate_left
  · intro w'
    go_simp
    with_reducible rfl
  rotate_left
  · simp only [Act.put, List.setIfInBounds_toArray, List.set_cons_zero, List.set_cons_succ, i64_w, i32_w]
    rfl
  refine pure_ (i := 9) (N := some 37) (v := ?_) (a' := ?_) #[true, true, true, true, true, true, true, true, true, true, false, false, false, false, false, false, false, false] rfl rfl (by kernel_rfl) (fun _ _ _ h => h) (Or.inl ⟨by rfl, ?_⟩) ?_ ?_
  rotate_left
  · intro w'
    go_simp
    with_reducible rfl
  rotate_left
  · simp only [Act.put, List.setIfInBounds_toArray, List.set_cons_zero, List.set_cons_succ, i64_w, i32_w]
    rfl
  refine pure_ (i := 10) (N := some 38) (v := ?_) (a' := ?_) #[true, true, true, true, true, true, true, true, true, true, true, false, false, false, false, false, false, false] rfl rfl (by kernel_rfl) (fun _ _ _ h => h) (Or.inl ⟨by rfl, ?_⟩) ?_ ?_
  rotate_left
  · intro w'
    go_simp
    with_reducible rfl
  rotate_left
  · simp only [Act.put, List.setIfInBounds_toArray, List.set_cons_zero, List.set_cons_succ, i64_w, i32_w]
    rfl
  refine pure_ (i := 12) (N := some 40) (v := ?_) (a' := ?_) #[true, true, true, true, true, true, true, true, true, true, true, false, true, false, false, false, false, false] rfl rfl (by kernel_rfl) (fun _ _ _ h => h) (Or.inl ⟨by rfl, ?_⟩) ?_ ?_
  rotate_left
  · intro w'
    go_simp
    with_reducible rfl
  rotate_left
  · simp only [Act.put, List.setIfInBounds_toArray, List.set_cons_zero, List.set_cons_succ, i64_w, i32_w]
    rfl
  refine pure_ (i := 13) (N := some 41) (v := ?_) (a' := ?_) #[true, true, true, true, true, true, true, true, true, true, true, false, true, true, false, false, false, false] rfl rfl (by kernel_rfl) (fun _ _ _ h => h) (Or.inl ⟨by rfl, ?_⟩) ?_ ?_
  rotate_left
  · intro w'
    go_simp
    with_reducible rfl
  rotate_left
  · simp only [Act.put, List.setIfInBounds_toArray, List.set_cons_zero, List.set_cons_succ, i64_w, i32_w]
    rfl
  refine take_ (i := 11) (N := some 39) (v := _) (a' := ?_) #[true, true, true, true, true, true, true, true, true, true, true, true, true, true, false, false, false, false] rfl rfl (by kernel_rfl) (fun _ _ _ h => h) (Or.inl ⟨by rfl, fun w2 h => run_loadCell rfl rfl Try.underlying5 rfl (h.rowCell (g := g6) (by repeat (first | exact Pick.here _ | apply Pick.there)) 4 1 hF1)⟩) hHeld ?_ ?_
  rotate_left
  · simp only [Act.put, List.setIfInBounds_toArray, List.set_cons_zero, List.set_cons_succ, i64_w, i32_w]
    rfl
  refine take_ (i := 14) (N := some 42) (v := _) (a' := ?_) #[true, true, true, true, true, true, true, true, true, true, true, true, true, true, true, false, false, false] rfl rfl (by kernel_rfl) (fun _ _ _ h => h) (Or.inl ⟨by rfl, fun w2 h => run_loadCell rfl rfl Try.underlying5 rfl (h.rowCell (g := g7) (by repeat (first | exact Pick.here _ | apply Pick.there)) 4 0 hF2)⟩) hHeld ?_ ?_
  rotate_left
  · simp only [Act.put, List.setIfInBounds_toArray, List.set_cons_zero, List.set_cons_succ, i64_w, i32_w]
    rfl
  refine pure_ (i := 15) (N := some 43) (v := ?_) (a' := ?_) #[true, true, true, true, true, true, true, true, true, true, true, true, true, true, true, true, false, false] rfl rfl (by kernel_rfl) (fun _ _ _ h => h) (Or.inl ⟨by rfl, ?_⟩) ?_ ?_
  rotate_left
  · intro w'
    go_simp
    with_reducible rfl
  rotate_left
  · simp only [Act.put, List.setIfInBounds_toArray, List.set_cons_zero, List.set_cons_succ, i64_w, i32_w]
    rfl
  refine pure_ (i := 16) (N := some 44) (v := ?_) (a' := ?_) #[true, true, true, true, true, true, true, true, true, true, true, true, true, true, true, true, true, false] rfl rfl (by kernel_rfl) (fun _ _ _ h => h) (Or.inl ⟨by rfl, ?_⟩) ?_ ?_
  rotate_left
  · intro w'
    go_simp
    with_reducible rfl
  rotate_left
  · simp only [Act.put, List.setIfInBounds_toArray, List.set_cons_zero, List.set_cons_succ, i64_w, i32_w]
    rfl
  refine pure_ (i := 17) (N := some 45) (v := ?_) (a' := ?_) #[true, true, true, true, true, true, true, true, true, true, true, true, true, true, true, true, true, true] rfl rfl (by kernel_rfl) (fun _ _ _ h => h) (Or.inl ⟨by rfl, ?_⟩) ?_ ?_
  rotate_left
  · intro w'
    go_simp
    with_reducible rfl
  rotate_left
  · simp only [Act.put, List.setIfInBounds_toArray, List.set_cons_zero, List.set_cons_succ, i64_w, i32_w]
    rfl
  refine done_ (by kernel_rfl) ?_
  replace H := HD
  clear HD hHeld
  go_wp2_with fail
  replace H := Aside0.mk H
  go_loopw [6] (fun v6 wr => ∃ k : Nat, k ≤ 35 ∧ v6 = .int .i64 (k : Int) ∧ Aside0 (Hp (fun _ => False) w wr [row (Kd.int .u8) 5 (.slice (some ⟨g6, 0, none⟩) 35 c6) (confB true false r co br po q1 q2 q3 q4), row (Kd.int .u8) 5 (.slice (some ⟨g7, 0, none⟩) 35 c7) (confB false false r co br po q1 q2 q3 q4), blk g1 #[.bool false, .bool true, .bool false, .int .u64 r, .int .u32 co, .int .u64 br, .int .u16 po, .int .u16 q1, .int .u16 q2, .int .u16 q3, .int .u16 q4] 48])) (fun v6 _ => 35 - (intOf v6).toNat)
  case atStart => exact ⟨0, by decide, rfl, H⟩
  case round =>
    obtain ⟨k, hk, rfl, H⟩ := hrel
    by_cases hlt : k < 35
    · have d1 : decide (k < 35) = true := decide_eq_true hlt
      have d2 : decide ((k : Int) < 35) = true := decide_eq_true (by omega)
      by_cases h4 : k = 4
      · subst h4
        go_wp2_with fail
        refine startH H.out (n := 13) [] #[false, false, false, false, false, false, false, false, false, false, false, false, false] (by kernel_rfl) rfl rfl (fun hHeld => ?_)
        have HD := H.out.drew
        refine pure_ (i := 0) (N := some 50) (v := ?_) (a' := ?_) #[true, false, false, false, false, false, false, false, false, false, false, false, false] rfl rfl (by kernel_rfl) (fun _ _ _ h => h) (Or.inl ⟨by rfl, ?_⟩) ?_ ?_
        rotate_left
        · intro w'
          go_simp
          with_reducible rfl
        rotate_left
        · simp only [Act.put, List.setIfInBounds_toArray, List.set_cons_zero, List.set_cons_succ, i64_w, i32_w]
          rfl
        refine pure_ (i := 1) (N := some 51) (v := ?_) (a' := ?_) #[true, true, false, false, false, false, false, false, false, false, false, false, false] rfl rfl (by kernel_rfl) (fun _ _ _ h => h) (Or.inl ⟨by rfl, ?_⟩) ?_ ?_
        rotate_left
        · intro w'
          go_simp
          with_reducible rfl
        rotate_left
        · simp only [Act.put, List.setIfInBounds_toArray, List.set_cons_zero, List.set_cons_succ, i64_w, i32_w]
          rfl
        refine pure_ (i := 2) (N := some 52) (v := ?_) (a' := ?_) #[true, true, true, false, false, false, false, false, false, false, false, false, false] rfl rfl (by kernel_rfl) (fun _ _ _ h => h) (Or.inl ⟨by rfl, ?_⟩) ?_ ?_
        rotate_left
        · intro w'
          go_simp
          with_reducible rfl
        rotate_left
        · simp only [Act.put, List.setIfInBounds_toArray, List.set_cons_zero, List.set_cons_succ, i64_w, i32_w]
          rfl
        refine pure_ (i := 3) (N := some 53) (v := undef) (a' := ?_) #[true, true, true, true, false, false, false, false, false, false, false, false, false] rfl rfl (by kernel_rfl) (fun _ _ _ h => h) (Or.inr ⟨by rfl, rfl⟩) ?_ ?_
        rotate_left
        · simp only [Act.put, List.setIfInBounds_toArray, List.set_cons_zero, List.set_cons_succ, i64_w, i32_w]
          rfl
        refine pure_ (i := 4) (N := some 54) (v := undef) (a' := ?_) #[true, true, true, true, true, false, false, false, false, false, false, false, false] rfl rfl (by kernel_rfl) (fun _ _ _ h => h) (Or.inr ⟨by rfl, rfl⟩) ?_ ?_
        rotate_left
        · simp only [Act.put, List.setIfInBounds_toArray, List.set_cons_zero, List.set_cons_succ, i64_w, i32_w]
          rfl
        refine pure_ (i := 5) (N := some 55) (v := undef) (a' := ?_) #[true, true, true, true, true, true, false, false, false, false, false, false, false] rfl rfl (by kernel_rfl) (fun _ _ _ h => h) (Or.inr ⟨by rfl, rfl⟩) ?_ ?_
        rotate_left
        · simp only [Act.put, List.setIfInBounds_toArray, List.set_cons_zero, List.set_cons_succ, i64_w, i32_w]
          rfl
        refine pure_ (i := 6) (N := some 56) (v := undef) (a' := ?_) #[true, true, true, true, true, true, true, false, false, false, false, false, false] rfl rfl (by kernel_rfl) (fun _ _ _ h => h) (Or.inr ⟨by rfl, rfl⟩) ?_ ?_
        rotate_left
        · simp only [Act.put, List.setIfInBounds_toArray, List.set_cons_zero, List.set_cons_succ, i64_w, i32_w]
          rfl
        refine pure_ (i := 7) (N := some 57) (v := undef) (a' := ?_) #[true, true, true, true, true, true, true, true, false, false, false, false, false] rfl rfl (by kernel_rfl) (fun _ _ _ h => h) (Or.inr ⟨by rfl, rfl⟩) ?_ ?_
        rotate_left
        · simp only [Act.put, List.setIfInBounds_toArray, List.set_cons_zero, List.set_cons_succ, i64_w, i32_w]
          rfl
        refine pure_ (i := 8) (N := some 58) (v := undef) (a' := ?_) #[true, true, true, true, true, true, true, true, true, false, false, false, false] rfl rfl (by kernel_rfl) (fun _ _ _ h => h) (Or.inr ⟨by rfl, rfl⟩) ?_ ?_
        rotate_left
        · simp only [Act.put, List.setIfInBounds_toArray, List.set_cons_zero, List.set_cons_succ, i64_w, i32_w]
          rfl
        refine pure_ (i := 9) (N := some 59) (v := undef) (a' := ?_) #[true, true, true, true, true, true, true, true, true, true, false, false, false] rfl rfl (by kernel_rfl) (fun _ _ _ h => h) (Or.inr ⟨by rfl, rfl⟩) ?_ ?_
        rotate_left
        · simp only [Act.put, List.setIfInBounds_toArray, List.set_cons_zero, List.set_cons_succ, i64_w, i32_w]
          rfl
        refine pure_ (i := 10) (N := some 60) (v := undef) (a' := ?_) #[true, true, true, true, true, true, true, true, true, true, true, false, false] rfl rfl (by kernel_rfl) (fun _ _ _ h => h) (Or.inr ⟨by rfl, rfl⟩) ?_ ?_
        rotate_left
        · simp only [Act.put, List.setIfInBounds_toArray, List.set_cons_zero, List.set_cons_succ, i64_w, i32_w]
          rfl
        refine pure_ (i := 11) (N := some 61) (v := undef) (a' := ?_) #[true, true, true, true, true, true, true, true, true, true, true, true, false] rfl rfl (by kernel_rfl) (fun _ _ _ h => h) (Or.inr ⟨by rfl, rfl⟩) ?_ ?_
        rotate_left
        · simp only [Act.put, List.setIfInBounds_toArray, List.set_cons_zero, List.set_cons_succ, i64_w, i32_w]
          rfl
        refine pure_ (i := 12) (N := some 62) (v := ?_) (a' := ?_) #[true, true, true, true, true, true, true, true, true, true, true, true, true] rfl rfl (by kernel_rfl) (fun _ _ _ h => h) (Or.inl ⟨by rfl, ?_⟩) ?_ ?_
        rotate_left
        · intro w'
          go_simp
          with_reducible rfl
        rotate_left
        · simp only [Act.put, List.setIfInBounds_toArray, List.set_cons_zero, List.set_cons_succ, i64_w, i32_w]
          rfl
        refine done_ (by kernel_rfl) ?_
        replace H := Aside0.mk HD
        clear HD hHeld
        go_wp2_with fail
        go_roundw
        case rel => exact ⟨5, by decide, by go_num, H⟩
        case measure => simp [intOf]
      · have e1 : ((k : Int) != 4) = true := bne_iff_ne.2 (by omega)
        have e2 : ((k : Int) == 4) = false := beq_eq_false_iff_ne.2 (by omega)
        have e3 : ¬ (k : Int) = 4 := by omega
        have e5 : (k : Int) < 35 := by omega
        obtain ⟨x, hx1, hx2⟩ := confB_k true false false r co br po q1 q2 q3 q4 k hlt h4
        go_wp2_with fail
        refine startH H.out (n := 13) [] #[false, false, false, false, false, false, false, false, false, false, false, false, false] (by kernel_rfl) rfl rfl (fun hHeld => ?_)
        have HD := H.out.drew
        refine pure_ (i := 0) (N := some 50) (v := ?_) (a' := ?_) #[true, false, false, false, false, false, false, false, false, false, false, false, false] rfl rfl (by kernel_rfl) (fun _ _ _ h => h) (Or.inl ⟨by rfl, ?_⟩) ?_ ?_
        rotate_left
        · intro w'
          go_simp
          with_reducible rfl
        rotate_left
        · simp only [Act.put, List.setIfInBounds_toArray, List.set_cons_zero, List.set_cons_succ, i64_w, i32_w]
          rfl
        refine pure_ (i := 1) (N := some 51) (v := ?_) (a' := ?_) #[true, true, false, false, false, false, false, false, false, false, false, false, false] rfl rfl (by kernel_rfl) (fun _ _ _ h => h) (Or.inl ⟨by rfl, ?_⟩) ?_ ?_
        rotate_left
        · intro w'
          go_simp
          with_reducible rfl
        rotate_left
        · simp only [Act.put, List.setIfInBounds_toArray, List.set_cons_zero, List.set_cons_succ, i64_w, i32_w]
          rfl
        refine pure_ (i := 2) (N := some 52) (v := ?_) (a' := ?_) #[true, true, true, false, false, false, false, false, false, false, false, false, false] rfl rfl (by kernel_rfl) (fun _ _ _ h => h) (Or.inl ⟨by rfl, ?_⟩) ?_ ?_
        rotate_left
        · intro w'
          go_simp
          with_reducible rfl
        rotate_left
        · simp only [Act.put, List.setIfInBounds_toArray, List.set_cons_zero, List.set_cons_succ, i64_w, i32_w]
          rfl
        refine pure_ (i := 3) (N := some 53) (v := ?_) (a' := ?_) #[true, true, true, true, false, false, false, false, false, false, false, false, false] rfl rfl (by kernel_rfl) (fun _ _ _ h => h) (Or.inl ⟨by rfl, ?_⟩) ?_ ?_
        rotate_left
        · intro w'
          go_simp
          with_reducible rfl
        rotate_left
        · simp only [Act.put, List.setIfInBounds_toArray, List.set_cons_zero, List.set_cons_succ, i64_w, i32_w]
          rfl
        refine pure_ (i := 4) (N := some 54) (v := ?_) (a' := ?_) #[true, true, true, true, true, false, false, false, false, false, false, false, false] rfl rfl (by kernel_rfl) (fun _ _ _ h => h) (Or.inl ⟨by rfl, ?_⟩) ?_ ?_
        rotate_left
        · intro w'
          go_simp
          with_reducible rfl
        rotate_left
        · simp only [Act.put, List.setIfInBounds_toArray, List.set_cons_zero, List.set_cons_succ, i64_w, i32_w]
          rfl
        refine pure_ (i := 5) (N := some 55) (v := ?_) (a' := ?_) #[true, true, true, true, true, true, false, false, false, false, false, false, false] rfl rfl (by kernel_rfl) (fun _ _ _ h => h) (Or.inl ⟨by rfl, ?_⟩) ?_ ?_
        rotate_left
        · intro w'
          go_simp
          with_reducible rfl
        rotate_left
        · simp only [Act.put, List.setIfInBounds_toArray, List.set_cons_zero, List.set_cons_succ, i64_w, i32_w]
          rfl
        refine pure_ (i := 7) (N := some 57) (v := ?_) (a' := ?_) #[true, true, true, true, true, true, false, true, false, false, false, false, false] rfl rfl (by kernel_rfl) (fun _ _ _ h => h) (Or.inl ⟨by rfl, ?_⟩) ?_ ?_
        rotate_left
        · intro w'
          go_simp
          with_reducible rfl
        rotate_left
        · simp only [Act.put, List.setIfInBounds_toArray, List.set_cons_zero, List.set_cons_succ, i64_w, i32_w]
          rfl
        refine pure_ (i := 8) (N := some 58) (v := ?_) (a' := ?_) #[true, true, true, true, true, true, false, true, true, false, false, false, false] rfl rfl (by kernel_rfl) (fun _ _ _ h => h) (Or.inl ⟨by rfl, ?_⟩) ?_ ?_
        rotate_left
        · intro w'
          go_simp
          with_reducible rfl
        rotate_left
        · simp only [Act.put, List.setIfInBounds_toArray, List.set_cons_zero, List.set_cons_succ, i64_w, i32_w]
          rfl
        refine pure_ (i := 9) (N := some 59) (v := ?_) (a' := ?_) #[true, true, true, true, true, true, false, true, true, true, false, false, false] rfl rfl (by kernel_rfl) (fun _ _ _ h => h) (Or.inl ⟨by rfl, ?_⟩) ?_ ?_
        rotate_left
        · intro w'
          go_simp
          with_reducible rfl
        rotate_left
        · simp only [Act.put, List.setIfInBounds_toArray, List.set_cons_zero, List.set_cons_succ, i64_w, i32_w]
          rfl
        refine take_ (i := 6) (N := some 56) (v := _) (a' := ?_) #[true, true, true, true, true, true, true, true, true, true, false, false, false] rfl rfl (by kernel_rfl) (fun _ _ _ h => h) (Or.inl ⟨by rfl, fun w2 h => run_loadCell rfl rfl Try.underlying5 rfl (h.rowCell (g := g6) (by repeat (first | exact Pick.here _ | apply Pick.there)) k x hx1)⟩) hHeld ?_ ?_
        rotate_left
        · simp only [Act.put, List.setIfInBounds_toArray, List.set_cons_zero, List.set_cons_succ, i64_w, i32_w]
          rfl
        refine take_ (i := 10) (N := some 60) (v := _) (a' := ?_) #[true, true, true, true, true, true, true, true, true, true, true, false, false] rfl rfl (by kernel_rfl) (fun _ _ _ h => h) (Or.inl ⟨by rfl, fun w2 h => run_loadCell rfl rfl Try.underlying5 rfl (h.rowCell (g := g7) (by repeat (first | exact Pick.here _ | apply Pick.there)) k x hx2)⟩) hHeld ?_ ?_
        rotate_left
        · simp only [Act.put, List.setIfInBounds_toArray, List.set_cons_zero, List.set_cons_succ, i64_w, i32_w]
          rfl
        refine pure_ (i := 11) (N := some 61) (v := ?_) (a' := ?_) #[true, true, true, true, true, true, true, true, true, true, true, true, false] rfl rfl (by kernel_rfl) (fun _ _ _ h => h) (Or.inl ⟨by rfl, ?_⟩) ?_ ?_
        rotate_left
        · intro w'
          go_simp
          with_reducible rfl
        rotate_left
        · simp only [Act.put, List.setIfInBounds_toArray, List.set_cons_zero, List.set_cons_succ, i64_w, i32_w]
          rfl
        refine pure_ (i := 12) (N := some 62) (v := ?_) (a' := ?_) #[true, true, true, true, true, true, true, true, true, true, true, true, true] rfl rfl (by kernel_rfl) (fun _ _ _ h => h) (Or.inl ⟨by rfl, ?_⟩) ?_ ?_
        rotate_left
        · intro w'
          go_simp
          with_reducible rfl
        rotate_left
        · simp only [Act.put, List.setIfInBounds_toArray, List.set_cons_zero, List.set_cons_succ, i64_w, i32_w]
          rfl
        refine done_ (by kernel_rfl) ?_
        replace H := Aside0.mk HD
        clear HD hHeld
        go_wp2_with fail
        go_roundw
        case rel => exact ⟨k + 1, by omega, by go_num, H⟩
        case measure => simp [intOf]; omega
    · have d1 : decide (k < 35) = false := decide_eq_false hlt
      have d2 : decide ((k : Int) < 35) = false := decide_eq_false (by omega)
      go_wp2_with fail
      refine startH H.out (n := 16) [] #[false, false, false, false, false, false, false, false, false, false, false, false, false, false, false, false] (by kernel_rfl) rfl rfl (fun hHeld => ?_)
      have HD := H.out.drew
      refine pure_ (i := 0) (N := some 63) (v := ?_) (a' := ?_) #[true, false, false, false, false, false, false, false, false, false, false, false, false, false, false, false] rfl rfl (by kernel_rfl) (fun _ _ _ h => h) (Or.inl ⟨by rfl, ?_⟩) ?_ ?_
      rotate_left
      · intro w'
        go_simp
        with_reducible rfl
      rotate_left
      · simp only [Act.put, List.setIfInBounds_toArray, List.set_cons_zero, List.set_cons_succ, i64_w, i32_w]
        rfl
      refine pure_ (i := 1) (N := some 64) (v := ?_) (a' := ?_) #[true, true, false, false, false, false, false, false, false, false, false, false, false, false, false, false] rfl rfl (by kernel_rfl) (fun _ _ _ h => h) (Or.inl ⟨by rfl, ?_⟩) ?_ ?_
      rotate_left
      · intro w'
        go_simp
        with_reducible rfl
      rotate_left
      · simp only [Act.put, List.setIfInBounds_toArray, List.set_cons_zero, List.set_cons_succ, i64_w, i32_w]
        rfl
      refine pure_ (i := 5) (N := some 68) (v := ?_) (a' := ?_) #[true, true, false, false, false, true, false, false, false, false, false, false, false, false, false, false] rfl rfl (by kernel_rfl) (fun _ _ _ h => h) (Or.inl ⟨by rfl, ?_⟩) ?_ ?_
      rotate_left
      · intro w'
        go_simp
        with_reducible rfl
      rotate_left
      · simp only [Act.put, List.setIfInBounds_toArray, List.set_cons_zero, List.set_cons_succ, i64_w, i32_w]
        rfl
      refine take_ (i := 2) (N := some 65) (v := _) (a' := ?_) #[true, true, true, false, false, true, false, false, false, false, false, false, false, false, false, false] rfl rfl (by kernel_rfl) (fun _ _ _ h => h) (Or.inl ⟨by rfl, fun w2 h => run_loadCell rfl rfl Try.underlying5 rfl (h.rowCell (g := g6) (by repeat (first | exact Pick.here _ | apply Pick.there)) 4 1 hF1)⟩) hHeld ?_ ?_
      rotate_left
      · simp only [Act.put, List.setIfInBounds_toArray, List.set_cons_zero, List.set_cons_succ, i64_w, i32_w]
        rfl
      refine pure_ (i := 3) (N := some 66) (v := ?_) (a' := ?_) #[true, true, true, true, false, true, false, false, false, false, false, false, false, false, false, false] rfl rfl (by kernel_rfl) (fun _ _ _ h => h) (Or.inl ⟨by rfl, ?_⟩) ?_ ?_
      rotate_left
      · intro w'
        go_simp
        with_reducible rfl
      rotate_left
      · simp only [Act.put, List.setIfInBounds_toArray, List.set_cons_zero, List.set_cons_succ, i64_w, i32_w]
        rfl
      refine pure_ (i := 4) (N := some 67) (v := ?_) (a' := ?_) #[true, true, true, true, true, true, false, false, false, false, false, false, false, false, false, false] rfl rfl (by kernel_rfl) (fun _ _ _ h => h) (Or.inl ⟨by rfl, ?_⟩) ?_ ?_
      rotate_left
      · intro w'
        go_simp
        with_reducible rfl
      rotate_left
      · simp only [Act.put, List.setIfInBounds_toArray, List.set_cons_zero, List.set_cons_succ, i64_w, i32_w]
        rfl
      refine take_ (i := 6) (N := some 69) (v := _) (a' := ?_) #[true, true, true, true, true, true, true, false, false, false, false, false, false, false, false, false] rfl rfl (by kernel_rfl) (fun _ _ _ h => h) (Or.inl ⟨by rfl, fun w2 h => h.load1 4 (.tmp 68) rfl rfl (by repeat (first | exact Pick.here _ | apply Pick.there)) Try.underlying4 rfl rfl⟩) hHeld ?_ ?_
      rotate_left
      · simp only [Act.put, List.setIfInBounds_toArray, List.set_cons_zero, List.set_cons_succ, i64_w, i32_w]
        rfl
      refine pure_ (i := 7) (N := some 70) (v := ?_) (a' := ?_) #[true, true, true, true, true, true, true, true, false, false, false, false, false, false, false, false] rfl rfl (by kernel_rfl) (fun _ _ _ h => h) (Or.inl ⟨by rfl, ?_⟩) ?_ ?_
      rotate_left
      · intro w'
        go_simp
        with_reducible rfl
      rotate_left
      · simp only [Act.put, List.setIfInBounds_toArray, List.set_cons_zero, List.set_cons_succ, i64_w, i32_w]
        rfl
      refine pure_ (i := 8) (N := some 71) (v := ?_) (a' := ?_) #[true, true, true, true, true, true, true, true, true, false, false, false, false, false, false, false] rfl rfl (by kernel_rfl) (fun _ _ _ h => h) (Or.inl ⟨by rfl, ?_⟩) ?_ ?_
      rotate_left
      · intro w'
        go_simp
        with_reducible rfl
      rotate_left
      · simp only [Act.put, List.setIfInBounds_toArray, List.set_cons_zero, List.set_cons_succ, i64_w, i32_w]
        rfl
      refine pure_ (i := 9) (N := some 72) (v := ?_) (a' := ?_) #[true, true, true, true, true, true, true, true, true, true, false, false, false, false, false, false] rfl rfl (by kernel_rfl) (fun _ _ _ h => h) (Or.inl ⟨by rfl, ?_⟩) ?_ ?_
      rotate_left
      · intro w'
        go_simp
        with_reducible rfl
      rotate_left
      · simp only [Act.put, List.setIfInBounds_toArray, List.set_cons_zero, List.set_cons_succ, i64_w, i32_w]
        rfl
      refine pure_ (i := 10) (N := some 73) (v := ?_) (a' := ?_) #[true, true, true, true, true, true, true, true, true, true, true, false, false, false, false, false] rfl rfl (by kernel_rfl) (fun _ _ _ h => h) (Or.inl ⟨by rfl, ?_⟩) ?_ ?_
      rotate_left
      · intro w'
        go_simp
        with_reducible rfl
      rotate_left
      · simp only [Act.put, List.setIfInBounds_toArray, List.set_cons_zero, List.set_cons_succ, i64_w, i32_w]
        rfl
      refine take_ (i := 11) (N := some 74) (v := _) (a' := ?_) #[true, true, true, true, true, true, true, true, true, true, true, true, false, false, false, false] rfl rfl (by kernel_rfl) (fun _ _ _ h => h) (Or.inl ⟨by rfl, fun w2 h => run_loadCell rfl rfl Try.underlying5 rfl (h.rowCell (g := g6) (by repeat (first | exact Pick.here _ | apply Pick.there)) 4 1 hF1)⟩) hHeld ?_ ?_
      rotate_left
      · simp only [Act.put, List.setIfInBounds_toArray, List.set_cons_zero, List.set_cons_succ, i64_w, i32_w]
        rfl
      refine pure_ (i := 12) (N := some 75) (v := ?_) (a' := ?_) #[true, true, true, true, true, true, true, true, true, true, true, true, true, false, false, false] rfl rfl (by kernel_rfl) (fun _ _ _ h => h) (Or.inl ⟨by rfl, ?_⟩) ?_ ?_
      rotate_left
      · intro w'
        go_simp
        with_reducible rfl
      rotate_left
      · simp only [Act.put, List.setIfInBounds_toArray, List.set_cons_zero, List.set_cons_succ, i64_w, i32_w]
        rfl
      refine pure_ (i := 13) (N := some 76) (v := ?_) (a' := ?_) #[true, true, true, true, true, true, true, true, true, true, true, true, true, true, false, false] rfl rfl (by kernel_rfl) (fun _ _ _ h => h) (Or.inl ⟨by rfl, ?_⟩) ?_ ?_
      rotate_left
      · intro w'
        go_simp
        with_reducible rfl
      rotate_left
      · simp only [Act.put, List.setIfInBounds_toArray, List.set_cons_zero, List.set_cons_succ, i64_w, i32_w]
        rfl
      refine pure_ (i := 14) (N := some 77) (v := ?_) (a' := ?_) #[true, true, true, true, true, true, true, true, true, true, true, true, true, true, true, false] rfl rfl (by kernel_rfl) (fun _ _ _ h => h) (Or.inl ⟨by rfl, ?_⟩) ?_ ?_
      rotate_left
      · intro w'
        go_simp
        with_reducible rfl
      rotate_left
      · simp only [Act.put, List.setIfInBounds_toArray, List.set_cons_zero, List.set_cons_succ, i64_w, i32_w]
        rfl
      refine pure_ (i := 15) (N := some 2) (v := ?_) (a' := ?_) #[true, true, true, true, true, true, true, true, true, true, true, true, true, true, true, true] rfl rfl (by kernel_rfl) (fun _ _ _ h => h) (Or.inl ⟨by rfl, ?_⟩) ?_ ?_
      rotate_left
      · intro w'
        go_simp
        with_reducible rfl
      rotate_left
      · simp only [Act.put, List.setIfInBounds_toArray, List.set_cons_zero, List.set_cons_succ, i64_w, i32_w]
        rfl
      refine done_ (by kernel_rfl) ?_
      go_wp2_with fail
      go_ret
      exact ⟨rfl, HD.below⟩

set_option maxHeartbeats 1000000 in
set_option maxRecDepth 100000 in
theorem Flags_3 (w : World) (r co br po q1 q2 q3 q4 : Int) (r0 : 0 ≤ r ∧ r < 18446744073709551616) (co0 : 0 ≤ co ∧ co < 4294967296) (br0 : 0 ≤ br ∧ br < 18446744073709551616) (po0 : 0 ≤ po ∧ po < 65536) (q10 : 0 ≤ q1 ∧ q1 < 65536) (q20 : 0 ≤ q2 ∧ q2 < 65536) (q30 : 0 ≤ q3 ∧ q3 < 65536) (q40 : 0 ≤ q4 ∧ q4 < 65536) :
    Calls Try.prog 9 #[.agg #[.bool false, .bool true, .bool true, .int .u64 r, .int .u32 co, .int .u64 br, .int .u16 po, .int .u16 q1, .int .u16 q2, .int .u16 q3, .int .u16 q4]] w (fun e w' => e = .returned (.bool true) ∧ Below w.heap.size w w') := by
  have H := Hp.nothing w
  go_enter Try.func9, Try.ntmps9
  go_wp2_with (first | ((with_reducible refine gate_dst (N := 1) rfl ?_); refine ev_ rfl (H.box rfl (by first | (go_simp; done) | (go_simp; rfl)) rfl) ?_; rintro _ w1 ⟨g1, rfl, H1⟩; (try simp only [Value.cells] at H1); replace H := H1; clear H1) | ((with_reducible refine gate_dst (N := 9) rfl ?_); refine Kd.event_run rfl (H.loadN 48 (.tmp 1) rfl rfl (by repeat (first | exact Pick.here _ | apply Pick.there)) #[.bool false, .bool true, .bool true, .int .u64 r, .int .u32 co, .int .u64 br, .int .u16 po, .int .u16 q1, .int .u16 q2, .int .u16 q3, .int .u16 q4] Try.underlying48 rfl info48s (fun j u hj => by simpa using hj)) ?_) | ((with_reducible refine gate_dst (N := 3) rfl ?_); refine ev_ rfl (H.new (cs := #[.bool false, .bool false, .bool false, .int .u64 0, .int .u32 0, .int .u64 0, .int .u16 0, .int .u16 0, .int .u16 0, .int .u16 0, .int .u16 0]) (t := 48) (by first | (go_simp; done) | (go_simp; rfl))) ?_; rintro _ w1 ⟨g3, rfl, H1⟩; replace H := H1; clear H1) | ((with_reducible refine gate_store (p := 3) rfl ?_); refine ev_ rfl (H.store 48 (.tmp 3) (.tmp 9) rfl rfl (by repeat (first | exact Pick.here _ | apply Pick.there)) (by first | (go_simp; done) | (go_simp; rfl)) _ rfl info48s (by simp [Value.oneCell', Value.cells]) (by simp [Value.cells]) rfl) ?_; rintro _ w1 ⟨rfl, H1⟩; (try simp only [putsAt, Value.cells, List.setIfInBounds_toArray, List.set_cons_zero, List.set_cons_succ, List.toList_toArray] at H1); replace H := H1; clear H1) | (go_at_call 23; refine H.call1 (awake_calls _) ?_; intro w1 H1; replace H := H1; clear H1))
  refine startH (H.take (p := [blk g1 #[.bool false, .bool true, .bool true, .int .u64 r, .int .u32 co, .int .u64 br, .int .u16 po, .int .u16 q1, .int .u16 q2, .int .u16 q3, .int .u16 q4] 48]) (.cons (by repeat (first | exact Pick.here _ | apply Pick.there)) (.nil _))) (n := 9) [] #[false, false, false, false, false, false, false, false, false] (by kernel_rfl) rfl rfl (fun hHeld => ?_)
  have HD := H.drew
  refine pure_ (i := 0) (N := some 10) (v := ?_) (a' := ?_) #[true, false, false, false, false, false, false, false, false] rfl rfl (by kernel_rfl) (fun _ _ _ h => h) (Or.inl ⟨by rfl, ?_⟩) ?_ ?_
  rotate_left
  · intro w'
    go_simp
    with_reducible rfl
  rotate_left
  · simp only [Act.put, List.setIfInBounds_toArray, List.set_cons_zero, List.set_cons_succ, i64_w, i32_w]
    rfl
  refine pure_ (i := 3) (N := some 13) (v := ?_) (a' := ?_) #[true, false, false, true, false, false, false, false, false] rfl rfl (by kernel_rfl) (fun _ _ _ h => h) (Or.inl ⟨by rfl, ?_⟩) ?_ ?_
  rotate_left
  · intro w'
    go_simp
    with_reducible rfl
  rotate_left
  · simp only [Act.put, List.setIfInBounds_toArray, List.set_cons_zero, List.set_cons_succ, i64_w, i32_w]
    rfl
  refine take_ (i := 1) (N := some 11) (v := _) (a' := ?_) #[true, true, false, true, false, false, false, false, false] rfl rfl (by kernel_rfl) (fun _ _ _ h => h) (Or.inl ⟨by rfl, fun w2 h => h.load1 4 (.tmp 10) rfl rfl (by repeat (first | exact Pick.here _ | apply Pick.there)) Try.underlying4 rfl rfl⟩) hHeld ?_ ?_
  rotate_left
  · simp only [Act.put, List.setIfInBounds_toArray, List.set_cons_zero, List.set_cons_succ, i64_w, i32_w]
    rfl
  refine pure_ (i := 2) (N := some 12) (v := ?_) (a' := ?_) #[true, true, true, true, false, false, false, false, false] rfl rfl (by kernel_rfl) (fun _ _ _ h => h) (Or.inl ⟨by rfl, ?_⟩) ?_ ?_
  rotate_left
  · intro w'
    go_simp
    with_reducible rfl
  rotate_left
  · simp only [Act.put, List.setIfInBounds_toArray, List.set_cons_zero, List.set_cons_succ, i64_w, i32_w]
    rfl
  refine pure_ (i := 5) (N := some 15) (v := ?_) (a' := ?_) #[true, true, true, true, false, true, false, false, false] rfl rfl (by kernel_rfl) (fun _ _ _ h => h) (Or.inl ⟨by rfl, ?_⟩) ?_ ?_
  rotate_left
  · intro w'
    go_simp
    with_reducible rfl
  rotate_left
  · simp only [Act.put, List.setIfInBounds_toArray, List.set_cons_zero, List.set_cons_succ, i64_w, i32_w]
    rfl
  refine take_ (i := 4) (N := some 14) (v := _) (a' := ?_) #[true, true, true, true, true, true, false, false, false] rfl rfl (by kernel_rfl) (fun _ _ _ h => h) (Or.inl ⟨by rfl, fun w2 h => h.load1 4 (.tmp 13) rfl rfl (by repeat (first | exact Pick.here _ | apply Pick.there)) Try.underlying4 rfl rfl⟩) hHeld ?_ ?_
  rotate_left
  · simp only [Act.put, List.setIfInBounds_toArray, List.set_cons_zero, List.set_cons_succ, i64_w, i32_w]
    rfl
  refine one_ (i := 6) (N := none) #[true, true, true, true, true, true, true, false, false] rfl rfl (by kernel_rfl) (by decide) (fun K hK => ?_)
  refine step_ (by rfl) rfl (HD.store 4 (.tmp 15) (.tmp 12) rfl rfl (by repeat (first | exact Pick.here _ | apply Pick.there)) (by first | (go_simp; done) | (go_simp; rfl)) _ rfl info4s (by simp [Value.oneCell', Value.cells]) (by simp [Value.cells]) rfl) ?_
  rintro _ w5 ⟨rfl, H5⟩
  simp only [putsAt, Value.cells, List.setIfInBounds_toArray, List.set_cons_zero, List.set_cons_succ, List.toList_toArray] at H5
  replace HD := H5
  clear H5
  refine hK.out _ _ (HD.take (p := [blk g1 #[.bool false, .bool true, .bool true, .int .u64 r, .int .u32 co, .int .u64 br, .int .u16 po, .int .u16 q1, .int .u16 q2, .int .u16 q3, .int .u16 q4] 48]) (.cons (by repeat (first | exact Pick.here _ | apply Pick.there)) (.nil _))) (fun hHeld => ?_)
  clear hK K
  refine pure_ (i := 7) (N := some 16) (v := ?_) (a' := ?_) #[true, true, true, true, true, true, true, true, false] rfl rfl (by kernel_rfl) (fun _ _ _ h => h) (Or.inl ⟨by rfl, ?_⟩) ?_ ?_
  rotate_left
  · intro w'
    go_simp
    with_reducible rfl
  rotate_left
  · simp only [Act.put, List.setIfInBounds_toArray, List.set_cons_zero, List.set_cons_succ, i64_w, i32_w]
    rfl
  refine one_ (i := 8) (N := none) #[true, true, true, true, true, true, true, true, true] rfl rfl (by kernel_rfl) (by decide) (fun K hK => ?_)
  refine step_ (by rfl) rfl (HD.store 4 (.tmp 16) (.tmp 14) rfl rfl (by repeat (first | exact Pick.here _ | apply Pick.there)) (by first | (go_simp; done) | (go_simp; rfl)) _ rfl info4s (by simp [Value.oneCell', Value.cells]) (by simp [Value.cells]) rfl) ?_
  rintro _ w5 ⟨rfl, H5⟩
  simp only [putsAt, Value.cells, List.setIfInBounds_toArray, List.set_cons_zero, List.set_cons_succ, List.toList_toArray] at H5
  replace HD := H5
  clear H5
  refine hK.out _ _ (HD.take (p := [blk g1 #[.bool false, .bool true, .bool true, .int .u64 r, .int .u32 co, .int .u64 br, .int .u16 po, .int .u16 q1, .int .u16 q2, .int .u16 q3, .int .u16 q4] 48]) (.cons (by repeat (first | exact Pick.here _ | apply Pick.there)) (.nil _))) (fun hHeld => ?_)
  clear hK K
  refine done_ (by kernel_rfl) ?_
  replace H := HD
  clear HD hHeld
  go_wp2_with fail
  refine startH (H.take (p := [blk g1 #[.bool false, .bool true, .bool true, .int .u64 r, .int .u32 co, .int .u64 br, .int .u16 po, .int .u16 q1, .int .u16 q2, .int .u16 q3, .int .u16 q4] 48, blk g3 #[.bool false, .bool false, .bool true, .int .u64 r, .int .u32 co, .int .u64 br, .int .u16 po, .int .u16 q1, .int .u16 q2, .int .u16 q3, .int .u16 q4] 48]) (.cons (by repeat (first | exact Pick.here _ | apply Pick.there)) (.cons (by repeat (first | exact Pick.here _ | apply Pick.there)) (.nil _)))) (n := 6) [] #[false, false, false, false, false, false] (by kernel_rfl) rfl rfl (fun hHeld => ?_)
  have HD := H.drew
  refine take_ (i := 0) (N := some 17) (v := _) (a' := ?_) #[true, false, false, false, false, false] rfl rfl (by kernel_rfl) (fun _ _ _ h => h) (Or.inl ⟨by rfl, fun w2 h => h.loadN 48 (.tmp 1) rfl rfl (by repeat (first | exact Pick.here _ | apply Pick.there)) #[.bool false, .bool true, .bool true, .int .u64 r, .int .u32 co, .int .u64 br, .int .u16 po, .int .u16 q1, .int .u16 q2, .int .u16 q3, .int .u16 q4] Try.underlying48 rfl info48s (fun j u hj => by simpa using hj)⟩) hHeld ?_ ?_
  rotate_left
  · simp only [Act.put, List.setIfInBounds_toArray, List.set_cons_zero, List.set_cons_succ, i64_w, i32_w]
    rfl
  refine take_ (i := 2) (N := some 19) (v := _) (a' := ?_) #[true, false, true, false, false, false] rfl rfl (by kernel_rfl) (fun _ _ _ h => h) (Or.inl ⟨by rfl, fun w2 h => h.loadN 48 (.tmp 3) rfl rfl (by repeat (first | exact Pick.here _ | apply Pick.there)) #[.bool false, .bool false, .bool true, .int .u64 r, .int .u32 co, .int .u64 br, .int .u16 po, .int .u16 q1, .int .u16 q2, .int .u16 q3, .int .u16 q4] Try.underlying48 rfl info48s (fun j u hj => by simpa using hj)⟩) hHeld ?_ ?_
  rotate_left
  · simp only [Act.put, List.setIfInBounds_toArray, List.set_cons_zero, List.set_cons_succ, i64_w, i32_w]
    rfl
  refine one_ (i := 1) (N := some 18) #[true, true, true, false, false, false] rfl rfl (by kernel_rfl) (by decide) (fun K hK => ?_)
  refine goes_ Try.func24 (by kernel_rfl) rfl #[.agg #[.bool false, .bool true, .bool true, .int .u64 r, .int .u32 co, .int .u64 br, .int .u16 po, .int .u16 q1, .int .u16 q2, .int .u16 q3, .int .u16 q4]] (by rfl) rfl rfl (by simp only [List.map_toArray, List.map_cons, List.map_nil]; rfl) ?_
  refine HD.call0 (BPut_conf _ true true r co br po q1 q2 q3 q4 r0 co0 br0 po0 q10 q20 q30 q40) ?_
  rintro v6 l1 w3 rfl H3
  obtain ⟨A6, c6, rfl, hc6, H4⟩ := named H3 35 (confB_length ..)
  replace HD := H4
  clear H3 H4 hc6
  refine ⟨_, rfl, ?_⟩
  refine hK.out _ _ (HD.take (p := [blk g1 #[.bool false, .bool true, .bool true, .int .u64 r, .int .u32 co, .int .u64 br, .int .u16 po, .int .u16 q1, .int .u16 q2, .int .u16 q3, .int .u16 q4] 48, blk g3 #[.bool false, .bool false, .bool true, .int .u64 r, .int .u32 co, .int .u64 br, .int .u16 po, .int .u16 q1, .int .u16 q2, .int .u16 q3, .int .u16 q4] 48]) (.cons (by repeat (first | exact Pick.here _ | apply Pick.there)) (.cons (by repeat (first | exact Pick.here _ | apply Pick.there)) (.nil _)))) (fun hHeld => ?_)
  clear hK K
  refine norm_ (a' := ?_) ?_ ?_
  rotate_left
  · show Act.put _ (some 18) _ = _
    simp only [Act.put, List.setIfInBounds_toArray, List.set_cons_zero, List.set_cons_succ, i64_w, i32_w]
    rfl
  refine one_ (i := 3) (N := some 20) #[true, true, true, true, false, false] rfl rfl (by kernel_rfl) (by decide) (fun K hK => ?_)
  refine goes_ Try.func24 (by kernel_rfl) rfl #[.agg #[.bool false, .bool false, .bool true, .int .u64 r, .int .u32 co, .int .u64 br, .int .u16 po, .int .u16 q1, .int .u16 q2, .int .u16 q3, .int .u16 q4]] (by rfl) rfl rfl (by simp only [List.map_toArray, List.map_cons, List.map_nil]; rfl) ?_
  refine HD.call0 (BPut_conf _ false true r co br po q1 q2 q3 q4 r0 co0 br0 po0 q10 q20 q30 q40) ?_
  rintro v6 l1 w3 rfl H3
  obtain ⟨A7, c7, rfl, hc7, H4⟩ := named H3 35 (confB_length ..)
  replace HD := H4
  clear H3 H4 hc7
  refine ⟨_, rfl, ?_⟩
  refine hK.out _ _ (HD.take (p := [blk g1 #[.bool false, .bool true, .bool true, .int .u64 r, .int .u32 co, .int .u64 br, .int .u16 po, .int .u16 q1, .int .u16 q2, .int .u16 q3, .int .u16 q4] 48, blk g3 #[.bool false, .bool false, .bool true, .int .u64 r, .int .u32 co, .int .u64 br, .int .u16 po, .int .u16 q1, .int .u16 q2, .int .u16 q3, .int .u16 q4] 48]) (.cons (by repeat (first | exact Pick.here _ | apply Pick.there)) (.cons (by repeat (first | exact Pick.here _ | apply Pick.there)) (.nil _)))) (fun hHeld => ?_)
  clear hK K
  refine norm_ (a' := ?_) ?_ ?_
  rotate_left
  · show Act.put _ (some 20) _ = _
    simp only [Act.put, List.setIfInBounds_toArray, List.set_cons_zero, List.set_cons_succ, i64_w, i32_w]
    rfl
  refine pure_ (i := 4) (N := some 4) (v := ?_) (a' := ?_) #[true, true, true, true, true, false] rfl rfl (by kernel_rfl) (fun _ _ _ h => h) (Or.inl ⟨by rfl, ?_⟩) ?_ ?_
  rotate_left
  · intro w'
    go_simp
    with_reducible rfl
  rotate_left
  · simp only [Act.put, List.setIfInBounds_toArray, List.set_cons_zero, List.set_cons_succ, i64_w, i32_w]
    rfl
  refine pure_ (i := 5) (N := some 5) (v := ?_) (a' := ?_) #[true, true, true, true, true, true] rfl rfl (by kernel_rfl) (fun _ _ _ h => h) (Or.inl ⟨by rfl, ?_⟩) ?_ ?_
  rotate_left
  · intro w'
    go_simp
    with_reducible rfl
  rotate_left
  · simp only [Act.put, List.setIfInBounds_toArray, List.set_cons_zero, List.set_cons_succ, i64_w, i32_w]
    rfl
  refine done_ (by kernel_rfl) ?_
  replace H := HD
  clear HD hHeld
  go_wp2_with (first | ((with_reducible refine gate_dst (N := 22) rfl ?_); refine Kd.event_run rfl (H.load1 4 (.tmp 21) rfl rfl (by repeat (first | exact Pick.here _ | apply Pick.there)) Try.underlying4 rfl rfl) ?_))
  obtain ⟨g6, rfl⟩ := H.form (A := A6) (xs := confB true true r co br po q1 q2 q3 q4) (by repeat (first | exact Pick.here _ | apply Pick.there)) (by rw [confB_length]; decide)
  obtain ⟨g7, rfl⟩ := H.form (A := A7) (xs := confB false true r co br po q1 q2 q3 q4) (by repeat (first | exact Pick.here _ | apply Pick.there)) (by rw [confB_length]; decide)
  have hF1 : (confB true true r co br po q1 q2 q3 q4)[4]? = some 129 := confB_4 _ _ _ _ _ _ _ _ _ _
  have hF2 : (confB false true r co br po q1 q2 q3 q4)[4]? = some 128 := confB_4 _ _ _ _ _ _ _ _ _ _
  replace H := H.take (p := [row (Kd.int .u8) 5 (.slice (some ⟨g6, 0, none⟩) 35 c6) (confB true true r co br po q1 q2 q3 q4), row (Kd.int .u8) 5 (.slice (some ⟨g7, 0, none⟩) 35 c7) (confB false true r co br po q1 q2 q3 q4), blk g1 #[.bool false, .bool true, .bool true, .int .u64 r, .int .u32 co, .int .u64 br, .int .u16 po, .int .u16 q1, .int .u16 q2, .int .u16 q3, .int .u16 q4] 48]) (.cons (by repeat (first | exact Pick.here _ | apply Pick.there)) (.cons (by repeat (first | exact Pick.here _ | apply Pick.there)) (.cons (by repeat (first | exact Pick.here _ | apply Pick.there)) (.nil _))))
  refine startH H (n := 18) [] #[false, false, false, false, false, false, false, false, false, false, false, false, false, false, false, false, false, false] (by kernel_rfl) rfl rfl (fun hHeld => ?_)
  have HD := H.drew
  refine pure_ (i := 0) (N := some 28) (v := ?_) (a' := ?_) #[true, false, false, false, false, false, false, false, false, false, false, false, false, false, false, false, false, false] rfl rfl (by kernel_rfl) (fun _ _ _ h => h) (Or.inl ⟨by rfl, ?_⟩) ?_ ?_
  rotate_left
  · intro w'
    go_simp
    with_reducible rfl
  rotate_left
  · simp only [Act.put, List.setIfInBounds_toArray, List.set_cons_zero, List.set_cons_succ, i64_w, i32_w]
    rfl
  refine pure_ (i := 1) (N := some 29) (v := ?_) (a' := ?_) #[true, true, false, false, false, false, false, false, false, false, false, false, false, false, false, false, false, false] rfl rfl (by kernel_rfl) (fun _ _ _ h => h) (Or.inl ⟨by rfl, ?_⟩) ?_ ?_
  rotate_left
  · intro w'
    go_simp
    with_reducible rfl
  rotate_left
  · simp only [Act.put, List.setIfInBounds_toArray, List.set_cons_zero, List.set_cons_succ, i64_w, i32_w]
    rfl
  refine pure_ (i := 2) (N := some 30) (v := ?_) (a' := ?_) #[true, true, true, false, false, false, false, false, false, false, false, false, false, false, false, false, false, false] rfl rfl (by kernel_rfl) (fun _ _ _ h => h) (Or.inl ⟨by rfl, ?_⟩) ?_ ?_
  rotate_left
  · intro w'
    go_simp
    with_reducible rfl
  rotate_left
  · simp only [Act.put, List.setIfInBounds_toArray, List.set_cons_zero, List.set_cons_succ, i64_w, i32_w]
    rfl
  refine pure_ (i := 3) (N := some 31) (v := ?_) (a' := ?_) #[true, true, true, true, false, false, false, false, false, false, false, false, false, false, false, false, false, false] rfl rfl (by kernel_rfl) (fun _ _ _ h => h) (Or.inl ⟨by rfl, ?_⟩) ?_ ?_
  rotate_left
  · intro w'
    go_simp
    with_reducible rfl
  rotate_left
  · simp only [Act.put, List.setIfInBounds_toArray, List.set_cons_zero, List.set_cons_succ, i64_w, i32_w]
    rfl
  refine pure_ (i := 4) (N := some 32) (v := ?_) (a' := ?_) #[true, true, true, true, true, false, false, false, false, false, false, false, false, false, false, false, false, false] rfl rfl (by kernel_rfl) (fun _ _ _ h => h) (Or.inl ⟨by rfl, ?_⟩) ?_ ?_
  rotate_left
  · intro w'
    go_simp
    with_reducible rfl
  rotate_left
  · simp only [Act.put, List.setIfInBounds_toArray, List.set_cons_zero, List.set_cons_succ, i64_w, i32_w]
    rfl
  refine pure_ (i := 5) (N := some 33) (v := ?_) (a' := ?_) #[true, true, true, true, true, true, false, false, false, false, false, false, false, false, false, false, false, false] rfl rfl (by kernel_rfl) (fun _ _ _ h => h) (Or.inl ⟨by rfl, ?_⟩) ?_ ?_
  rotate_left
  · intro w'
    go_simp
    with_reducible rfl
  rotate_left
  · simp only [Act.put, List.setIfInBounds_toArray, List.set_cons_zero, List.set_cons_succ, i64_w, i32_w]
    rfl
  refine pure_ (i := 6) (N := some 34) (v := ?_) (a' := ?_) #[true, true, true, true, true, true, true, false, false, false, false, false, false, false, false, false, false, false] rfl rfl (by kernel_rfl) (fun _ _ _ h => h) (Or.inl ⟨by rfl, ?_⟩) ?_ ?_
  rotate_left
  · intro w'
    go_simp
    with_reducible rfl
  rotate_left
  · simp only [Act.put, List.setIfInBounds_toArray, List.set_cons_zero, List.set_cons_succ, i64_w, i32_w]
    rfl
  refine pure_ (i := 7) (N := some 35) (v := ?_) (a' := ?_) #[true, true, true, true, true, true, true, true, false, false, false, false, false, false, false, false, false, false] rfl rfl (by kernel_rfl) (fun _ _ _ h => h) (Or.inl ⟨by rfl, ?_⟩) ?_ ?_
  rotate_left
  · intro w'
    go_simp
    with_reducible rfl
  rotate_left
  · simp only [Act.put, List.setIfInBounds_toArray, List.set_cons_zero, List.set_cons_succ, i64_w, i32_w]
    rfl
  refine pure_ (i := 8) (N := some 36) (v := ?_) (a' := ?_) #[true, true, true, true, true, true, true, true, true, false, false, false, false, false, false, false, false, false] rfl rfl (by kernel_rfl) (fun _ _ _ h => h) (Or.inl ⟨by rfl, ?_⟩) ?_ ?_
  rotate_left
  · intro w'
    go_simp
    with_reducible rfl
  rotate_left
  · simp only [Act.put, List.setIfInBounds_toArray, List.set_cons_zero, List.set_cons_succ, i64_w, i32_w]
    rfl
  refine pure_ (i := 9) (N := some 37) (v := ?_) (a' := ?_) #[true, true, true, true, true, true, true, true, true, true, false, false, false, false, false, false, false, false] rfl rfl (by kernel_rfl) (fun _ _ _ h => h) (Or.inl ⟨by rfl, ?_⟩) ?_ ?_
  rotate_left
  · intro w'
    go_simp
    with_reducible rfl
  rotate_left
  · simp only [Act.put, List.setIfInBounds_toArray, List.set_cons_zero, List.set_cons_succ, i64_w, i32_w]
    rfl
  refine pure_ (i := 10) (N := some 38) (v := ?_) (a' := ?_) #[true, true, true, true, true, true, true, true, true, true, true, false, false, false, false, false, false, false] rfl rfl (by kernel_rfl) (fun _ _ _ h => h) (Or.inl ⟨by rfl, ?_⟩) ?_ ?_
  rotate_left
  · intro w'
    go_simp
    with_reducible rfl
  rotate_left
  · simp only [Act.put, List.setIfInBounds_toArray, List.set_cons_zero, List.set_cons_succ, i64_w, i32_w]
    rfl
  refine pure_ (i := 12) (N := some 40) (v := ?_) (a' := ?_) #[true, true, true, true, true, true, true, true, true, true, true, false, true, false, false, false, false, false] rfl rfl (by kernel_rfl) (fun _ _ _ h => h) (Or.inl ⟨by rfl, ?_⟩) ?_ ?_
  rotate_left
  · intro w'
    go_simp
    with_reducible rfl
  rotate_left
  · simp only [Act.put, List.setIfInBounds_toArray, List.set_cons_zero, List.set_cons_succ, i64_w, i32_w]
    rfl
  refine pure_ (i := 13) (N := some 41) (v := ?_) (a' := ?_) #[true, true, true, true, true, true, true, true, true, true, true, false, true, true, false, false, false, false] rfl rfl (by kernel_rfl) (fun _ _ _ h => h) (Or.inl ⟨by rfl, ?_⟩) ?_ ?_
  rotate_left
  · intro w'
    go_simp
    with_reducible rfl
  rotate_left
  · simp only [Act.put, List.setIfInBounds_toArray, List.set_cons_zero, List.set_cons_succ, i64_w, i32_w]
    rfl
  refine take_ (i := 11) (N := some 39) (v := _) (a' := ?_) #[true, true, true, true, true, true, true, true, true, true, true, true, true, true, false, false, false, false] rfl rfl (by kernel_rfl) (fun _ _ _ h => h) (Or.inl ⟨by rfl, fun w2 h => run_loadCell rfl rfl Try.underlying5 rfl (h.rowCell (g := g6) (by repeat (first | exact Pick.here _ | apply Pick.there)) 4 129 hF1)⟩) hHeld ?_ ?_
  rotate_left
  · simp only [Act.put, List.setIfInBounds_toArray, List.set_cons_zero, List.set_cons_succ, i64_w, i32_w]
    rfl
  refine take_ (i := 14) (N := some 42) (v := _) (a' := ?_) #[true, true, true, true, true, true, true, true, true, true, true, true, true, true, true, false, false, false] rfl rfl (by kernel_rfl) (fun _ _ _ h => h) (Or.inl ⟨by rfl, fun w2 h => run_loadCell rfl rfl Try.underlying5 rfl (h.rowCell (g := g7) (by repeat (first | exact Pick.here _ | apply Pick.there)) 4 128 hF2)⟩) hHeld ?_ ?_
  rotate_left
  · simp only [Act.put, List.setIfInBounds_toArray, List.set_cons_zero, List.set_cons_succ, i64_w, i32_w]
    rfl
  refine pure_ (i := 15) (N := some 43) (v := ?_) (a' := ?_) #[true, true, true, true, true, true, true, true, true, true, true, true, true, true, true, true, false, false] rfl rfl (by kernel_rfl) (fun _ _ _ h => h) (Or.inl ⟨by rfl, ?_⟩) ?_ ?_
  rotate_left
  · intro w'
    go_simp
    with_reducible rfl
  rotate_left
  · simp only [Act.put, List.setIfInBounds_toArray, List.set_cons_zero, List.set_cons_succ, i64_w, i32_w]
    rfl
  refine pure_ (i := 16) (N := some 44) (v := ?_) (a' := ?_) #[true, true, true, true, true, true, true, true, true, true, true, true, true, true, true, true, true, false] rfl rfl (by kernel_rfl) (fun _ _ _ h => h) (Or.inl ⟨by rfl, ?_⟩) ?_ ?_
  rotate_left
  · intro w'
    go_simp
    with_reducible rfl
  rotate_left
  · simp only [Act.put, List.setIfInBounds_toArray, List.set_cons_zero, List.set_cons_succ, i64_w, i32_w]
    rfl
  refine pure_ (i := 17) (N := some 45) (v := ?_) (a' := ?_) #[true, true, true, true, true, true, true, true, true, true, true, true, true, true, true, true, true, true] rfl rfl (by kernel_rfl) (fun _ _ _ h => h) (Or.inl ⟨by rfl, ?_⟩) ?_ ?_
  rotate_left
  · intro w'
    go_simp
    with_reducible rfl
  rotate_left
  · simp only [Act.put, List.setIfInBounds_toArray, List.set_cons_zero, List.set_cons_succ, i64_w, i32_w]
    rfl
  refine done_ (by kernel_rfl) ?_
  replace H := HD
  clear HD hHeld
  go_wp2_with fail
  replace H := Aside0.mk H
  go_loopw [6] (fun v6 wr => ∃ k : Nat, k ≤ 35 ∧ v6 = .int .i64 (k : Int) ∧ Aside0 (Hp (fun _ => False) w wr [row (Kd.int .u8) 5 (.slice (some ⟨g6, 0, none⟩) 35 c6) (confB true true r co br po q1 q2 q3 q4), row (Kd.int .u8) 5 (.slice (some ⟨g7, 0, none⟩) 35 c7) (confB false true r co br po q1 q2 q3 q4), blk g1 #[.bool false, .bool true, .bool true, .int .u64 r, .int .u32 co, .int .u64 br, .int .u16 po, .int .u16 q1, .int .u16 q2, .int .u16 q3, .int .u16 q4] 48])) (fun v6 _ => 35 - (intOf v6).toNat)
  case atStart => exact ⟨0, by decide, rfl, H⟩
  case round =>
    obtain ⟨k, hk, rfl, H⟩ := hrel
    by_cases hlt : k < 35
    · have d1 : decide (k < 35) = true := decide_eq_true hlt
      have d2 : decide ((k : Int) < 35) = true := decide_eq_true (by omega)
      by_cases h4 : k = 4
      · subst h4
        go_wp2_with fail
        refine startH H.out (n := 13) [] #[false, false, false, false, false, false, false, false, false, false, false, false, false] (by kernel_rfl) rfl rfl (fun hHeld => ?_)
        have HD := H.out.drew
        refine pure_ (i := 0) (N := some 50) (v := ?_) (a' := ?_) #[true, false, false, false, false, false, false, false, false, false, false, false, false] rfl rfl (by kernel_rfl) (fun _ _ _ h => h) (Or.inl ⟨by rfl, ?_⟩) ?_ ?_
        rotate_left
        · intro w'
          go_simp
          with_reducible rfl
        rotate_left
        · simp only [Act.put, List.setIfInBounds_toArray, List.set_cons_zero, List.set_cons_succ, i64_w, i32_w]
          rfl
        refine pure_ (i := 1) (N := some 51) (v := ?_) (a' := ?_) #[true, true, false, false, false, false, false, false, false, false, false, false, false] rfl rfl (by kernel_rfl) (fun _ _ _ h => h) (Or.inl ⟨by rfl, ?_⟩) ?_ ?_
        rotate_left
        · intro w'
          go_simp
          with_reducible rfl
        rotate_left
        · simp only [Act.put, List.setIfInBounds_toArray, List.set_cons_zero, List.set_cons_succ, i64_w, i32_w]
          rfl
        refine pure_ (i := 2) (N := some 52) (v := ?_) (a' := ?_) #[true, true, true, false, false, false, false, false, false, false, false, false, false] rfl rfl (by kernel_rfl) (fun _ _ _ h => h) (Or.inl ⟨by rfl, ?_⟩) ?_ ?_
        rotate_left
        · intro w'
          go_simp
          with_reducible rfl
        rotate_left
        · simp only [Act.put, List.setIfInBounds_toArray, List.set_cons_zero, List.set_cons_succ, i64_w, i32_w]
          rfl
        refine pure_ (i := 3) (N := some 53) (v := undef) (a' := ?_) #[true, true, true, true, false, false, false, false, false, false, false, false, false] rfl rfl (by kernel_rfl) (fun _ _ _ h => h) (Or.inr ⟨by rfl, rfl⟩) ?_ ?_
        rotate_left
        · simp only [Act.put, List.setIfInBounds_toArray, List.set_cons_zero, List.set_cons_succ, i64_w, i32_w]
          rfl
        refine pure_ (i := 4) (N := some 54) (v := undef) (a' := ?_) #[true, true, true, true, true, false, false, false, false, false, false, false, false] rfl rfl (by kernel_rfl) (fun _ _ _ h => h) (Or.inr ⟨by rfl, rfl⟩) ?_ ?_
        rotate_left
        · simp only [Act.put, List.setIfInBounds_toArray, List.set_cons_zero, List.set_cons_succ, i64_w, i32_w]
          rfl
        refine pure_ (i := 5) (N := some 55) (v := undef) (a' := ?_) #[true, true, true, true, true, true, false, false, false, false, false, false, false] rfl rfl (by kernel_rfl) (fun _ _ _ h => h) (Or.inr ⟨by rfl, rfl⟩) ?_ ?_
        rotate_left
        · simp only [Act.put, List.setIfInBounds_toArray, List.set_cons_zero, List.set_cons_succ, i64_w, i32_w]
          rfl
        refine pure_ (i := 6) (N := some 56) (v := undef) (a' := ?_) #[true, true, true, true, true, true, true, false, false, false, false, false, false] rfl rfl (by kernel_rfl) (fun _ _ _ h => h) (Or.inr ⟨by rfl, rfl⟩) ?_ ?_
        rotate_left
        · simp only [Act.put, List.setIfInBounds_toArray, List.set_cons_zero, List.set_cons_succ, i64_w, i32_w]
          rfl
        refine pure_ (i := 7) (N := some 57) (v := undef) (a' := ?_) #[true, true, true, true, true, true, true, true, false, false, false, false, false] rfl rfl (by kernel_rfl) (fun _ _ _ h => h) (Or.inr ⟨by rfl, rfl⟩) ?_ ?_
        rotate_left
        · simp only [Act.put, List.setIfInBounds_toArray, List.set_cons_zero, List.set_cons_succ, i64_w, i32_w]
          rfl
        refine pure_ (i := 8) (N := some 58) (v := undef) (a' := ?_) #[true, true, true, true, true, true, true, true, true, false, false, false, false] rfl rfl (by kernel_rfl) (fun _ _ _ h => h) (Or.inr ⟨by rfl, rfl⟩) ?_ ?_
        rotate_left
        · simp only [Act.put, List.setIfInBounds_toArray, List.set_cons_zero, List.set_cons_succ, i64_w, i32_w]
          rfl
        refine pure_ (i := 9) (N := some 59) (v := undef) (a' := ?_) #[true, true, true, true, true, true, true, true, true, true, false, false, false] rfl rfl (by kernel_rfl) (fun _ _ _ h => h) (Or.inr ⟨by rfl, rfl⟩) ?_ ?_
        rotate_left
        · simp only [Act.put, List.setIfInBounds_toArray, List.set_cons_zero, List.set_cons_succ, i64_w, i32_w]
          rfl
        refine pure_ (i := 10) (N := some 60) (v := undef) (a' := ?_) #[true, true, true, true, true, true, true, true, true, true, true, false, false] rfl rfl (by kernel_rfl) (fun _ _ _ h => h) (Or.inr ⟨by rfl, rfl⟩) ?_ ?_
        rotate_left
        · simp only [Act.put, List.setIfInBounds_toArray, List.set_cons_zero, List.set_cons_succ, i64_w, i32_w]
          rfl
        refine pure_ (i := 11) (N := some 61) (v := undef) (a' := ?_) #[true, true, true, true, true, true, true, true, true, true, true, true, false] rfl rfl (by kernel_rfl) (fun _ _ _ h => h) (Or.inr ⟨by rfl, rfl⟩) ?_ ?_
        rotate_left
        · simp only [Act.put, List.setIfInBounds_toArray, List.set_cons_zero, List.set_cons_succ, i64_w, i32_w]
          rfl
        refine pure_ (i := 12) (N := some 62) (v := ?_) (a' := ?_) #[true, true, true, true, true, true, true, true, true, true, true, true, true] rfl rfl (by kernel_rfl) (fun _ _ _ h => h) (Or.inl ⟨by rfl, ?_⟩) ?_ ?_
        rotate_left
        · intro w'
          go_simp
          with_reducible rfl
        rotate_left
        · simp only [Act.put, List.setIfInBounds_toArray, List.set_cons_zero, List.set_cons_succ, i64_w, i32_w]
          rfl
        refine done_ (by kernel_rfl) ?_
        replace H := Aside0.mk HD
        clear HD hHeld
        go_wp2_with fail
        go_roundw
        case rel => exact ⟨5, by decide, by go_num, H⟩
        case measure => simp [intOf]
      · have e1 : ((k : Int) != 4) = true := bne_iff_ne.2 (by omega)
        have e2 : ((k : Int) == 4) = false := beq_eq_false_iff_ne.2 (by omega)
        have e3 : ¬ (k : Int) = 4 := by omega
        have e5 : (k : Int) < 35 := by omega
        obtain ⟨x, hx1, hx2⟩ := confB_k true false true r co br po q1 q2 q3 q4 k hlt h4
        go_wp2_with fail
        refine startH H.out (n := 13) [] #[false, false, false, false, false, false, false, false, false, false, false, false, false] (by kernel_rfl) rfl rfl (fun hHeld => ?_)
        have HD := H.out.drew
        refine pure_ (i := 0) (N := some 50) (v := ?_) (a' := ?_) #[true, false, false, false, false, false, false, false, false, false, false, false, false] rfl rfl (by kernel_rfl) (fun _ _ _ h => h) (Or.inl ⟨by rfl, ?_⟩) ?_ ?_
        rotate_left
        · intro w'
          go_simp
          with_reducible rfl
        rotate_left
        · simp only [Act.put, List.setIfInBounds_toArray, List.set_cons_zero, List.set_cons_succ, i64_w, i32_w]
          rfl
        refine pure_ (i := 1) (N := some 51) (v := ?_) (a' := ?_) #[true, true, false, false, false, false, false, false, false, false, false, false, false] rfl rfl (by kernel_rfl) (fun _ _ _ h => h) (Or.inl ⟨by rfl, ?_⟩) ?_ ?_
        rotate_left
        · intro w'
          go_simp
          with_reducible rfl
        rotate_left
        · simp only [Act.put, List.setIfInBounds_toArray, List.set_cons_zero, List.set_cons_succ, i64_w, i32_w]
          rfl
        refine pure_ (i := 2) (N := some 52) (v := ?_) (a' := ?_) #[true, true, true, false, false, false, false, false, false, false, false, false, false] rfl rfl (by kernel_rfl) (fun _ _ _ h => h) (Or.inl ⟨by rfl, ?_⟩) ?_ ?_
        rotate_left
        · intro w'
          go_simp
          with_reducible rfl
        rotate_left
        · simp only [Act.put, List.setIfInBounds_toArray, List.set_cons_zero, List.set_cons_succ, i64_w, i32_w]
          rfl
        refine pure_ (i := 3) (N := some 53) (v := ?_) (a' := ?_) #[true, true, true, true, false, false, false, false, false, false, false, false, false] rfl rfl (by kernel_rfl) (fun _ _ _ h => h) (Or.inl ⟨by rfl, ?_⟩) ?_ ?_
        rotate_left
        · intro w'
          go_simp
          with_reducible rfl
        rotate_left
        · simp only [Act.put, List.setIfInBounds_toArray, List.set_cons_zero, List.set_cons_succ, i64_w, i32_w]
          rfl
        refine pure_ (i := 4) (N := some 54) (v := ?_) (a' := ?_) #[true, true, true, true, true, false, false, false, false, false, false, false, false] rfl rfl (by kernel_rfl) (fun _ _ _ h => h) (Or.inl ⟨by rfl, ?_⟩) ?_ ?_
        rotate_left
        · intro w'
          go_simp
          with_reducible rfl
        rotate_left
        · simp only [Act.put, List.setIfInBounds_toArray, List.set_cons_zero, List.set_cons_succ, i64_w, i32_w]
          rfl
        refine pure_ (i := 5) (N := some 55) (v := ?_) (a' := ?_) #[true, true, true, true, true, true, false, false, false, false, false, false, false] rfl rfl (by kernel_rfl) (fun _ _ _ h => h) (Or.inl ⟨by rfl, ?_⟩) ?_ ?_
        rotate_left
        · intro w'
          go_simp
          with_reducible rfl
        rotate_left
        · simp only [Act.put, List.setIfInBounds_toArray, List.set_cons_zero, List.set_cons_succ, i64_w, i32_w]
          rfl
        refine pure_ (i := 7) (N := some 57) (v := ?_) (a' := ?_) #[true, true, true, true, true, true, false, true, false, false, false, false, false] rfl rfl (by kernel_rfl) (fun _ _ _ h => h) (Or.inl ⟨by rfl, ?_⟩) ?_ ?_
        rotate_left
        · intro w'
          go_simp
          with_reducible rfl
        rotate_left
        · simp only [Act.put, List.setIfInBounds_toArray, List.set_cons_zero, List.set_cons_succ, i64_w, i32_w]
          rfl
        refine pure_ (i := 8) (N := some 58) (v := ?_) (a' := ?_) #[true, true, true, true, true, true, false, true, true, false, false, false, false] rfl rfl (by kernel_rfl) (fun _ _ _ h => h) (Or.inl ⟨by rfl, ?_⟩) ?_ ?_
        rotate_left
        · intro w'
          go_simp
          with_reducible rfl
        rotate_left
        · simp only [Act.put, List.setIfInBounds_toArray, List.set_cons_zero, List.set_cons_succ, i64_w, i32_w]
          rfl
        refine pure_ (i := 9) (N := some 59) (v := ?_) (a' := ?_) #[true, true, true, true, true, true, false, true, true, true, false, false, false] rfl rfl (by kernel_rfl) (fun _ _ _ h => h) (Or.inl ⟨by rfl, ?_⟩) ?_ ?_
        rotate_left
        · intro w'
          go_simp
          with_reducible rfl
        rotate_left
        · simp only [Act.put, List.setIfInBounds_toArray, List.set_cons_zero, List.set_cons_succ, i64_w, i32_w]
          rfl
        refine take_ (i := 6) (N := some 56) (v := _) (a' := ?_) #[true, true, true, true, true, true, true, true, true, true, false, false, false] rfl rfl (by kernel_rfl) (fun _ _ _ h => h) (Or.inl ⟨by rfl, fun w2 h => run_loadCell rfl rfl Try.underlying5 rfl (h.rowCell (g := g6) (by repeat (first | exact Pick.here _ | apply Pick.there)) k x hx1)⟩) hHeld ?_ ?_
        rotate_left
        · simp only [Act.put, List.setIfInBounds_toArray, List.set_cons_zero, List.set_cons_succ, i64_w, i32_w]
          rfl
        refine take_ (i := 10) (N := some 60) (v := _) (a' := ?_) #[true, true, true, true, true, true, true, true, true, true, true, false, false] rfl rfl (by kernel_rfl) (fun _ _ _ h => h) (Or.inl ⟨by rfl, fun w2 h => run_loadCell rfl rfl Try.underlying5 rfl (h.rowCell (g := g7) (by repeat (first | exact Pick.here _ | apply Pick.there)) k x hx2)⟩) hHeld ?_ ?_
        rotate_left
        · simp only [Act.put, List.setIfInBounds_toArray, List.set_cons_zero, List.set_cons_succ, i64_w, i32_w]
          rfl
        refine pure_ (i := 11) (N := some 61) (v := ?_) (a' := ?_) #[true, true, true, true, true, true, true, true, true, true, true, true, false] rfl rfl (by kernel_rfl) (fun _ _ _ h => h) (Or.inl ⟨by rfl, ?_⟩) ?_ ?_
        rotate_left
        · intro w'
          go_simp
          with_reducible rfl
        rotate_left
        · simp only [Act.put, List.setIfInBounds_toArray, List.set_cons_zero, List.set_cons_succ, i64_w, i32_w]
          rfl
        refine pure_ (i := 12) (N := some 62) (v := ?_) (a' := ?_) #[true, true, true, true, true, true, true, true, true, true, true, true, true] rfl rfl (by kernel_rfl) (fun _ _ _ h => h) (Or.inl ⟨by rfl, ?_⟩) ?_ ?_
        rotate_left
        · intro w'
          go_simp
          with_reducible rfl
        rotate_left
        · simp only [Act.put, List.setIfInBounds_toArray, List.set_cons_zero, List.set_cons_succ, i64_w, i32_w]
          rfl
        refine done_ (by kernel_rfl) ?_
        replace H := Aside0.mk HD
        clear HD hHeld
        go_wp2_with fail
        go_roundw
        case rel => exact ⟨k + 1, by omega, by go_num, H⟩
        case measure => simp [intOf]; omega
    · have d1 : decide (k < 35) = false := decide_eq_false hlt
      have d2 : decide ((k : Int) < 35) = false := decide_eq_false (by omega)
      go_wp2_with fail
      refine startH H.out (n := 16) [] #[false, false, false, false, false, false, false, false, false, false, false, false, false, false, false, false] (by kernel_rfl) rfl rfl (fun hHeld => ?_)
      have HD := H.out.drew
      refine pure_ (i := 0) (N := some 63) (v := ?_) (a' := ?_) #[true, false, false, false, false, false, false, false, false, false, false, false, false, false, false, false] rfl rfl (by kernel_rfl) (fun _ _ _ h => h) (Or.inl ⟨by rfl, ?_⟩) ?_ ?_
      rotate_left
      · intro w'
        go_simp
        with_reducible rfl
      rotate_left
      · simp only [Act.put, List.setIfInBounds_toArray, List.set_cons_zero, List.set_cons_succ, i64_w, i32_w]
        rfl
      refine pure_ (i := 1) (N := some 64) (v := ?_) (a' := ?_) #[true, true, false, false, false, false, false, false, false, false, false, false, false, false, false, false] rfl rfl (by kernel_rfl) (fun _ _ _ h => h) (Or.inl ⟨by rfl, ?_⟩) ?_ ?_
      rotate_left
      · intro w'
        go_simp
        with_reducible rfl
      rotate_left
      · simp only [Act.put, List.setIfInBounds_toArray, List.set_cons_zero, List.set_cons_succ, i64_w, i32_w]
        rfl
      refine pure_ (i := 5) (N := some 68) (v := ?_) (a' := ?_) #[true, true, false, false, false, true, false, false, false, false, false, false, false, false, false, false] rfl rfl (by kernel_rfl) (fun _ _ _ h => h) (Or.inl ⟨by rfl, ?_⟩) ?_ ?_
      rotate_left
      · intro w'
        go_simp
        with_reducible rfl
      rotate_left
      · simp only [Act.put, List.setIfInBounds_toArray, List.set_cons_zero, List.set_cons_succ, i64_w, i32_w]
        rfl
      refine take_ (i := 2) (N := some 65) (v := _) (a' := ?_) #[true, true, true, false, false, true, false, false, false, false, false, false, false, false, false, false] rfl rfl (by kernel_rfl) (fun _ _ _ h => h) (Or.inl ⟨by rfl, fun w2 h => run_loadCell rfl rfl Try.underlying5 rfl (h.rowCell (g := g6) (by repeat (first | exact Pick.here _ | apply Pick.there)) 4 129 hF1)⟩) hHeld ?_ ?_
      rotate_left
      · simp only [Act.put, List.setIfInBounds_toArray, List.set_cons_zero, List.set_cons_succ, i64_w, i32_w]
        rfl
      refine pure_ (i := 3) (N := some 66) (v := ?_) (a' := ?_) #[true, true, true, true, false, true, false, false, false, false, false, false, false, false, false, false] rfl rfl (by kernel_rfl) (fun _ _ _ h => h) (Or.inl ⟨by rfl, ?_⟩) ?_ ?_
      rotate_left
      · intro w'
        go_simp
        with_reducible rfl
      rotate_left
      · simp only [Act.put, List.setIfInBounds_toArray, List.set_cons_zero, List.set_cons_succ, i64_w, i32_w]
        rfl
      refine pure_ (i := 4) (N := some 67) (v := ?_) (a' := ?_) #[true, true, true, true, true, true, false, false, false, false, false, false, false, false, false, false] rfl rfl (by kernel_rfl) (fun _ _ _ h => h) (Or.inl ⟨by rfl, ?_⟩) ?_ ?_
      rotate_left
      · intro w'
        go_simp
        with_reducible rfl
      rotate_left
      · simp only [Act.put, List.setIfInBounds_toArray, List.set_cons_zero, List.set_cons_succ, i64_w, i32_w]
        rfl
      refine take_ (i := 6) (N := some 69) (v := _) (a' := ?_) #[true, true, true, true, true, true, true, false, false, false, false, false, false, false, false, false] rfl rfl (by kernel_rfl) (fun _ _ _ h => h) (Or.inl ⟨by rfl, fun w2 h => h.load1 4 (.tmp 68) rfl rfl (by repeat (first | exact Pick.here _ | apply Pick.there)) Try.underlying4 rfl rfl⟩) hHeld ?_ ?_
      rotate_left
      · simp only [Act.put, List.setIfInBounds_toArray, List.set_cons_zero, List.set_cons_succ, i64_w, i32_w]
        rfl
      refine pure_ (i := 7) (N := some 70) (v := ?_) (a' := ?_) #[true, true, true, true, true, true, true, true, false, false, false, false, false, false, false, false] rfl rfl (by kernel_rfl) (fun _ _ _ h => h) (Or.inl ⟨by rfl, ?_⟩) ?_ ?_
      rotate_left
      · intro w'
        go_simp
        with_reducible rfl
      rotate_left
      · simp only [Act.put, List.setIfInBounds_toArray, List.set_cons_zero, List.set_cons_succ, i64_w, i32_w]
        rfl
      refine pure_ (i := 8) (N := some 71) (v := ?_) (a' := ?_) #[true, true, true, true, true, true, true, true, true, false, false, false, false, false, false, false] rfl rfl (by kernel_rfl) (fun _ _ _ h => h) (Or.inl ⟨by rfl, ?_⟩) ?_ ?_
      rotate_left
      · intro w'
        go_simp
        with_reducible rfl
      rotate_left
      · simp only [Act.put, List.setIfInBounds_toArray, List.set_cons_zero, List.set_cons_succ, i64_w, i32_w]
        rfl
      refine pure_ (i := 9) (N := some 72) (v := ?_) (a' := ?_) #[true, true, true, true, true, true, true, true, true, true, false, false, false, false, false, false] rfl rfl (by kernel_rfl) (fun _ _ _ h => h) (Or.inl ⟨by rfl, ?_⟩) ?_ ?_
      rotate_left
      · intro w'
        go_simp
        with_reducible rfl
      rotate_left
      · simp only [Act.put, List.setIfInBounds_toArray, List.set_cons_zero, List.set_cons_succ, i64_w, i32_w]
        rfl
      refine pure_ (i := 10) (N := some 73) (v := ?_) (a' := ?_) #[true, true, true, true, true, true, true, true, true, true, true, false, false, false, false, false] rfl rfl (by kernel_rfl) (fun _ _ _ h => h) (Or.inl ⟨by rfl, ?_⟩) ?_ ?_
      rotate_left
      · intro w'
        go_simp
        with_reducible rfl
      rotate_left
      · simp only [Act.put, List.setIfInBounds_toArray, List.set_cons_zero, List.set_cons_succ, i64_w, i32_w]
        rfl
      refine take_ (i := 11) (N := some 74) (v := _) (a' := ?_) #[true, true, true, true, true, true, true, true, true, true, true, true, false, false, false, false] rfl rfl (by kernel_rfl) (fun _ _ _ h => h) (Or.inl ⟨by rfl, fun w2 h => run_loadCell rfl rfl Try.underlying5 rfl (h.rowCell (g := g6) (by repeat (first | exact Pick.here _ | apply Pick.there)) 4 129 hF1)⟩) hHeld ?_ ?_
      rotate_left
      · simp only [Act.put, List.setIfInBounds_toArray, List.set_cons_zero, List.set_cons_succ, i64_w, i32_w]
        rfl
      refine pure_ (i := 12) (N := some 75) (v := ?_) (a' := ?_) #[true, true, true, true, true, true, true, true, true, true, true, true, true, false, false, false] rfl rfl (by kernel_rfl) (fun _ _ _ h => h) (Or.inl ⟨by rfl, ?_⟩) ?_ ?_
      rotate_left
      · intro w'
        go_simp
        with_reducible rfl
      rotate_left
      · simp only [Act.put, List.setIfInBounds_toArray, List.set_cons_zero, List.set_cons_succ, i64_w, i32_w]
        rfl
      refine pure_ (i := 13) (N := some 76) (v := ?_) (a' := ?_) #[true, true, true, true, true, true, true, true, true, true, true, true, true, true, false, false] rfl rfl (by kernel_rfl) (fun _ _ _ h => h) (Or.inl ⟨by rfl, ?_⟩) ?_ ?_
      rotate_left
      · intro w'
        go_simp
        with_reducible rfl
      rotate_left
      · simp only [Act.put, List.setIfInBounds_toArray, List.set_cons_zero, List.set_cons_succ, i64_w, i32_w]
        rfl
      refine pure_ (i := 14) (N := some 77) (v := ?_) (a' := ?_) #[true, true, true, true, true, true, true, true, true, true, true, true, true, true, true, false] rfl rfl (by kernel_rfl) (fun _ _ _ h => h) (Or.inl ⟨by rfl, ?_⟩) ?_ ?_
      rotate_left
      · intro w'
        go_simp
        with_reducible rfl
      rotate_left
      · simp only [Act.put, List.setIfInBounds_toArray, List.set_cons_zero, List.set_cons_succ, i64_w, i32_w]
        rfl
      refine pure_ (i := 15) (N := some 2) (v := ?_) (a' := ?_) #[true, true, true, true, true, true, true, true, true, true, true, true, true, true, true, true] rfl rfl (by kernel_rfl) (fun _ _ _ h => h) (Or.inl ⟨by rfl, ?_⟩) ?_ ?_
      rotate_left
      · intro w'
        go_simp
        with_reducible rfl
      rotate_left
      · simp only [Act.put, List.setIfInBounds_toArray, List.set_cons_zero, List.set_cons_succ, i64_w, i32_w]
        rfl
      refine done_ (by kernel_rfl) ?_
      go_wp2_with fail
      go_ret
      exact ⟨rfl, HD.below⟩

theorem BpduFlags (W : World) (x : Bool × Bool × Bool × Int × Int × Int × Int × Int × Int × Int × Int) (w0 : True ∧ True ∧ True ∧ (Lit.int .u64 x.2.2.2.1).wf = true ∧ (Lit.int .u32 x.2.2.2.2.1).wf = true ∧ (Lit.int .u64 x.2.2.2.2.2.1).wf = true ∧ (Lit.int .u16 x.2.2.2.2.2.2.1).wf = true ∧ (Lit.int .u16 x.2.2.2.2.2.2.2.1).wf = true ∧ (Lit.int .u16 x.2.2.2.2.2.2.2.2.1).wf = true ∧ (Lit.int .u16 x.2.2.2.2.2.2.2.2.2.1).wf = true ∧ (Lit.int .u16 x.2.2.2.2.2.2.2.2.2.2).wf = true) : Calls Try.prog 9 #[.agg #[.bool x.1, .bool x.2.1, .bool x.2.2.1, .int .u64 x.2.2.2.1, .int .u32 x.2.2.2.2.1, .int .u64 x.2.2.2.2.2.1, .int .u16 x.2.2.2.2.2.2.1, .int .u16 x.2.2.2.2.2.2.2.1, .int .u16 x.2.2.2.2.2.2.2.2.1, .int .u16 x.2.2.2.2.2.2.2.2.2.1, .int .u16 x.2.2.2.2.2.2.2.2.2.2]] W (fun e w' => e = .returned (.bool true) ∧ Below W.heap.size W w') := by
  obtain ⟨t, c1, c2, r, co, br, po, q1, q2, q3, q4⟩ := x
  obtain ⟨-, -, -, w1, w2, w3, w4, w5, w6, w7, w8⟩ := w0
  dsimp only at *
  cases t
  · cases c1 <;> cases c2
    · exact Flags_0 W r co br po q1 q2 q3 q4 (Ar.wf_u64 w1) (Ar.wf_u32 w2) (Ar.wf_u64 w3) (Ar.wf_u16 w4) (Ar.wf_u16 w5) (Ar.wf_u16 w6) (Ar.wf_u16 w7) (Ar.wf_u16 w8)
    · exact Flags_1 W r co br po q1 q2 q3 q4 (Ar.wf_u64 w1) (Ar.wf_u32 w2) (Ar.wf_u64 w3) (Ar.wf_u16 w4) (Ar.wf_u16 w5) (Ar.wf_u16 w6) (Ar.wf_u16 w7) (Ar.wf_u16 w8)
    · exact Flags_2 W r co br po q1 q2 q3 q4 (Ar.wf_u64 w1) (Ar.wf_u32 w2) (Ar.wf_u64 w3) (Ar.wf_u16 w4) (Ar.wf_u16 w5) (Ar.wf_u16 w6) (Ar.wf_u16 w7) (Ar.wf_u16 w8)
    · exact Flags_3 W r co br po q1 q2 q3 q4 (Ar.wf_u64 w1) (Ar.wf_u32 w2) (Ar.wf_u64 w3) (Ar.wf_u16 w4) (Ar.wf_u16 w5) (Ar.wf_u16 w6) (Ar.wf_u16 w7) (Ar.wf_u16 w8)
  · exact Flags_tc W c1 c2 r co br po q1 q2 q3 q4 (Ar.wf_u64 w1) (Ar.wf_u32 w2) (Ar.wf_u64 w3) (Ar.wf_u16 w4) (Ar.wf_u16 w5) (Ar.wf_u16 w6) (Ar.wf_u16 w7) (Ar.wf_u16 w8)

end Go.Proofs.Ytdmlpcbmmdddbaa.Pure
