/- The law BpduPuts over what its functions come to. Walked by hand. -/
import Derived.Test.YtdmlpcbmmdddbaaBpduR
import Derived.Test.YtdmlpcbmmdddbaaAr
namespace Go.Proofs.Ytdmlpcbmmdddbaa.Pure
open Go.RowKit Go.Proofs.YtdmlpcbmmdddbaaW.PrintWords Go.Proofs.YtdmlpcbmmdddbaaW.PrintLast Go.Proofs.YtdmlpcbmmdddbaaW.PrintMore
set_option linter.unusedVariables false
set_option linter.unusedSimpArgs false
open Go.Proofs.Ytdmlpcbmmdddbaa.Sep Go.Proofs.Ytdmlpcbmmdddbaa.Wire Go.Proofs.Ytdmlpcbmmdddbaa.Bpdu
set_option maxHeartbeats 1000000 in
set_option maxRecDepth 100000 in
theorem Puts_tc (w : World) (c1 c2 : Bool) (r co br po q1 q2 q3 q4 : Int) (r0 : 0 ≤ r ∧ r < 18446744073709551616) (co0 : 0 ≤ co ∧ co < 4294967296) (br0 : 0 ≤ br ∧ br < 18446744073709551616) (po0 : 0 ≤ po ∧ po < 65536) (q10 : 0 ≤ q1 ∧ q1 < 65536) (q20 : 0 ≤ q2 ∧ q2 < 65536) (q30 : 0 ≤ q3 ∧ q3 < 65536) (q40 : 0 ≤ q4 ∧ q4 < 65536) :
    Calls Try.prog 8 #[.agg #[.bool true, .bool c1, .bool c2, .int .u64 r, .int .u32 co, .int .u64 br, .int .u16 po, .int .u16 q1, .int .u16 q2, .int .u16 q3, .int .u16 q4]] w (fun e w' => e = .returned (.bool true) ∧ Below w.heap.size w w') := by
  have H := Hp.nothing w
  go_enter Try.func8, Try.ntmps8
  go_wp2_with (first | ((with_reducible refine gate_dst (N := 1) rfl ?_); refine ev_ rfl (H.box rfl (by first | (go_simp; done) | (go_simp; rfl)) rfl) ?_; rintro _ w1 ⟨g1, rfl, H1⟩; (try simp only [Value.cells] at H1); replace H := H1; clear H1) | (go_at_call 23; refine H.call1 (awake_calls _) ?_; intro w1 H1; replace H := H1; clear H1))
  refine startH H (n := 8) [] #[false, false, false, false, false, false, false, false] (by kernel_rfl) rfl rfl (fun hHeld => ?_)
  have HD := H.drew
  refine take_ (i := 0) (N := some 5) (v := _) (a' := ?_) #[true, false, false, false, false, false, false, false] rfl rfl (by kernel_rfl) (fun _ _ _ h => h) (Or.inl ⟨by rfl, fun w2 h => h.loadN 48 (.tmp 1) rfl rfl (by repeat (first | exact Pick.here _ | apply Pick.there)) #[.bool true, .bool c1, .bool c2, .int .u64 r, .int .u32 co, .int .u64 br, .int .u16 po, .int .u16 q1, .int .u16 q2, .int .u16 q3, .int .u16 q4] Try.underlying48 rfl info48s (fun j u hj => by simpa using hj)⟩) hHeld ?_ ?_
  rotate_left
  · simp only [Act.put, List.setIfInBounds_toArray, List.set_cons_zero, List.set_cons_succ, i64_w, i32_w]
    rfl
  refine take_ (i := 3) (N := some 8) (v := _) (a' := ?_) #[true, false, false, true, false, false, false, false] rfl rfl (by kernel_rfl) (fun _ _ _ h => h) (Or.inl ⟨by rfl, fun w2 h => h.loadN 48 (.tmp 1) rfl rfl (by repeat (first | exact Pick.here _ | apply Pick.there)) #[.bool true, .bool c1, .bool c2, .int .u64 r, .int .u32 co, .int .u64 br, .int .u16 po, .int .u16 q1, .int .u16 q2, .int .u16 q3, .int .u16 q4] Try.underlying48 rfl info48s (fun j u hj => by simpa using hj)⟩) hHeld ?_ ?_
  rotate_left
  · simp only [Act.put, List.setIfInBounds_toArray, List.set_cons_zero, List.set_cons_succ, i64_w, i32_w]
    rfl
  refine one_ (i := 1) (N := some 6) #[true, true, false, true, false, false, false, false] rfl rfl (by kernel_rfl) (by decide) (fun K hK => ?_)
  refine goes_ Try.func24 (by kernel_rfl) rfl #[.agg #[.bool true, .bool c1, .bool c2, .int .u64 r, .int .u32 co, .int .u64 br, .int .u16 po, .int .u16 q1, .int .u16 q2, .int .u16 q3, .int .u16 q4]] (by rfl) rfl rfl (by simp only [List.map_toArray, List.map_cons, List.map_nil]; rfl) ?_
  refine HD.call0 (BPut_tc _ c1 c2 r co br po q1 q2 q3 q4 r0 co0 br0 po0 q10 q20 q30 q40) ?_
  rintro v6 l1 w3 rfl H3
  obtain ⟨A6, c6, rfl, hc6, HC6⟩ := H3.reads (.here _)
  replace HD := H3
  clear H3 hc6 HC6
  refine ⟨_, rfl, ?_⟩
  refine hK.out _ _ (HD.take (p := [blk g1 #[.bool true, .bool c1, .bool c2, .int .u64 r, .int .u32 co, .int .u64 br, .int .u16 po, .int .u16 q1, .int .u16 q2, .int .u16 q3, .int .u16 q4] 48]) (.cons (by repeat (first | exact Pick.here _ | apply Pick.there)) (.nil _))) (fun hHeld => ?_)
  clear hK K
  refine norm_ (a' := ?_) ?_ ?_
  rotate_left
  · show Act.put _ (some 6) _ = _
    simp only [Act.put, List.setIfInBounds_toArray, List.set_cons_zero, List.set_cons_succ, i64_w, i32_w]
    rfl
  refine two_ (i := 2) (j := 4) (Ni := some 7) (Nj := some 9) #[true, true, true, true, false, false, false, false] #[true, true, false, true, true, false, false, false] rfl rfl rfl rfl (by kernel_rfl) (by decide) (by decide) (fun K hK => ?_) (fun K hK => ?_)
  · skip
    refine value_ (v := .string (strOfNums tcB)) (by rfl) rfl (run_str rfl rfl Try.underlying25 Try.underlying5 Try.underlying9 (HD.readsN (xs := tcB) (by repeat (first | exact Pick.here _ | apply Pick.there)))) ?_
    refine hK.out _ _ (HD.take (p := [blk g1 #[.bool true, .bool c1, .bool c2, .int .u64 r, .int .u32 co, .int .u64 br, .int .u16 po, .int .u16 q1, .int .u16 q2, .int .u16 q3, .int .u16 q4] 48]) (.cons (by repeat (first | exact Pick.here _ | apply Pick.there)) (.nil _))) (fun hHeld => ?_)
    clear hK K
    refine norm_ (a' := ?_) ?_ ?_
    rotate_left
    · show Act.put _ (some 7) _ = _
      simp only [Act.put, List.setIfInBounds_toArray, List.set_cons_zero, List.set_cons_succ, i64_w, i32_w]
      rfl
    refine one_ (i := 4) (N := some 9) #[true, true, true, true, true, false, false, false] rfl rfl (by kernel_rfl) (by decide) (fun K hK => ?_)
    refine goes_ Try.func25 (by kernel_rfl) rfl #[.agg #[.bool true, .bool c1, .bool c2, .int .u64 r, .int .u32 co, .int .u64 br, .int .u16 po, .int .u16 q1, .int .u16 q2, .int .u16 q3, .int .u16 q4]] (by rfl) rfl rfl (by simp only [List.map_toArray, List.map_cons, List.map_nil]; rfl) ?_
    refine HD.call0 (RBPut_tc _ c1 c2 r co br po q1 q2 q3 q4 r0 co0 br0 po0 q10 q20 q30 q40) ?_
    rintro v6 l1 w3 rfl H3
    obtain ⟨A6, c6, rfl, hc6, HC6⟩ := H3.reads (.here _)
    replace HD := H3
    clear H3 hc6 HC6
    refine ⟨_, rfl, ?_⟩
    refine hK.out _ _ (HD.take (p := [blk g1 #[.bool true, .bool c1, .bool c2, .int .u64 r, .int .u32 co, .int .u64 br, .int .u16 po, .int .u16 q1, .int .u16 q2, .int .u16 q3, .int .u16 q4] 48]) (.cons (by repeat (first | exact Pick.here _ | apply Pick.there)) (.nil _))) (fun hHeld => ?_)
    clear hK K
    refine norm_ (a' := ?_) ?_ ?_
    rotate_left
    · show Act.put _ (some 9) _ = _
      simp only [Act.put, List.setIfInBounds_toArray, List.set_cons_zero, List.set_cons_succ, i64_w, i32_w]
      rfl
    refine one_ (i := 5) (N := some 10) #[true, true, true, true, true, true, false, false] rfl rfl (by kernel_rfl) (by decide) (fun K hK => ?_)
    refine value_ (v := .string (strOfNums tcB)) (by rfl) rfl (run_str rfl rfl Try.underlying25 Try.underlying5 Try.underlying9 (HD.readsN (xs := tcB) (by repeat (first | exact Pick.here _ | apply Pick.there)))) ?_
    refine hK.out _ _ (HD.take (p := [blk g1 #[.bool true, .bool c1, .bool c2, .int .u64 r, .int .u32 co, .int .u64 br, .int .u16 po, .int .u16 q1, .int .u16 q2, .int .u16 q3, .int .u16 q4] 48]) (.cons (by repeat (first | exact Pick.here _ | apply Pick.there)) (.nil _))) (fun hHeld => ?_)
    clear hK K
    refine norm_ (a' := ?_) ?_ ?_
    rotate_left
    · show Act.put _ (some 10) _ = _
      simp only [Act.put, List.setIfInBounds_toArray, List.set_cons_zero, List.set_cons_succ, i64_w, i32_w]
      rfl
    refine pure_ (i := 6) (N := some 11) (v := ?_) (a' := ?_) #[true, true, true, true, true, true, true, false] rfl rfl (by kernel_rfl) (fun _ _ _ h => h) (Or.inl ⟨by rfl, ?_⟩) ?_ ?_
    rotate_left
    · intro w'
      go_simp
      with_reducible rfl
    rotate_left
    · simp only [Act.put, List.setIfInBounds_toArray, List.set_cons_zero, List.set_cons_succ, i64_w, i32_w]
      rfl
    refine pure_ (i := 7) (N := some 2) (v := ?_) (a' := ?_) #[true, true, true, true, true, true, true, true] rfl rfl (by kernel_rfl) (fun _ _ _ h => h) (Or.inl ⟨by rfl, ?_⟩) ?_ ?_
    rotate_left
    · intro w'
      go_simp
      with_reducible rfl
    rotate_left
    · simp only [Act.put, List.setIfInBounds_toArray, List.set_cons_zero, List.set_cons_succ, i64_w, i32_w]
      rfl
    refine done_ (by kernel_rfl) ?_
    go_wp2_with fail
    go_ret
    exact ⟨rfl, HD.below⟩
  · skip
    refine goes_ Try.func25 (by kernel_rfl) rfl #[.agg #[.bool true, .bool c1, .bool c2, .int .u64 r, .int .u32 co, .int .u64 br, .int .u16 po, .int .u16 q1, .int .u16 q2, .int .u16 q3, .int .u16 q4]] (by rfl) rfl rfl (by simp only [List.map_toArray, List.map_cons, List.map_nil]; rfl) ?_
    refine HD.call0 (RBPut_tc _ c1 c2 r co br po q1 q2 q3 q4 r0 co0 br0 po0 q10 q20 q30 q40) ?_
    rintro v6 l1 w3 rfl H3
    obtain ⟨A6, c6, rfl, hc6, HC6⟩ := H3.reads (.here _)
    replace HD := H3
    clear H3 hc6 HC6
    refine ⟨_, rfl, ?_⟩
    refine hK.out _ _ (HD.take (p := [blk g1 #[.bool true, .bool c1, .bool c2, .int .u64 r, .int .u32 co, .int .u64 br, .int .u16 po, .int .u16 q1, .int .u16 q2, .int .u16 q3, .int .u16 q4] 48]) (.cons (by repeat (first | exact Pick.here _ | apply Pick.there)) (.nil _))) (fun hHeld => ?_)
    clear hK K
    refine norm_ (a' := ?_) ?_ ?_
    rotate_left
    · show Act.put _ (some 9) _ = _
      simp only [Act.put, List.setIfInBounds_toArray, List.set_cons_zero, List.set_cons_succ, i64_w, i32_w]
      rfl
    refine two_ (i := 2) (j := 5) (Ni := some 7) (Nj := some 10) #[true, true, true, true, true, false, false, false] #[true, true, false, true, true, true, false, false] rfl rfl rfl rfl (by kernel_rfl) (by decide) (by decide) (fun K hK => ?_) (fun K hK => ?_)
    · skip
      refine value_ (v := .string (strOfNums tcB)) (by rfl) rfl (run_str rfl rfl Try.underlying25 Try.underlying5 Try.underlying9 (HD.readsN (xs := tcB) (by repeat (first | exact Pick.here _ | apply Pick.there)))) ?_
      refine hK.out _ _ (HD.take (p := [blk g1 #[.bool true, .bool c1, .bool c2, .int .u64 r, .int .u32 co, .int .u64 br, .int .u16 po, .int .u16 q1, .int .u16 q2, .int .u16 q3, .int .u16 q4] 48]) (.cons (by repeat (first | exact Pick.here _ | apply Pick.there)) (.nil _))) (fun hHeld => ?_)
      clear hK K
      refine norm_ (a' := ?_) ?_ ?_
      rotate_left
      · show Act.put _ (some 7) _ = _
        simp only [Act.put, List.setIfInBounds_toArray, List.set_cons_zero, List.set_cons_succ, i64_w, i32_w]
        rfl
      refine one_ (i := 5) (N := some 10) #[true, true, true, true, true, true, false, false] rfl rfl (by kernel_rfl) (by decide) (fun K hK => ?_)
      refine value_ (v := .string (strOfNums tcB)) (by rfl) rfl (run_str rfl rfl Try.underlying25 Try.underlying5 Try.underlying9 (HD.readsN (xs := tcB) (by repeat (first | exact Pick.here _ | apply Pick.there)))) ?_
      refine hK.out _ _ (HD.take (p := [blk g1 #[.bool true, .bool c1, .bool c2, .int .u64 r, .int .u32 co, .int .u64 br, .int .u16 po, .int .u16 q1, .int .u16 q2, .int .u16 q3, .int .u16 q4] 48]) (.cons (by repeat (first | exact Pick.here _ | apply Pick.there)) (.nil _))) (fun hHeld => ?_)
      clear hK K
      refine norm_ (a' := ?_) ?_ ?_
      rotate_left
      · show Act.put _ (some 10) _ = _
        simp only [Act.put, List.setIfInBounds_toArray, List.set_cons_zero, List.set_cons_succ, i64_w, i32_w]
        rfl
      refine pure_ (i := 6) (N := some 11) (v := ?_) (a' := ?_) #[true, true, true, true, true, true, true, false] rfl rfl (by kernel_rfl) (fun _ _ _ h => h) (Or.inl ⟨by rfl, ?_⟩) ?_ ?_
      rotate_left
      · intro w'
        go_simp
        with_reducible rfl
      rotate_left
      · simp only [Act.put, List.setIfInBounds_toArray, List.set_cons_zero, List.set_cons_succ, i64_w, i32_w]
        rfl
      refine pure_ (i := 7) (N := some 2) (v := ?_) (a' := ?_) #[true, true, true, true, true, true, true, true] rfl rfl (by kernel_rfl) (fun _ _ _ h => h) (Or.inl ⟨by rfl, ?_⟩) ?_ ?_
      rotate_left
      · intro w'
        go_simp
        with_reducible rfl
      rotate_left
      · simp only [Act.put, List.setIfInBounds_toArray, List.set_cons_zero, List.set_cons_succ, i64_w, i32_w]
        rfl
      refine done_ (by kernel_rfl) ?_
      go_wp2_with fail
      go_ret
      exact ⟨rfl, HD.below⟩
    · skip
      refine value_ (v := .string (strOfNums tcB)) (by rfl) rfl (run_str rfl rfl Try.underlying25 Try.underlying5 Try.underlying9 (HD.readsN (xs := tcB) (by repeat (first | exact Pick.here _ | apply Pick.there)))) ?_
      refine hK.out _ _ (HD.take (p := [blk g1 #[.bool true, .bool c1, .bool c2, .int .u64 r, .int .u32 co, .int .u64 br, .int .u16 po, .int .u16 q1, .int .u16 q2, .int .u16 q3, .int .u16 q4] 48]) (.cons (by repeat (first | exact Pick.here _ | apply Pick.there)) (.nil _))) (fun hHeld => ?_)
      clear hK K
      refine norm_ (a' := ?_) ?_ ?_
      rotate_left
      · show Act.put _ (some 10) _ = _
        simp only [Act.put, List.setIfInBounds_toArray, List.set_cons_zero, List.set_cons_succ, i64_w, i32_w]
        rfl
      refine one_ (i := 2) (N := some 7) #[true, true, true, true, true, true, false, false] rfl rfl (by kernel_rfl) (by decide) (fun K hK => ?_)
      refine value_ (v := .string (strOfNums tcB)) (by rfl) rfl (run_str rfl rfl Try.underlying25 Try.underlying5 Try.underlying9 (HD.readsN (xs := tcB) (by repeat (first | exact Pick.here _ | apply Pick.there)))) ?_
      refine hK.out _ _ (HD.take (p := [blk g1 #[.bool true, .bool c1, .bool c2, .int .u64 r, .int .u32 co, .int .u64 br, .int .u16 po, .int .u16 q1, .int .u16 q2, .int .u16 q3, .int .u16 q4] 48]) (.cons (by repeat (first | exact Pick.here _ | apply Pick.there)) (.nil _))) (fun hHeld => ?_)
      clear hK K
      refine norm_ (a' := ?_) ?_ ?_
      rotate_left
      · show Act.put _ (some 7) _ = _
        simp only [Act.put, List.setIfInBounds_toArray, List.set_cons_zero, List.set_cons_succ, i64_w, i32_w]
        rfl
      refine pure_ (i := 6) (N := some 11) (v := ?_) (a' := ?_) #[true, true, true, true, true, true, true, false] rfl rfl (by kernel_rfl) (fun _ _ _ h => h) (Or.inl ⟨by rfl, ?_⟩) ?_ ?_
      rotate_left
      · intro w'
        go_simp
        with_reducible rfl
      rotate_left
      · simp only [Act.put, List.setIfInBounds_toArray, List.set_cons_zero, List.set_cons_succ, i64_w, i32_w]
        rfl
      refine pure_ (i := 7) (N := some 2) (v := ?_) (a' := ?_) #[true, true, true, true, true, true, true, true] rfl rfl (by kernel_rfl) (fun _ _ _ h => h) (Or.inl ⟨by rfl, ?_⟩) ?_ ?_
      rotate_left
      · intro w'
        go_simp
        with_reducible rfl
      rotate_left
      · simp only [Act.put, List.setIfInBounds_toArray, List.set_cons_zero, List.set_cons_succ, i64_w, i32_w]
        rfl
      refine done_ (by kernel_rfl) ?_
      go_wp2_with fail
      go_ret
      exact ⟨rfl, HD.below⟩

set_option maxHeartbeats 1000000 in
set_option maxRecDepth 100000 in
theorem Puts_conf (w : World) (c1 c2 : Bool) (r co br po q1 q2 q3 q4 : Int) (r0 : 0 ≤ r ∧ r < 18446744073709551616) (co0 : 0 ≤ co ∧ co < 4294967296) (br0 : 0 ≤ br ∧ br < 18446744073709551616) (po0 : 0 ≤ po ∧ po < 65536) (q10 : 0 ≤ q1 ∧ q1 < 65536) (q20 : 0 ≤ q2 ∧ q2 < 65536) (q30 : 0 ≤ q3 ∧ q3 < 65536) (q40 : 0 ≤ q4 ∧ q4 < 65536) :
    Calls Try.prog 8 #[.agg #[.bool false, .bool c1, .bool c2, .int .u64 r, .int .u32 co, .int .u64 br, .int .u16 po, .int .u16 q1, .int .u16 q2, .int .u16 q3, .int .u16 q4]] w (fun e w' => e = .returned (.bool true) ∧ Below w.heap.size w w') := by
  have H := Hp.nothing w
  go_enter Try.func8, Try.ntmps8
  go_wp2_with (first | ((with_reducible refine gate_dst (N := 1) rfl ?_); refine ev_ rfl (H.box rfl (by first | (go_simp; done) | (go_simp; rfl)) rfl) ?_; rintro _ w1 ⟨g1, rfl, H1⟩; (try simp only [Value.cells] at H1); replace H := H1; clear H1) | (go_at_call 23; refine H.call1 (awake_calls _) ?_; intro w1 H1; replace H := H1; clear H1))
  refine startH H (n := 8) [] #[false, false, false, false, false, false, false, false] (by kernel_rfl) rfl rfl (fun hHeld => ?_)
  have HD := H.drew
  refine take_ (i := 0) (N := some 5) (v := _) (a' := ?_) #[true, false, false, false, false, false, false, false] rfl rfl (by kernel_rfl) (fun _ _ _ h => h) (Or.inl ⟨by rfl, fun w2 h => h.loadN 48 (.tmp 1) rfl rfl (by repeat (first | exact Pick.here _ | apply Pick.there)) #[.bool false, .bool c1, .bool c2, .int .u64 r, .int .u32 co, .int .u64 br, .int .u16 po, .int .u16 q1, .int .u16 q2, .int .u16 q3, .int .u16 q4] Try.underlying48 rfl info48s (fun j u hj => by simpa using hj)⟩) hHeld ?_ ?_
  rotate_left
  · simp only [Act.put, List.setIfInBounds_toArray, List.set_cons_zero, List.set_cons_succ, i64_w, i32_w]
    rfl
  refine take_ (i := 3) (N := some 8) (v := _) (a' := ?_) #[true, false, false, true, false, false, false, false] rfl rfl (by kernel_rfl) (fun _ _ _ h => h) (Or.inl ⟨by rfl, fun w2 h => h.loadN 48 (.tmp 1) rfl rfl (by repeat (first | exact Pick.here _ | apply Pick.there)) #[.bool false, .bool c1, .bool c2, .int .u64 r, .int .u32 co, .int .u64 br, .int .u16 po, .int .u16 q1, .int .u16 q2, .int .u16 q3, .int .u16 q4] Try.underlying48 rfl info48s (fun j u hj => by simpa using hj)⟩) hHeld ?_ ?_
  rotate_left
  · simp only [Act.put, List.setIfInBounds_toArray, List.set_cons_zero, List.set_cons_succ, i64_w, i32_w]
    rfl
  refine one_ (i := 1) (N := some 6) #[true, true, false, true, false, false, false, false] rfl rfl (by kernel_rfl) (by decide) (fun K hK => ?_)
  refine goes_ Try.func24 (by kernel_rfl) rfl #[.agg #[.bool false, .bool c1, .bool c2, .int .u64 r, .int .u32 co, .int .u64 br, .int .u16 po, .int .u16 q1, .int .u16 q2, .int .u16 q3, .int .u16 q4]] (by rfl) rfl rfl (by simp only [List.map_toArray, List.map_cons, List.map_nil]; rfl) ?_
  refine HD.call0 (BPut_conf _ c1 c2 r co br po q1 q2 q3 q4 r0 co0 br0 po0 q10 q20 q30 q40) ?_
  rintro v6 l1 w3 rfl H3
  obtain ⟨A6, c6, rfl, hc6, HC6⟩ := H3.reads (.here _)
  replace HD := H3
  clear H3 hc6 HC6
  refine ⟨_, rfl, ?_⟩
  refine hK.out _ _ (HD.take (p := [blk g1 #[.bool false, .bool c1, .bool c2, .int .u64 r, .int .u32 co, .int .u64 br, .int .u16 po, .int .u16 q1, .int .u16 q2, .int .u16 q3, .int .u16 q4] 48]) (.cons (by repeat (first | exact Pick.here _ | apply Pick.there)) (.nil _))) (fun hHeld => ?_)
  clear hK K
  refine norm_ (a' := ?_) ?_ ?_
  rotate_left
  · show Act.put _ (some 6) _ = _
    simp only [Act.put, List.setIfInBounds_toArray, List.set_cons_zero, List.set_cons_succ, i64_w, i32_w]
    rfl
  refine two_ (i := 2) (j := 4) (Ni := some 7) (Nj := some 9) #[true, true, true, true, false, false, false, false] #[true, true, false, true, true, false, false, false] rfl rfl rfl rfl (by kernel_rfl) (by decide) (by decide) (fun K hK => ?_) (fun K hK => ?_)
  · skip
    refine value_ (v := .string (strOfNums (confB c1 c2 r co br po q1 q2 q3 q4))) (by rfl) rfl (run_str rfl rfl Try.underlying25 Try.underlying5 Try.underlying9 (HD.readsN (xs := (confB c1 c2 r co br po q1 q2 q3 q4)) (by repeat (first | exact Pick.here _ | apply Pick.there)))) ?_
    refine hK.out _ _ (HD.take (p := [blk g1 #[.bool false, .bool c1, .bool c2, .int .u64 r, .int .u32 co, .int .u64 br, .int .u16 po, .int .u16 q1, .int .u16 q2, .int .u16 q3, .int .u16 q4] 48]) (.cons (by repeat (first | exact Pick.here _ | apply Pick.there)) (.nil _))) (fun hHeld => ?_)
    clear hK K
    refine norm_ (a' := ?_) ?_ ?_
    rotate_left
    · show Act.put _ (some 7) _ = _
      simp only [Act.put, List.setIfInBounds_toArray, List.set_cons_zero, List.set_cons_succ, i64_w, i32_w]
      rfl
    refine one_ (i := 4) (N := some 9) #[true, true, true, true, true, false, false, false] rfl rfl (by kernel_rfl) (by decide) (fun K hK => ?_)
    refine goes_ Try.func25 (by kernel_rfl) rfl #[.agg #[.bool false, .bool c1, .bool c2, .int .u64 r, .int .u32 co, .int .u64 br, .int .u16 po, .int .u16 q1, .int .u16 q2, .int .u16 q3, .int .u16 q4]] (by rfl) rfl rfl (by simp only [List.map_toArray, List.map_cons, List.map_nil]; rfl) ?_
    refine HD.call0 (RBPut_conf _ c1 c2 r co br po q1 q2 q3 q4 r0 co0 br0 po0 q10 q20 q30 q40) ?_
    rintro v6 l1 w3 rfl H3
    obtain ⟨A6, c6, rfl, hc6, HC6⟩ := H3.reads (.here _)
    replace HD := H3
    clear H3 hc6 HC6
    refine ⟨_, rfl, ?_⟩
    refine hK.out _ _ (HD.take (p := [blk g1 #[.bool false, .bool c1, .bool c2, .int .u64 r, .int .u32 co, .int .u64 br, .int .u16 po, .int .u16 q1, .int .u16 q2, .int .u16 q3, .int .u16 q4] 48]) (.cons (by repeat (first | exact Pick.here _ | apply Pick.there)) (.nil _))) (fun hHeld => ?_)
    clear hK K
    refine norm_ (a' := ?_) ?_ ?_
    rotate_left
    · show Act.put _ (some 9) _ = _
      simp only [Act.put, List.setIfInBounds_toArray, List.set_cons_zero, List.set_cons_succ, i64_w, i32_w]
      rfl
    refine one_ (i := 5) (N := some 10) #[true, true, true, true, true, true, false, false] rfl rfl (by kernel_rfl) (by decide) (fun K hK => ?_)
    refine value_ (v := .string (strOfNums (confB c1 c2 r co br po q1 q2 q3 q4))) (by rfl) rfl (run_str rfl rfl Try.underlying25 Try.underlying5 Try.underlying9 (HD.readsN (xs := (confB c1 c2 r co br po q1 q2 q3 q4)) (by repeat (first | exact Pick.here _ | apply Pick.there)))) ?_
    refine hK.out _ _ (HD.take (p := [blk g1 #[.bool false, .bool c1, .bool c2, .int .u64 r, .int .u32 co, .int .u64 br, .int .u16 po, .int .u16 q1, .int .u16 q2, .int .u16 q3, .int .u16 q4] 48]) (.cons (by repeat (first | exact Pick.here _ | apply Pick.there)) (.nil _))) (fun hHeld => ?_)
    clear hK K
    refine norm_ (a' := ?_) ?_ ?_
    rotate_left
    · show Act.put _ (some 10) _ = _
      simp only [Act.put, List.setIfInBounds_toArray, List.set_cons_zero, List.set_cons_succ, i64_w, i32_w]
      rfl
    refine pure_ (i := 6) (N := some 11) (v := ?_) (a' := ?_) #[true, true, true, true, true, true, true, false] rfl rfl (by kernel_rfl) (fun _ _ _ h => h) (Or.inl ⟨by rfl, ?_⟩) ?_ ?_
    rotate_left
    · intro w'
      go_simp
      with_reducible rfl
    rotate_left
    · simp only [Act.put, List.setIfInBounds_toArray, List.set_cons_zero, List.set_cons_succ, i64_w, i32_w]
      rfl
    refine pure_ (i := 7) (N := some 2) (v := ?_) (a' := ?_) #[true, true, true, true, true, true, true, true] rfl rfl (by kernel_rfl) (fun _ _ _ h => h) (Or.inl ⟨by rfl, ?_⟩) ?_ ?_
    rotate_left
    · intro w'
      go_simp
      with_reducible rfl
    rotate_left
    · simp only [Act.put, List.setIfInBounds_toArray, List.set_cons_zero, List.set_cons_succ, i64_w, i32_w]
      rfl
    refine done_ (by kernel_rfl) ?_
    go_wp2_with fail
    go_ret
    exact ⟨rfl, HD.below⟩
  · skip
    refine goes_ Try.func25 (by kernel_rfl) rfl #[.agg #[.bool false, .bool c1, .bool c2, .int .u64 r, .int .u32 co, .int .u64 br, .int .u16 po, .int .u16 q1, .int .u16 q2, .int .u16 q3, .int .u16 q4]] (by rfl) rfl rfl (by simp only [List.map_toArray, List.map_cons, List.map_nil]; rfl) ?_
    refine HD.call0 (RBPut_conf _ c1 c2 r co br po q1 q2 q3 q4 r0 co0 br0 po0 q10 q20 q30 q40) ?_
    rintro v6 l1 w3 rfl H3
    obtain ⟨A6, c6, rfl, hc6, HC6⟩ := H3.reads (.here _)
    replace HD := H3
    clear H3 hc6 HC6
    refine ⟨_, rfl, ?_⟩
    refine hK.out _ _ (HD.take (p := [blk g1 #[.bool false, .bool c1, .bool c2, .int .u64 r, .int .u32 co, .int .u64 br, .int .u16 po, .int .u16 q1, .int .u16 q2, .int .u16 q3, .int .u16 q4] 48]) (.cons (by repeat (first | exact Pick.here _ | apply Pick.there)) (.nil _))) (fun hHeld => ?_)
    clear hK K
    refine norm_ (a' := ?_) ?_ ?_
    rotate_left
    · show Act.put _ (some 9) _ = _
      simp only [Act.put, List.setIfInBounds_toArray, List.set_cons_zero, List.set_cons_succ, i64_w, i32_w]
      rfl
    refine two_ (i := 2) (j := 5) (Ni := some 7) (Nj := some 10) #[true, true, true, true, true, false, false, false] #[true, true, false, true, true, true, false, false] rfl rfl rfl rfl (by kernel_rfl) (by decide) (by decide) (fun K hK => ?_) (fun K hK => ?_)
    · skip
      refine value_ (v := .string (strOfNums (confB c1 c2 r co br po q1 q2 q3 q4))) (by rfl) rfl (run_str rfl rfl Try.underlying25 Try.underlying5 Try.underlying9 (HD.readsN (xs := (confB c1 c2 r co br po q1 q2 q3 q4)) (by repeat (first | exact Pick.here _ | apply Pick.there)))) ?_
      refine hK.out _ _ (HD.take (p := [blk g1 #[.bool false, .bool c1, .bool c2, .int .u64 r, .int .u32 co, .int .u64 br, .int .u16 po, .int .u16 q1, .int .u16 q2, .int .u16 q3, .int .u16 q4] 48]) (.cons (by repeat (first | exact Pick.here _ | apply Pick.there)) (.nil _))) (fun hHeld => ?_)
      clear hK K
      refine norm_ (a' := ?_) ?_ ?_
      rotate_left
      · show Act.put _ (some 7) _ = _
        simp only [Act.put, List.setIfInBounds_toArray, List.set_cons_zero, List.set_cons_succ, i64_w, i32_w]
        rfl
      refine one_ (i := 5) (N := some 10) #[true, true, true, true, true, true, false, false] rfl rfl (by kernel_rfl) (by decide) (fun K hK => ?_)
      refine value_ (v := .string (strOfNums (confB c1 c2 r co br po q1 q2 q3 q4))) (by rfl) rfl (run_str rfl rfl Try.underlying25 Try.underlying5 Try.underlying9 (HD.readsN (xs := (confB c1 c2 r co br po q1 q2 q3 q4)) (by repeat (first | exact Pick.here _ | apply Pick.there)))) ?_
      refine hK.out _ _ (HD.take (p := [blk g1 #[.bool false, .bool c1, .bool c2, .int .u64 r, .int .u32 co, .int .u64 br, .int .u16 po, .int .u16 q1, .int .u16 q2, .int .u16 q3, .int .u16 q4] 48]) (.cons (by repeat (first | exact Pick.here _ | apply Pick.there)) (.nil _))) (fun hHeld => ?_)
      clear hK K
      refine norm_ (a' := ?_) ?_ ?_
      rotate_left
      · show Act.put _ (some 10) _ = _
        simp only [Act.put, List.setIfInBounds_toArray, List.set_cons_zero, List.set_cons_succ, i64_w, i32_w]
        rfl
      refine pure_ (i := 6) (N := some 11) (v := ?_) (a' := ?_) #[true, true, true, true, true, true, true, false] rfl rfl (by kernel_rfl) (fun _ _ _ h => h) (Or.inl ⟨by rfl, ?_⟩) ?_ ?_
      rotate_left
      · intro w'
        go_simp
        with_reducible rfl
      rotate_left
      · simp only [Act.put, List.setIfInBounds_toArray, List.set_cons_zero, List.set_cons_succ, i64_w, i32_w]
        rfl
      refine pure_ (i := 7) (N := some 2) (v := ?_) (a' := ?_) #[true, true, true, true, true, true, true, true] rfl rfl (by kernel_rfl) (fun _ _ _ h => h) (Or.inl ⟨by rfl, ?_⟩) ?_ ?_
      rotate_left
      · intro w'
        go_simp
        with_reducible rfl
      rotate_left
      · simp only [Act.put, List.setIfInBounds_toArray, List.set_cons_zero, List.set_cons_succ, i64_w, i32_w]
        rfl
      refine done_ (by kernel_rfl) ?_
      go_wp2_with fail
      go_ret
      exact ⟨rfl, HD.below⟩
    · skip
      refine value_ (v := .string (strOfNums (confB c1 c2 r co br po q1 q2 q3 q4))) (by rfl) rfl (run_str rfl rfl Try.underlying25 Try.underlying5 Try.underlying9 (HD.readsN (xs := (confB c1 c2 r co br po q1 q2 q3 q4)) (by repeat (first | exact Pick.here _ | apply Pick.there)))) ?_
      refine hK.out _ _ (HD.take (p := [blk g1 #[.bool false, .bool c1, .bool c2, .int .u64 r, .int .u32 co, .int .u64 br, .int .u16 po, .int .u16 q1, .int .u16 q2, .int .u16 q3, .int .u16 q4] 48]) (.cons (by repeat (first | exact Pick.here _ | apply Pick.there)) (.nil _))) (fun hHeld => ?_)
      clear hK K
      refine norm_ (a' := ?_) ?_ ?_
      rotate_left
      · show Act.put _ (some 10) _ = _
        simp only [Act.put, List.setIfInBounds_toArray, List.set_cons_zero, List.set_cons_succ, i64_w, i32_w]
        rfl
      refine one_ (i := 2) (N := some 7) #[true, true, true, true, true, true, false, false] rfl rfl (by kernel_rfl) (by decide) (fun K hK => ?_)
      refine value_ (v := .string (strOfNums (confB c1 c2 r co br po q1 q2 q3 q4))) (by rfl) rfl (run_str rfl rfl Try.underlying25 Try.underlying5 Try.underlying9 (HD.readsN (xs := (confB c1 c2 r co br po q1 q2 q3 q4)) (by repeat (first | exact Pick.here _ | apply Pick.there)))) ?_
      refine hK.out _ _ (HD.take (p := [blk g1 #[.bool false, .bool c1, .bool c2, .int .u64 r, .int .u32 co, .int .u64 br, .int .u16 po, .int .u16 q1, .int .u16 q2, .int .u16 q3, .int .u16 q4] 48]) (.cons (by repeat (first | exact Pick.here _ | apply Pick.there)) (.nil _))) (fun hHeld => ?_)
      clear hK K
      refine norm_ (a' := ?_) ?_ ?_
      rotate_left
      · show Act.put _ (some 7) _ = _
        simp only [Act.put, List.setIfInBounds_toArray, List.set_cons_zero, List.set_cons_succ, i64_w, i32_w]
        rfl
      refine pure_ (i := 6) (N := some 11) (v := ?_) (a' := ?_) #[true, true, true, true, true, true, true, false] rfl rfl (by kernel_rfl) (fun _ _ _ h => h) (Or.inl ⟨by rfl, ?_⟩) ?_ ?_
      rotate_left
      · intro w'
        go_simp
        with_reducible rfl
      rotate_left
      · simp only [Act.put, List.setIfInBounds_toArray, List.set_cons_zero, List.set_cons_succ, i64_w, i32_w]
        rfl
      refine pure_ (i := 7) (N := some 2) (v := ?_) (a' := ?_) #[true, true, true, true, true, true, true, true] rfl rfl (by kernel_rfl) (fun _ _ _ h => h) (Or.inl ⟨by rfl, ?_⟩) ?_ ?_
      rotate_left
      · intro w'
        go_simp
        with_reducible rfl
      rotate_left
      · simp only [Act.put, List.setIfInBounds_toArray, List.set_cons_zero, List.set_cons_succ, i64_w, i32_w]
        rfl
      refine done_ (by kernel_rfl) ?_
      go_wp2_with fail
      go_ret
      exact ⟨rfl, HD.below⟩

theorem BpduPuts (W : World) (x : Bool × Bool × Bool × Int × Int × Int × Int × Int × Int × Int × Int) (w0 : True ∧ True ∧ True ∧ (Lit.int .u64 x.2.2.2.1).wf = true ∧ (Lit.int .u32 x.2.2.2.2.1).wf = true ∧ (Lit.int .u64 x.2.2.2.2.2.1).wf = true ∧ (Lit.int .u16 x.2.2.2.2.2.2.1).wf = true ∧ (Lit.int .u16 x.2.2.2.2.2.2.2.1).wf = true ∧ (Lit.int .u16 x.2.2.2.2.2.2.2.2.1).wf = true ∧ (Lit.int .u16 x.2.2.2.2.2.2.2.2.2.1).wf = true ∧ (Lit.int .u16 x.2.2.2.2.2.2.2.2.2.2).wf = true) : Calls Try.prog 8 #[.agg #[.bool x.1, .bool x.2.1, .bool x.2.2.1, .int .u64 x.2.2.2.1, .int .u32 x.2.2.2.2.1, .int .u64 x.2.2.2.2.2.1, .int .u16 x.2.2.2.2.2.2.1, .int .u16 x.2.2.2.2.2.2.2.1, .int .u16 x.2.2.2.2.2.2.2.2.1, .int .u16 x.2.2.2.2.2.2.2.2.2.1, .int .u16 x.2.2.2.2.2.2.2.2.2.2]] W (fun e w' => e = .returned (.bool true) ∧ Below W.heap.size W w') := by
  obtain ⟨t, c1, c2, r, co, br, po, q1, q2, q3, q4⟩ := x
  obtain ⟨-, -, -, w1, w2, w3, w4, w5, w6, w7, w8⟩ := w0
  dsimp only at *
  cases t
  · exact Puts_conf W c1 c2 r co br po q1 q2 q3 q4 (Ar.wf_u64 w1) (Ar.wf_u32 w2) (Ar.wf_u64 w3) (Ar.wf_u16 w4) (Ar.wf_u16 w5) (Ar.wf_u16 w6) (Ar.wf_u16 w7) (Ar.wf_u16 w8)
  · exact Puts_tc W c1 c2 r co br po q1 q2 q3 q4 (Ar.wf_u64 w1) (Ar.wf_u32 w2) (Ar.wf_u64 w3) (Ar.wf_u16 w4) (Ar.wf_u16 w5) (Ar.wf_u16 w6) (Ar.wf_u16 w7) (Ar.wf_u16 w8)

end Go.Proofs.Ytdmlpcbmmdddbaa.Pure
