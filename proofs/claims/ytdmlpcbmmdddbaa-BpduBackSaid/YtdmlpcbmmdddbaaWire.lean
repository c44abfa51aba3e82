/- What the functions of wire come to: its reader's, and Put at each kind of numbers. Walked by hand. -/
import Derived.Test.YtdmlpcbmmdddbaaSep
import Derived.Test.YtdmlpcbmmdddbaaAr
import Derived.Test.YtdmlpcbmmdddbaaProg
namespace Go.Proofs.Ytdmlpcbmmdddbaa.Wire
open Go.RowKit Go.Proofs.YtdmlpcbmmdddbaaW.PrintWords Go.Proofs.YtdmlpcbmmdddbaaW.PrintLast Go.Proofs.YtdmlpcbmmdddbaaW.PrintMore
set_option linter.unusedVariables false
set_option linter.unusedSimpArgs false
open Go.Proofs.Ytdmlpcbmmdddbaa.Sep
theorem info5 : (Try.prog.info? 5).map (fun i => (i.zero, i.size, i.bytes)) = some (some (.int .u8 0), 1, 1) := by kernel_rfl
/-- A reader at block g: its bytes, how many of them are read, whether it came to the end too soon. -/
def reader (g : Nat) (bs : List Int) (i : Nat) (en : Bool) : SP := ex fun v : Value => star [blk g #[v, .int .i64 (i : Int), .bool en] 77, row (Kd.int .u8) 5 v bs]
set_option maxHeartbeats 1000000 in
set_option maxRecDepth 100000 in
theorem New_calls (w : World) (A : Option Addr) (n c : Nat) (bs : List Int) (hc : (Kd.int .u8).C w A n bs) (hn : n ≤ 140737488351232) :
    Calls Try.prog 33 #[.slice A n c] w (Ret (fun _ => False) w fun v l => ∃ g, v = .pointer (some ⟨g, 0, none⟩) ∧ l = [reader g bs 0 false]) := by
  have H := Hp.nothing w
  have HC := Aside0.mk hc
  clear hc
  go_enter Try.func33, Try.ntmps33
  go_wp2_with (first
    | ((with_reducible refine gate_dst (N := 3) rfl ?_); refine ev_ rfl (H.lit (cs := #[]) (e := 5) (n := 0) (by first | (go_simp; done) | (go_simp; rfl))) ?_; rintro v w1 ⟨g, rfl, H1⟩; replace H := Hp.blk_row (d := Kd.int .u8) [] H1 (.cons (.here _) (.nil _)) (fun _ _ => reps_nil _ _ rfl rfl) rfl (Nat.zero_le _))
    | ((with_reducible refine gate_dst (N := 5) rfl ?_); refine ev_ rfl (H.appendS (.tmp 3) (.tmp 4) 25 (.int .u8 0) 1 rfl rfl (.here _) Try.underlying25 info5 rfl (by decide) rfl (H.data HC.out) (by simp; omega)) ?_; intro v5 w5 H1; obtain ⟨A5, c5, rfl, -, -⟩ := H1.reads (.here _); replace H := H1)
    | ((with_reducible refine gate_dst (N := 7) rfl ?_); refine ev_ rfl (H.new (cs := #[.slice A5 ([] ++ bs).length c5, .int .i64 0, .bool false]) (t := 77) (by first | (go_simp; done) | (go_simp; rfl))) ?_; rintro v w7 ⟨g, rfl, H1⟩; replace H := H1))
  go_ret
  exact ⟨_, _, rfl, ⟨_, rfl, rfl⟩, (H.shut_star (.cons (.here _) (.cons (.here _) (.nil _)))).shut_ex _ (f := fun v => star [blk g #[v, .int .i64 ((0 : Nat) : Int), .bool false] 77, row (Kd.int .u8) 5 v ([] ++ bs)]) (.here _)⟩
theorem info5s : (Try.prog.info? 5).map (·.size) = some 1 := by kernel_rfl
theorem cast_cut (n i : Nat) : ((i : Nat) : Int) = (i : Int) := rfl
set_option maxHeartbeats 1000000 in
set_option maxRecDepth 100000 in
theorem Rest_calls (w : World) (g : Nat) (bs : List Int) (i : Nat) (en : Bool) (F : Nat → Prop) (hA : All [reader g bs i en] F w) (hF : ∀ k, F k → k < w.heap.size) (hi : i ≤ bs.length) (hn : bs.length ≤ 140737488351232) :
    Calls Try.prog 37 #[.pointer (some ⟨g, 0, none⟩)] w (Ret F w fun v l => l = [row (Kd.int .u8) 5 v (bs.drop i), reader g bs i en]) := by
  obtain ⟨v0, H⟩ := Hp.open_ex (Hp.start F w hA hF) (.here _)
  replace H := H.open_star (.here _)
  obtain ⟨A0, c0, rfl, hc0, HC0⟩ := H.reads (.there _ (.here _))
  replace HC0 := Aside0.mk HC0
  replace hc0 := Aside0.mk hc0
  go_enter Try.func37, Try.ntmps37
  go_wp2_with fail
  refine startH H (n := 12) [] #[false, false, false, false, false, false, false, false, false, false, false, false] (by kernel_rfl) rfl rfl (fun hHeld => ?_)
  refine pure_ (i := 1) (N := some 4) (v := ?_) (a' := ?_) #[false, true, false, false, false, false, false, false, false, false, false, false] rfl rfl (by kernel_rfl) (fun _ _ _ h => h) (Or.inl ⟨by rfl, ?_⟩) ?_ ?_
  rotate_left
  · intro w'
    go_simp
    with_reducible rfl
  rotate_left
  · simp only [Act.put, List.setIfInBounds_toArray, List.set_cons_zero, List.set_cons_succ, i64_w, i32_w]
    rfl
  refine pure_ (i := 2) (N := some 5) (v := ?_) (a' := ?_) #[false, true, true, false, false, false, false, false, false, false, false, false] rfl rfl (by kernel_rfl) (fun _ _ _ h => h) (Or.inl ⟨by rfl, ?_⟩) ?_ ?_
  rotate_left
  · intro w'
    go_simp
    with_reducible rfl
  rotate_left
  · simp only [Act.put, List.setIfInBounds_toArray, List.set_cons_zero, List.set_cons_succ, i64_w, i32_w]
    rfl
  refine pure_ (i := 3) (N := some 6) (v := ?_) (a' := ?_) #[false, true, true, true, false, false, false, false, false, false, false, false] rfl rfl (by kernel_rfl) (fun _ _ _ h => h) (Or.inl ⟨by rfl, ?_⟩) ?_ ?_
  rotate_left
  · intro w'
    go_simp
    with_reducible rfl
  rotate_left
  · simp only [Act.put, List.setIfInBounds_toArray, List.set_cons_zero, List.set_cons_succ, i64_w, i32_w]
    rfl
  refine pure_ (i := 5) (N := some 8) (v := ?_) (a' := ?_) #[false, true, true, true, false, true, false, false, false, false, false, false] rfl rfl (by kernel_rfl) (fun _ _ _ h => h) (Or.inl ⟨by rfl, ?_⟩) ?_ ?_
  rotate_left
  · intro w'
    go_simp
    with_reducible rfl
  rotate_left
  · simp only [Act.put, List.setIfInBounds_toArray, List.set_cons_zero, List.set_cons_succ, i64_w, i32_w]
    rfl
  refine pure_ (i := 6) (N := some 9) (v := ?_) (a' := ?_) #[false, true, true, true, false, true, true, false, false, false, false, false] rfl rfl (by kernel_rfl) (fun _ _ _ h => h) (Or.inl ⟨by rfl, ?_⟩) ?_ ?_
  rotate_left
  · intro w'
    go_simp
    with_reducible rfl
  rotate_left
  · simp only [Act.put, List.setIfInBounds_toArray, List.set_cons_zero, List.set_cons_succ, i64_w, i32_w]
    rfl
  refine pure_ (i := 7) (N := some 10) (v := ?_) (a' := ?_) #[false, true, true, true, false, true, true, true, false, false, false, false] rfl rfl (by kernel_rfl) (fun _ _ _ h => h) (Or.inl ⟨by rfl, ?_⟩) ?_ ?_
  rotate_left
  · intro w'
    go_simp
    with_reducible rfl
  rotate_left
  · simp only [Act.put, List.setIfInBounds_toArray, List.set_cons_zero, List.set_cons_succ, i64_w, i32_w]
    rfl
  refine take_ (i := 4) (N := some 7) (v := _) (a' := ?_) #[false, true, true, true, true, true, true, true, false, false, false, false] rfl rfl (by kernel_rfl) (fun _ _ _ h => h) (Or.inl ⟨by rfl, fun w2 h => h.load1 25 (.tmp 6) rfl rfl (.here _) Try.underlying25 rfl rfl⟩) hHeld ?_ ?_
  rotate_left
  · simp only [Act.put, List.setIfInBounds_toArray, List.set_cons_zero, List.set_cons_succ, i64_w, i32_w]
    rfl
  refine take_ (i := 8) (N := some 11) (v := _) (a' := ?_) #[false, true, true, true, true, true, true, true, true, false, false, false] rfl rfl (by kernel_rfl) (fun _ _ _ h => h) (Or.inl ⟨by rfl, fun w2 h => h.load1 3 (.tmp 10) rfl rfl (.here _) Try.underlying3 rfl rfl⟩) hHeld ?_ ?_
  rotate_left
  · simp only [Act.put, List.setIfInBounds_toArray, List.set_cons_zero, List.set_cons_succ, i64_w, i32_w]
    rfl
  refine pure_ (i := 9) (N := some 12) (v := .slice (cutA A0 c0 i) (bs.length - i) (c0 - i)) (a' := ?_) #[false, true, true, true, true, true, true, true, true, true, false, false] rfl rfl (by kernel_rfl) (fun _ _ _ h => h) (Or.inl ⟨by rfl, run_cut (t := 25) (e := 5) rfl rfl rfl Try.underlying25 info5s hi⟩) ?_ ?_
  rotate_left
  · simp only [Act.put, List.setIfInBounds_toArray, List.set_cons_zero, List.set_cons_succ, i64_w, i32_w]
    rfl
  refine one_ (i := 0) (N := some 3) #[true, true, true, true, true, true, true, true, true, true, false, false] rfl rfl (by kernel_rfl) (by decide) (fun K hK => ?_)
  refine step_ (by rfl) rfl (hHeld.lit (cs := #[]) (e := 5) (n := 0) (by first | (go_simp; done) | (go_simp; rfl))) ?_
  rintro v w3 ⟨g3, rfl, H3⟩
  refine hK.out _ _ (H3.drop (.cons (.here _) (.nil _))) (fun hHeld => ?_)
  clear hK K
  refine norm_ (a' := ?_) ?_ ?_
  rotate_left
  · show Act.put _ (some 3) _ = _
    simp only [Act.put, List.setIfInBounds_toArray, List.set_cons_zero, List.set_cons_succ, i64_w, i32_w]
    rfl
  refine one_ (i := 10) (N := some 13) #[true, true, true, true, true, true, true, true, true, true, true, false] rfl rfl (by kernel_rfl) (by decide) (fun K hK => ?_)
  have H4 := Hp.blk_row (d := Kd.int .u8) [] H3 (.cons (.here _) (.nil _)) (fun _ _ => reps_nil _ _ rfl rfl) rfl (Nat.zero_le _)
  have HC4 := C_cutS (h1 := fun _ => rfl) (H4.reads' (.there _ (.there _ (.here _)))).2.2 i hi hc0.out
  refine step_ (by rfl) rfl (H4.appendS (.tmp 3) (.tmp 12) 25 (.int .u8 0) 1 rfl rfl (.here _) Try.underlying25 info5 rfl (by decide) rfl HC4 (by simp; omega)) ?_
  rintro v5 w5 H5
  refine hK.out _ _ (H5.drop (.cons (.here _) (.nil _))) (fun hHeld => ?_)
  clear hK K
  refine norm_ (a' := ?_) ?_ ?_
  rotate_left
  · show Act.put _ (some 13) _ = _
    simp only [Act.put, List.setIfInBounds_toArray, List.set_cons_zero, List.set_cons_succ, i64_w, i32_w]
    rfl
  refine pure_ (i := 11) (N := some 2) (v := ?_) (a' := ?_) #[true, true, true, true, true, true, true, true, true, true, true, true] rfl rfl (by kernel_rfl) (fun _ _ _ h => h) (Or.inl ⟨by rfl, ?_⟩) ?_ ?_
  rotate_left
  · intro w'
    go_simp
    with_reducible rfl
  rotate_left
  · simp only [Act.put, List.setIfInBounds_toArray, List.set_cons_zero, List.set_cons_succ, i64_w, i32_w]
    rfl
  refine done_ (by kernel_rfl) ?_
  go_wp2_with fail
  go_ret
  exact ⟨_, _, rfl, rfl, ((H5.shut_star (.cons (.there _ (.here _)) (.cons (.there _ (.here _)) (.nil _)))).shut_ex _ (f := fun v => star [blk g #[v, .int .i64 (i : Int), .bool en] 77, row (Kd.int .u8) 5 v bs]) (.here _)).imp (bs := [row (Kd.int .u8) 5 _ (bs.drop i), reader g bs i en]) (.cons (.there _ (.here _)) (.cons (.here _) (.nil _))) (fun G h => h)⟩

theorem info3s : (Try.prog.info? 3).map (·.size) = some 1 := by kernel_rfl
theorem info4s : (Try.prog.info? 4).map (·.size) = some 1 := by kernel_rfl

set_option maxHeartbeats 1000000 in
set_option maxRecDepth 100000 in
theorem Bytes_neg (w : World) (g : Nat) (bs : List Int) (i : Nat) (n : Int) (en : Bool) (F : Nat → Prop) (hA : All [reader g bs i en] F w) (hF : ∀ k, F k → k < w.heap.size) (h : n < 0) :
    Calls Try.prog 36 #[.pointer (some ⟨g, 0, none⟩), .int .i64 n] w (Ret F w fun v l => v = .slice none 0 0 ∧ l = [reader g bs i true]) := by
  obtain ⟨v0, H⟩ := Hp.open_ex (Hp.start F w hA hF) (.here _)
  replace H := H.open_star (.here _)
  obtain ⟨A0, c0, rfl, hc0, HC0⟩ := H.reads (.there _ (.here _))
  have c1 : decide (n < 0) = true := decide_eq_true h
  clear HC0 hc0
  go_enter Try.func36, Try.ntmps36
  go_wp2_with fail
  refine startH H (n := 22) [] #[false, false, false, false, false, false, false, false, false, false, false, false, false, false, false, false, false, false, false, false, false, false] (by kernel_rfl) rfl rfl (fun hHeld => ?_)
  refine pure_ (i := 0) (N := some 6) (v := ?_) (a' := ?_) #[true, false, false, false, false, false, false, false, false, false, false, false, false, false, false, false, false, false, false, false, false, false] rfl rfl (by kernel_rfl) (fun _ _ _ h => h) (Or.inl ⟨by rfl, ?_⟩) ?_ ?_
  rotate_left
  · intro w'
    go_simp
    with_reducible rfl
  rotate_left
  · simp only [Act.put, List.setIfInBounds_toArray, List.set_cons_zero, List.set_cons_succ, i64_w, i32_w]
    rfl
  refine pure_ (i := 1) (N := some 7) (v := ?_) (a' := ?_) #[true, true, false, false, false, false, false, false, false, false, false, false, false, false, false, false, false, false, false, false, false, false] rfl rfl (by kernel_rfl) (fun _ _ _ h => h) (Or.inl ⟨by rfl, ?_⟩) ?_ ?_
  rotate_left
  · intro w'
    go_simp
    with_reducible rfl
  rotate_left
  · simp only [Act.put, List.setIfInBounds_toArray, List.set_cons_zero, List.set_cons_succ, i64_w, i32_w]
    rfl
  refine pure_ (i := 2) (N := some 8) (v := ?_) (a' := ?_) #[true, true, true, false, false, false, false, false, false, false, false, false, false, false, false, false, false, false, false, false, false, false] rfl rfl (by kernel_rfl) (fun _ _ _ h => h) (Or.inl ⟨by rfl, ?_⟩) ?_ ?_
  rotate_left
  · intro w'
    go_simp
    with_reducible rfl
  rotate_left
  · simp only [Act.put, List.setIfInBounds_toArray, List.set_cons_zero, List.set_cons_succ, i64_w, i32_w]
    rfl
  refine pure_ (i := 3) (N := some 9) (v := undef) (a' := ?_) #[true, true, true, true, false, false, false, false, false, false, false, false, false, false, false, false, false, false, false, false, false, false] rfl rfl (by kernel_rfl) (fun _ _ _ h => h) (Or.inr ⟨by rfl, rfl⟩) ?_ ?_
  rotate_left
  · simp only [Act.put, List.setIfInBounds_toArray, List.set_cons_zero, List.set_cons_succ, i64_w, i32_w]
    rfl
  refine pure_ (i := 4) (N := some 10) (v := undef) (a' := ?_) #[true, true, true, true, true, false, false, false, false, false, false, false, false, false, false, false, false, false, false, false, false, false] rfl rfl (by kernel_rfl) (fun _ _ _ h => h) (Or.inr ⟨by rfl, rfl⟩) ?_ ?_
  rotate_left
  · simp only [Act.put, List.setIfInBounds_toArray, List.set_cons_zero, List.set_cons_succ, i64_w, i32_w]
    rfl
  refine pure_ (i := 5) (N := some 11) (v := undef) (a' := ?_) #[true, true, true, true, true, true, false, false, false, false, false, false, false, false, false, false, false, false, false, false, false, false] rfl rfl (by kernel_rfl) (fun _ _ _ h => h) (Or.inr ⟨by rfl, rfl⟩) ?_ ?_
  rotate_left
  · simp only [Act.put, List.setIfInBounds_toArray, List.set_cons_zero, List.set_cons_succ, i64_w, i32_w]
    rfl
  refine pure_ (i := 6) (N := some 12) (v := undef) (a' := ?_) #[true, true, true, true, true, true, true, false, false, false, false, false, false, false, false, false, false, false, false, false, false, false] rfl rfl (by kernel_rfl) (fun _ _ _ h => h) (Or.inr ⟨by rfl, rfl⟩) ?_ ?_
  rotate_left
  · simp only [Act.put, List.setIfInBounds_toArray, List.set_cons_zero, List.set_cons_succ, i64_w, i32_w]
    rfl
  refine pure_ (i := 7) (N := some 13) (v := ?_) (a' := ?_) #[true, true, true, true, true, true, true, true, false, false, false, false, false, false, false, false, false, false, false, false, false, false] rfl rfl (by kernel_rfl) (fun _ _ _ h => h) (Or.inl ⟨by rfl, ?_⟩) ?_ ?_
  rotate_left
  · intro w'
    go_simp
    with_reducible rfl
  rotate_left
  · simp only [Act.put, List.setIfInBounds_toArray, List.set_cons_zero, List.set_cons_succ, i64_w, i32_w]
    rfl
  refine pure_ (i := 8) (N := some 14) (v := ?_) (a' := ?_) #[true, true, true, true, true, true, true, true, true, false, false, false, false, false, false, false, false, false, false, false, false, false] rfl rfl (by kernel_rfl) (fun _ _ _ h => h) (Or.inl ⟨by rfl, ?_⟩) ?_ ?_
  rotate_left
  · intro w'
    go_simp
    with_reducible rfl
  rotate_left
  · simp only [Act.put, List.setIfInBounds_toArray, List.set_cons_zero, List.set_cons_succ, i64_w, i32_w]
    rfl
  refine pure_ (i := 9) (N := some 15) (v := undef) (a' := ?_) #[true, true, true, true, true, true, true, true, true, true, false, false, false, false, false, false, false, false, false, false, false, false] rfl rfl (by kernel_rfl) (fun _ _ _ h => h) (Or.inr ⟨by rfl, rfl⟩) ?_ ?_
  rotate_left
  · simp only [Act.put, List.setIfInBounds_toArray, List.set_cons_zero, List.set_cons_succ, i64_w, i32_w]
    rfl
  refine pure_ (i := 10) (N := some 16) (v := undef) (a' := ?_) #[true, true, true, true, true, true, true, true, true, true, true, false, false, false, false, false, false, false, false, false, false, false] rfl rfl (by kernel_rfl) (fun _ _ _ h => h) (Or.inr ⟨by rfl, rfl⟩) ?_ ?_
  rotate_left
  · simp only [Act.put, List.setIfInBounds_toArray, List.set_cons_zero, List.set_cons_succ, i64_w, i32_w]
    rfl
  refine pure_ (i := 11) (N := some 17) (v := undef) (a' := ?_) #[true, true, true, true, true, true, true, true, true, true, true, true, false, false, false, false, false, false, false, false, false, false] rfl rfl (by kernel_rfl) (fun _ _ _ h => h) (Or.inr ⟨by rfl, rfl⟩) ?_ ?_
  rotate_left
  · simp only [Act.put, List.setIfInBounds_toArray, List.set_cons_zero, List.set_cons_succ, i64_w, i32_w]
    rfl
  refine pure_ (i := 12) (N := some 18) (v := undef) (a' := ?_) #[true, true, true, true, true, true, true, true, true, true, true, true, true, false, false, false, false, false, false, false, false, false] rfl rfl (by kernel_rfl) (fun _ _ _ h => h) (Or.inr ⟨by rfl, rfl⟩) ?_ ?_
  rotate_left
  · simp only [Act.put, List.setIfInBounds_toArray, List.set_cons_zero, List.set_cons_succ, i64_w, i32_w]
    rfl
  refine pure_ (i := 13) (N := some 19) (v := undef) (a' := ?_) #[true, true, true, true, true, true, true, true, true, true, true, true, true, true, false, false, false, false, false, false, false, false] rfl rfl (by kernel_rfl) (fun _ _ _ h => h) (Or.inr ⟨by rfl, rfl⟩) ?_ ?_
  rotate_left
  · simp only [Act.put, List.setIfInBounds_toArray, List.set_cons_zero, List.set_cons_succ, i64_w, i32_w]
    rfl
  refine pure_ (i := 14) (N := some 20) (v := undef) (a' := ?_) #[true, true, true, true, true, true, true, true, true, true, true, true, true, true, true, false, false, false, false, false, false, false] rfl rfl (by kernel_rfl) (fun _ _ _ h => h) (Or.inr ⟨by rfl, rfl⟩) ?_ ?_
  rotate_left
  · simp only [Act.put, List.setIfInBounds_toArray, List.set_cons_zero, List.set_cons_succ, i64_w, i32_w]
    rfl
  refine pure_ (i := 15) (N := some 21) (v := undef) (a' := ?_) #[true, true, true, true, true, true, true, true, true, true, true, true, true, true, true, true, false, false, false, false, false, false] rfl rfl (by kernel_rfl) (fun _ _ _ h => h) (Or.inr ⟨by rfl, rfl⟩) ?_ ?_
  rotate_left
  · simp only [Act.put, List.setIfInBounds_toArray, List.set_cons_zero, List.set_cons_succ, i64_w, i32_w]
    rfl
  refine pure_ (i := 16) (N := some 22) (v := undef) (a' := ?_) #[true, true, true, true, true, true, true, true, true, true, true, true, true, true, true, true, true, false, false, false, false, false] rfl rfl (by kernel_rfl) (fun _ _ _ h => h) (Or.inr ⟨by rfl, rfl⟩) ?_ ?_
  rotate_left
  · simp only [Act.put, List.setIfInBounds_toArray, List.set_cons_zero, List.set_cons_succ, i64_w, i32_w]
    rfl
  refine pure_ (i := 17) (N := some 23) (v := undef) (a' := ?_) #[true, true, true, true, true, true, true, true, true, true, true, true, true, true, true, true, true, true, false, false, false, false] rfl rfl (by kernel_rfl) (fun _ _ _ h => h) (Or.inr ⟨by rfl, rfl⟩) ?_ ?_
  rotate_left
  · simp only [Act.put, List.setIfInBounds_toArray, List.set_cons_zero, List.set_cons_succ, i64_w, i32_w]
    rfl
  refine pure_ (i := 18) (N := some 24) (v := undef) (a' := ?_) #[true, true, true, true, true, true, true, true, true, true, true, true, true, true, true, true, true, true, true, false, false, false] rfl rfl (by kernel_rfl) (fun _ _ _ h => h) (Or.inr ⟨by rfl, rfl⟩) ?_ ?_
  rotate_left
  · simp only [Act.put, List.setIfInBounds_toArray, List.set_cons_zero, List.set_cons_succ, i64_w, i32_w]
    rfl
  refine pure_ (i := 19) (N := some 25) (v := undef) (a' := ?_) #[true, true, true, true, true, true, true, true, true, true, true, true, true, true, true, true, true, true, true, true, false, false] rfl rfl (by kernel_rfl) (fun _ _ _ h => h) (Or.inr ⟨by rfl, rfl⟩) ?_ ?_
  rotate_left
  · simp only [Act.put, List.setIfInBounds_toArray, List.set_cons_zero, List.set_cons_succ, i64_w, i32_w]
    rfl
  refine pure_ (i := 20) (N := some 26) (v := undef) (a' := ?_) #[true, true, true, true, true, true, true, true, true, true, true, true, true, true, true, true, true, true, true, true, true, false] rfl rfl (by kernel_rfl) (fun _ _ _ h => h) (Or.inr ⟨by rfl, rfl⟩) ?_ ?_
  rotate_left
  · simp only [Act.put, List.setIfInBounds_toArray, List.set_cons_zero, List.set_cons_succ, i64_w, i32_w]
    rfl
  refine pure_ (i := 21) (N := some 27) (v := ?_) (a' := ?_) #[true, true, true, true, true, true, true, true, true, true, true, true, true, true, true, true, true, true, true, true, true, true] rfl rfl (by kernel_rfl) (fun _ _ _ h => h) (Or.inl ⟨by rfl, ?_⟩) ?_ ?_
  rotate_left
  · intro w'
    go_simp
    with_reducible rfl
  rotate_left
  · simp only [Act.put, List.setIfInBounds_toArray, List.set_cons_zero, List.set_cons_succ, i64_w, i32_w]
    rfl
  refine done_ (by kernel_rfl) ?_
  replace H := hHeld
  go_wp2_with (first | ((with_reducible refine gate_store (p := 30) rfl ?_); refine ev_ rfl (H.store 4 (.tmp 30) (.const (.bool true)) rfl rfl (.here _) rfl #[.bool true] rfl info4s (by simp [Value.oneCell']) (by simp) (cs' := #[.slice A0 bs.length c0, .int .i64 (i : Int), .bool true]) rfl) ?_; rintro _ w1 ⟨rfl, H1⟩; replace H := H1))
  go_ret
  exact ⟨_, _, rfl, ⟨rfl, rfl⟩, (H.shut_star (.cons (.here _) (.cons (.here _) (.nil _)))).shut_ex _ (f := fun v => star [blk g #[v, .int .i64 (i : Int), .bool true] 77, row (Kd.int .u8) 5 v bs]) (.here _)⟩

set_option maxHeartbeats 1000000 in
set_option maxRecDepth 100000 in
theorem Bytes_end (w : World) (g : Nat) (bs : List Int) (i : Nat) (n : Int) (F : Nat → Prop) (hA : All [reader g bs i true] F w) (hF : ∀ k, F k → k < w.heap.size) (h : 0 ≤ n) :
    Calls Try.prog 36 #[.pointer (some ⟨g, 0, none⟩), .int .i64 n] w (Ret F w fun v l => v = .slice none 0 0 ∧ l = [reader g bs i true]) := by
  obtain ⟨v0, H⟩ := Hp.open_ex (Hp.start F w hA hF) (.here _)
  replace H := H.open_star (.here _)
  obtain ⟨A0, c0, rfl, hc0, HC0⟩ := H.reads (.there _ (.here _))
  have c1 : decide (n < 0) = false := decide_eq_false (by omega)
  clear HC0 hc0
  go_enter Try.func36, Try.ntmps36
  go_wp2_with fail
  refine startH H (n := 22) [] #[false, false, false, false, false, false, false, false, false, false, false, false, false, false, false, false, false, false, false, false, false, false] (by kernel_rfl) rfl rfl (fun hHeld => ?_)
  refine pure_ (i := 0) (N := some 6) (v := ?_) (a' := ?_) #[true, false, false, false, false, false, false, false, false, false, false, false, false, false, false, false, false, false, false, false, false, false] rfl rfl (by kernel_rfl) (fun _ _ _ h => h) (Or.inl ⟨by rfl, ?_⟩) ?_ ?_
  rotate_left
  · intro w'
    go_simp
    with_reducible rfl
  rotate_left
  · simp only [Act.put, List.setIfInBounds_toArray, List.set_cons_zero, List.set_cons_succ, i64_w, i32_w]
    rfl
  refine pure_ (i := 1) (N := some 7) (v := ?_) (a' := ?_) #[true, true, false, false, false, false, false, false, false, false, false, false, false, false, false, false, false, false, false, false, false, false] rfl rfl (by kernel_rfl) (fun _ _ _ h => h) (Or.inl ⟨by rfl, ?_⟩) ?_ ?_
  rotate_left
  · intro w'
    go_simp
    with_reducible rfl
  rotate_left
  · simp only [Act.put, List.setIfInBounds_toArray, List.set_cons_zero, List.set_cons_succ, i64_w, i32_w]
    rfl
  refine pure_ (i := 2) (N := some 8) (v := ?_) (a' := ?_) #[true, true, true, false, false, false, false, false, false, false, false, false, false, false, false, false, false, false, false, false, false, false] rfl rfl (by kernel_rfl) (fun _ _ _ h => h) (Or.inl ⟨by rfl, ?_⟩) ?_ ?_
  rotate_left
  · intro w'
    go_simp
    with_reducible rfl
  rotate_left
  · simp only [Act.put, List.setIfInBounds_toArray, List.set_cons_zero, List.set_cons_succ, i64_w, i32_w]
    rfl
  refine pure_ (i := 3) (N := some 9) (v := ?_) (a' := ?_) #[true, true, true, true, false, false, false, false, false, false, false, false, false, false, false, false, false, false, false, false, false, false] rfl rfl (by kernel_rfl) (fun _ _ _ h => h) (Or.inl ⟨by rfl, ?_⟩) ?_ ?_
  rotate_left
  · intro w'
    go_simp
    with_reducible rfl
  rotate_left
  · simp only [Act.put, List.setIfInBounds_toArray, List.set_cons_zero, List.set_cons_succ, i64_w, i32_w]
    rfl
  refine pure_ (i := 4) (N := some 10) (v := ?_) (a' := ?_) #[true, true, true, true, true, false, false, false, false, false, false, false, false, false, false, false, false, false, false, false, false, false] rfl rfl (by kernel_rfl) (fun _ _ _ h => h) (Or.inl ⟨by rfl, ?_⟩) ?_ ?_
  rotate_left
  · intro w'
    go_simp
    with_reducible rfl
  rotate_left
  · simp only [Act.put, List.setIfInBounds_toArray, List.set_cons_zero, List.set_cons_succ, i64_w, i32_w]
    rfl
  refine pure_ (i := 5) (N := some 11) (v := ?_) (a' := ?_) #[true, true, true, true, true, true, false, false, false, false, false, false, false, false, false, false, false, false, false, false, false, false] rfl rfl (by kernel_rfl) (fun _ _ _ h => h) (Or.inl ⟨by rfl, ?_⟩) ?_ ?_
  rotate_left
  · intro w'
    go_simp
    with_reducible rfl
  rotate_left
  · simp only [Act.put, List.setIfInBounds_toArray, List.set_cons_zero, List.set_cons_succ, i64_w, i32_w]
    rfl
  refine take_ (i := 6) (N := some 12) (v := _) (a' := ?_) #[true, true, true, true, true, true, true, false, false, false, false, false, false, false, false, false, false, false, false, false, false, false] rfl rfl (by kernel_rfl) (fun _ _ _ h => h) (Or.inl ⟨by rfl, fun w2 h => h.load1 4 (.tmp 11) rfl rfl (.here _) Try.underlying4 rfl rfl⟩) hHeld ?_ ?_
  rotate_left
  · simp only [Act.put, List.setIfInBounds_toArray, List.set_cons_zero, List.set_cons_succ, i64_w, i32_w]
    rfl
  refine pure_ (i := 7) (N := some 13) (v := ?_) (a' := ?_) #[true, true, true, true, true, true, true, true, false, false, false, false, false, false, false, false, false, false, false, false, false, false] rfl rfl (by kernel_rfl) (fun _ _ _ h => h) (Or.inl ⟨by rfl, ?_⟩) ?_ ?_
  rotate_left
  · intro w'
    go_simp
    with_reducible rfl
  rotate_left
  · simp only [Act.put, List.setIfInBounds_toArray, List.set_cons_zero, List.set_cons_succ, i64_w, i32_w]
    rfl
  refine pure_ (i := 8) (N := some 14) (v := ?_) (a' := ?_) #[true, true, true, true, true, true, true, true, true, false, false, false, false, false, false, false, false, false, false, false, false, false] rfl rfl (by kernel_rfl) (fun _ _ _ h => h) (Or.inl ⟨by rfl, ?_⟩) ?_ ?_
  rotate_left
  · intro w'
    go_simp
    with_reducible rfl
  rotate_left
  · simp only [Act.put, List.setIfInBounds_toArray, List.set_cons_zero, List.set_cons_succ, i64_w, i32_w]
    rfl
  refine pure_ (i := 9) (N := some 15) (v := undef) (a' := ?_) #[true, true, true, true, true, true, true, true, true, true, false, false, false, false, false, false, false, false, false, false, false, false] rfl rfl (by kernel_rfl) (fun _ _ _ h => h) (Or.inr ⟨by rfl, rfl⟩) ?_ ?_
  rotate_left
  · simp only [Act.put, List.setIfInBounds_toArray, List.set_cons_zero, List.set_cons_succ, i64_w, i32_w]
    rfl
  refine pure_ (i := 10) (N := some 16) (v := undef) (a' := ?_) #[true, true, true, true, true, true, true, true, true, true, true, false, false, false, false, false, false, false, false, false, false, false] rfl rfl (by kernel_rfl) (fun _ _ _ h => h) (Or.inr ⟨by rfl, rfl⟩) ?_ ?_
  rotate_left
  · simp only [Act.put, List.setIfInBounds_toArray, List.set_cons_zero, List.set_cons_succ, i64_w, i32_w]
    rfl
  refine pure_ (i := 11) (N := some 17) (v := undef) (a' := ?_) #[true, true, true, true, true, true, true, true, true, true, true, true, false, false, false, false, false, false, false, false, false, false] rfl rfl (by kernel_rfl) (fun _ _ _ h => h) (Or.inr ⟨by rfl, rfl⟩) ?_ ?_
  rotate_left
  · simp only [Act.put, List.setIfInBounds_toArray, List.set_cons_zero, List.set_cons_succ, i64_w, i32_w]
    rfl
  refine pure_ (i := 12) (N := some 18) (v := undef) (a' := ?_) #[true, true, true, true, true, true, true, true, true, true, true, true, true, false, false, false, false, false, false, false, false, false] rfl rfl (by kernel_rfl) (fun _ _ _ h => h) (Or.inr ⟨by rfl, rfl⟩) ?_ ?_
  rotate_left
  · simp only [Act.put, List.setIfInBounds_toArray, List.set_cons_zero, List.set_cons_succ, i64_w, i32_w]
    rfl
  refine pure_ (i := 13) (N := some 19) (v := undef) (a' := ?_) #[true, true, true, true, true, true, true, true, true, true, true, true, true, true, false, false, false, false, false, false, false, false] rfl rfl (by kernel_rfl) (fun _ _ _ h => h) (Or.inr ⟨by rfl, rfl⟩) ?_ ?_
  rotate_left
  · simp only [Act.put, List.setIfInBounds_toArray, List.set_cons_zero, List.set_cons_succ, i64_w, i32_w]
    rfl
  refine pure_ (i := 14) (N := some 20) (v := undef) (a' := ?_) #[true, true, true, true, true, true, true, true, true, true, true, true, true, true, true, false, false, false, false, false, false, false] rfl rfl (by kernel_rfl) (fun _ _ _ h => h) (Or.inr ⟨by rfl, rfl⟩) ?_ ?_
  rotate_left
  · simp only [Act.put, List.setIfInBounds_toArray, List.set_cons_zero, List.set_cons_succ, i64_w, i32_w]
    rfl
  refine pure_ (i := 15) (N := some 21) (v := undef) (a' := ?_) #[true, true, true, true, true, true, true, true, true, true, true, true, true, true, true, true, false, false, false, false, false, false] rfl rfl (by kernel_rfl) (fun _ _ _ h => h) (Or.inr ⟨by rfl, rfl⟩) ?_ ?_
  rotate_left
  · simp only [Act.put, List.setIfInBounds_toArray, List.set_cons_zero, List.set_cons_succ, i64_w, i32_w]
    rfl
  refine pure_ (i := 16) (N := some 22) (v := undef) (a' := ?_) #[true, true, true, true, true, true, true, true, true, true, true, true, true, true, true, true, true, false, false, false, false, false] rfl rfl (by kernel_rfl) (fun _ _ _ h => h) (Or.inr ⟨by rfl, rfl⟩) ?_ ?_
  rotate_left
  · simp only [Act.put, List.setIfInBounds_toArray, List.set_cons_zero, List.set_cons_succ, i64_w, i32_w]
    rfl
  refine pure_ (i := 17) (N := some 23) (v := undef) (a' := ?_) #[true, true, true, true, true, true, true, true, true, true, true, true, true, true, true, true, true, true, false, false, false, false] rfl rfl (by kernel_rfl) (fun _ _ _ h => h) (Or.inr ⟨by rfl, rfl⟩) ?_ ?_
  rotate_left
  · simp only [Act.put, List.setIfInBounds_toArray, List.set_cons_zero, List.set_cons_succ, i64_w, i32_w]
    rfl
  refine pure_ (i := 18) (N := some 24) (v := undef) (a' := ?_) #[true, true, true, true, true, true, true, true, true, true, true, true, true, true, true, true, true, true, true, false, false, false] rfl rfl (by kernel_rfl) (fun _ _ _ h => h) (Or.inr ⟨by rfl, rfl⟩) ?_ ?_
  rotate_left
  · simp only [Act.put, List.setIfInBounds_toArray, List.set_cons_zero, List.set_cons_succ, i64_w, i32_w]
    rfl
  refine pure_ (i := 19) (N := some 25) (v := undef) (a' := ?_) #[true, true, true, true, true, true, true, true, true, true, true, true, true, true, true, true, true, true, true, true, false, false] rfl rfl (by kernel_rfl) (fun _ _ _ h => h) (Or.inr ⟨by rfl, rfl⟩) ?_ ?_
  rotate_left
  · simp only [Act.put, List.setIfInBounds_toArray, List.set_cons_zero, List.set_cons_succ, i64_w, i32_w]
    rfl
  refine pure_ (i := 20) (N := some 26) (v := undef) (a' := ?_) #[true, true, true, true, true, true, true, true, true, true, true, true, true, true, true, true, true, true, true, true, true, false] rfl rfl (by kernel_rfl) (fun _ _ _ h => h) (Or.inr ⟨by rfl, rfl⟩) ?_ ?_
  rotate_left
  · simp only [Act.put, List.setIfInBounds_toArray, List.set_cons_zero, List.set_cons_succ, i64_w, i32_w]
    rfl
  refine pure_ (i := 21) (N := some 27) (v := ?_) (a' := ?_) #[true, true, true, true, true, true, true, true, true, true, true, true, true, true, true, true, true, true, true, true, true, true] rfl rfl (by kernel_rfl) (fun _ _ _ h => h) (Or.inl ⟨by rfl, ?_⟩) ?_ ?_
  rotate_left
  · intro w'
    go_simp
    with_reducible rfl
  rotate_left
  · simp only [Act.put, List.setIfInBounds_toArray, List.set_cons_zero, List.set_cons_succ, i64_w, i32_w]
    rfl
  refine done_ (by kernel_rfl) ?_
  replace H := hHeld
  go_wp2_with (first | ((with_reducible refine gate_store (p := 30) rfl ?_); refine ev_ rfl (H.store 4 (.tmp 30) (.const (.bool true)) rfl rfl (.here _) rfl #[.bool true] rfl info4s (by simp [Value.oneCell']) (by simp) (cs' := #[.slice A0 bs.length c0, .int .i64 (i : Int), .bool true]) rfl) ?_; rintro _ w1 ⟨rfl, H1⟩; replace H := H1))
  go_ret
  exact ⟨_, _, rfl, ⟨rfl, rfl⟩, (H.shut_star (.cons (.here _) (.cons (.here _) (.nil _)))).shut_ex _ (f := fun v => star [blk g #[v, .int .i64 (i : Int), .bool true] 77, row (Kd.int .u8) 5 v bs]) (.here _)⟩

set_option maxHeartbeats 1000000 in
set_option maxRecDepth 100000 in
theorem Bytes_far (w : World) (g : Nat) (bs : List Int) (i : Nat) (n : Int) (F : Nat → Prop) (hA : All [reader g bs i false] F w) (hF : ∀ k, F k → k < w.heap.size) (h : 0 ≤ n) (hi : i ≤ bs.length) (hn : bs.length ≤ 140737488351232) (hf : (bs.length : Int) - i < n) :
    Calls Try.prog 36 #[.pointer (some ⟨g, 0, none⟩), .int .i64 n] w (Ret F w fun v l => v = .slice none 0 0 ∧ l = [reader g bs i true]) := by
  obtain ⟨v0, H⟩ := Hp.open_ex (Hp.start F w hA hF) (.here _)
  replace H := H.open_star (.here _)
  obtain ⟨A0, c0, rfl, hc0, HC0⟩ := H.reads (.there _ (.here _))
  have c1 : decide (n < 0) = false := decide_eq_false (by omega)
  have c2 : decide (wrap64 ((bs.length : Int) - (i : Int)) < n) = true := by rw [show wrap64 ((bs.length : Int) - (i : Int)) = (bs.length : Int) - (i : Int) from by unfold wrap64; omega]; exact decide_eq_true hf
  clear hf hi hn
  clear HC0 hc0
  go_enter Try.func36, Try.ntmps36
  go_wp2_with fail
  refine startH H (n := 22) [] #[false, false, false, false, false, false, false, false, false, false, false, false, false, false, false, false, false, false, false, false, false, false] (by kernel_rfl) rfl rfl (fun hHeld => ?_)
  refine pure_ (i := 0) (N := some 6) (v := ?_) (a' := ?_) #[true, false, false, false, false, false, false, false, false, false, false, false, false, false, false, false, false, false, false, false, false, false] rfl rfl (by kernel_rfl) (fun _ _ _ h => h) (Or.inl ⟨by rfl, ?_⟩) ?_ ?_
  rotate_left
  · intro w'
    go_simp
    with_reducible rfl
  rotate_left
  · simp only [Act.put, List.setIfInBounds_toArray, List.set_cons_zero, List.set_cons_succ, i64_w, i32_w]
    rfl
  refine pure_ (i := 1) (N := some 7) (v := ?_) (a' := ?_) #[true, true, false, false, false, false, false, false, false, false, false, false, false, false, false, false, false, false, false, false, false, false] rfl rfl (by kernel_rfl) (fun _ _ _ h => h) (Or.inl ⟨by rfl, ?_⟩) ?_ ?_
  rotate_left
  · intro w'
    go_simp
    with_reducible rfl
  rotate_left
  · simp only [Act.put, List.setIfInBounds_toArray, List.set_cons_zero, List.set_cons_succ, i64_w, i32_w]
    rfl
  refine pure_ (i := 2) (N := some 8) (v := ?_) (a' := ?_) #[true, true, true, false, false, false, false, false, false, false, false, false, false, false, false, false, false, false, false, false, false, false] rfl rfl (by kernel_rfl) (fun _ _ _ h => h) (Or.inl ⟨by rfl, ?_⟩) ?_ ?_
  rotate_left
  · intro w'
    go_simp
    with_reducible rfl
  rotate_left
  · simp only [Act.put, List.setIfInBounds_toArray, List.set_cons_zero, List.set_cons_succ, i64_w, i32_w]
    rfl
  refine pure_ (i := 3) (N := some 9) (v := ?_) (a' := ?_) #[true, true, true, true, false, false, false, false, false, false, false, false, false, false, false, false, false, false, false, false, false, false] rfl rfl (by kernel_rfl) (fun _ _ _ h => h) (Or.inl ⟨by rfl, ?_⟩) ?_ ?_
  rotate_left
  · intro w'
    go_simp
    with_reducible rfl
  rotate_left
  · simp only [Act.put, List.setIfInBounds_toArray, List.set_cons_zero, List.set_cons_succ, i64_w, i32_w]
    rfl
  refine pure_ (i := 4) (N := some 10) (v := ?_) (a' := ?_) #[true, true, true, true, true, false, false, false, false, false, false, false, false, false, false, false, false, false, false, false, false, false] rfl rfl (by kernel_rfl) (fun _ _ _ h => h) (Or.inl ⟨by rfl, ?_⟩) ?_ ?_
  rotate_left
  · intro w'
    go_simp
    with_reducible rfl
  rotate_left
  · simp only [Act.put, List.setIfInBounds_toArray, List.set_cons_zero, List.set_cons_succ, i64_w, i32_w]
    rfl
  refine pure_ (i := 5) (N := some 11) (v := ?_) (a' := ?_) #[true, true, true, true, true, true, false, false, false, false, false, false, false, false, false, false, false, false, false, false, false, false] rfl rfl (by kernel_rfl) (fun _ _ _ h => h) (Or.inl ⟨by rfl, ?_⟩) ?_ ?_
  rotate_left
  · intro w'
    go_simp
    with_reducible rfl
  rotate_left
  · simp only [Act.put, List.setIfInBounds_toArray, List.set_cons_zero, List.set_cons_succ, i64_w, i32_w]
    rfl
  refine take_ (i := 6) (N := some 12) (v := _) (a' := ?_) #[true, true, true, true, true, true, true, false, false, false, false, false, false, false, false, false, false, false, false, false, false, false] rfl rfl (by kernel_rfl) (fun _ _ _ h => h) (Or.inl ⟨by rfl, fun w2 h => h.load1 4 (.tmp 11) rfl rfl (.here _) Try.underlying4 rfl rfl⟩) hHeld ?_ ?_
  rotate_left
  · simp only [Act.put, List.setIfInBounds_toArray, List.set_cons_zero, List.set_cons_succ, i64_w, i32_w]
    rfl
  refine pure_ (i := 7) (N := some 13) (v := ?_) (a' := ?_) #[true, true, true, true, true, true, true, true, false, false, false, false, false, false, false, false, false, false, false, false, false, false] rfl rfl (by kernel_rfl) (fun _ _ _ h => h) (Or.inl ⟨by rfl, ?_⟩) ?_ ?_
  rotate_left
  · intro w'
    go_simp
    with_reducible rfl
  rotate_left
  · simp only [Act.put, List.setIfInBounds_toArray, List.set_cons_zero, List.set_cons_succ, i64_w, i32_w]
    rfl
  refine pure_ (i := 8) (N := some 14) (v := ?_) (a' := ?_) #[true, true, true, true, true, true, true, true, true, false, false, false, false, false, false, false, false, false, false, false, false, false] rfl rfl (by kernel_rfl) (fun _ _ _ h => h) (Or.inl ⟨by rfl, ?_⟩) ?_ ?_
  rotate_left
  · intro w'
    go_simp
    with_reducible rfl
  rotate_left
  · simp only [Act.put, List.setIfInBounds_toArray, List.set_cons_zero, List.set_cons_succ, i64_w, i32_w]
    rfl
  refine pure_ (i := 9) (N := some 15) (v := ?_) (a' := ?_) #[true, true, true, true, true, true, true, true, true, true, false, false, false, false, false, false, false, false, false, false, false, false] rfl rfl (by kernel_rfl) (fun _ _ _ h => h) (Or.inl ⟨by rfl, ?_⟩) ?_ ?_
  rotate_left
  · intro w'
    go_simp
    with_reducible rfl
  rotate_left
  · simp only [Act.put, List.setIfInBounds_toArray, List.set_cons_zero, List.set_cons_succ, i64_w, i32_w]
    rfl
  refine pure_ (i := 10) (N := some 16) (v := ?_) (a' := ?_) #[true, true, true, true, true, true, true, true, true, true, true, false, false, false, false, false, false, false, false, false, false, false] rfl rfl (by kernel_rfl) (fun _ _ _ h => h) (Or.inl ⟨by rfl, ?_⟩) ?_ ?_
  rotate_left
  · intro w'
    go_simp
    with_reducible rfl
  rotate_left
  · simp only [Act.put, List.setIfInBounds_toArray, List.set_cons_zero, List.set_cons_succ, i64_w, i32_w]
    rfl
  refine pure_ (i := 11) (N := some 17) (v := ?_) (a' := ?_) #[true, true, true, true, true, true, true, true, true, true, true, true, false, false, false, false, false, false, false, false, false, false] rfl rfl (by kernel_rfl) (fun _ _ _ h => h) (Or.inl ⟨by rfl, ?_⟩) ?_ ?_
  rotate_left
  · intro w'
    go_simp
    with_reducible rfl
  rotate_left
  · simp only [Act.put, List.setIfInBounds_toArray, List.set_cons_zero, List.set_cons_succ, i64_w, i32_w]
    rfl
  refine pure_ (i := 12) (N := some 18) (v := ?_) (a' := ?_) #[true, true, true, true, true, true, true, true, true, true, true, true, true, false, false, false, false, false, false, false, false, false] rfl rfl (by kernel_rfl) (fun _ _ _ h => h) (Or.inl ⟨by rfl, ?_⟩) ?_ ?_
  rotate_left
  · intro w'
    go_simp
    with_reducible rfl
  rotate_left
  · simp only [Act.put, List.setIfInBounds_toArray, List.set_cons_zero, List.set_cons_succ, i64_w, i32_w]
    rfl
  refine pure_ (i := 15) (N := some 21) (v := ?_) (a' := ?_) #[true, true, true, true, true, true, true, true, true, true, true, true, true, false, false, true, false, false, false, false, false, false] rfl rfl (by kernel_rfl) (fun _ _ _ h => h) (Or.inl ⟨by rfl, ?_⟩) ?_ ?_
  rotate_left
  · intro w'
    go_simp
    with_reducible rfl
  rotate_left
  · simp only [Act.put, List.setIfInBounds_toArray, List.set_cons_zero, List.set_cons_succ, i64_w, i32_w]
    rfl
  refine pure_ (i := 16) (N := some 22) (v := ?_) (a' := ?_) #[true, true, true, true, true, true, true, true, true, true, true, true, true, false, false, true, true, false, false, false, false, false] rfl rfl (by kernel_rfl) (fun _ _ _ h => h) (Or.inl ⟨by rfl, ?_⟩) ?_ ?_
  rotate_left
  · intro w'
    go_simp
    with_reducible rfl
  rotate_left
  · simp only [Act.put, List.setIfInBounds_toArray, List.set_cons_zero, List.set_cons_succ, i64_w, i32_w]
    rfl
  refine pure_ (i := 17) (N := some 23) (v := ?_) (a' := ?_) #[true, true, true, true, true, true, true, true, true, true, true, true, true, false, false, true, true, true, false, false, false, false] rfl rfl (by kernel_rfl) (fun _ _ _ h => h) (Or.inl ⟨by rfl, ?_⟩) ?_ ?_
  rotate_left
  · intro w'
    go_simp
    with_reducible rfl
  rotate_left
  · simp only [Act.put, List.setIfInBounds_toArray, List.set_cons_zero, List.set_cons_succ, i64_w, i32_w]
    rfl
  refine take_ (i := 13) (N := some 19) (v := _) (a' := ?_) #[true, true, true, true, true, true, true, true, true, true, true, true, true, true, false, true, true, true, false, false, false, false] rfl rfl (by kernel_rfl) (fun _ _ _ h => h) (Or.inl ⟨by rfl, fun w2 h => h.load1 25 (.tmp 18) rfl rfl (.here _) Try.underlying25 rfl rfl⟩) hHeld ?_ ?_
  rotate_left
  · simp only [Act.put, List.setIfInBounds_toArray, List.set_cons_zero, List.set_cons_succ, i64_w, i32_w]
    rfl
  refine pure_ (i := 14) (N := some 20) (v := ?_) (a' := ?_) #[true, true, true, true, true, true, true, true, true, true, true, true, true, true, true, true, true, true, false, false, false, false] rfl rfl (by kernel_rfl) (fun _ _ _ h => h) (Or.inl ⟨by rfl, ?_⟩) ?_ ?_
  rotate_left
  · intro w'
    go_simp
    with_reducible rfl
  rotate_left
  · simp only [Act.put, List.setIfInBounds_toArray, List.set_cons_zero, List.set_cons_succ, i64_w, i32_w]
    rfl
  refine take_ (i := 18) (N := some 24) (v := _) (a' := ?_) #[true, true, true, true, true, true, true, true, true, true, true, true, true, true, true, true, true, true, true, false, false, false] rfl rfl (by kernel_rfl) (fun _ _ _ h => h) (Or.inl ⟨by rfl, fun w2 h => h.load1 3 (.tmp 23) rfl rfl (.here _) Try.underlying3 rfl rfl⟩) hHeld ?_ ?_
  rotate_left
  · simp only [Act.put, List.setIfInBounds_toArray, List.set_cons_zero, List.set_cons_succ, i64_w, i32_w]
    rfl
  refine pure_ (i := 19) (N := some 25) (v := ?_) (a' := ?_) #[true, true, true, true, true, true, true, true, true, true, true, true, true, true, true, true, true, true, true, true, false, false] rfl rfl (by kernel_rfl) (fun _ _ _ h => h) (Or.inl ⟨by rfl, ?_⟩) ?_ ?_
  rotate_left
  · intro w'
    go_simp
    with_reducible rfl
  rotate_left
  · simp only [Act.put, List.setIfInBounds_toArray, List.set_cons_zero, List.set_cons_succ, i64_w, i32_w]
    rfl
  refine pure_ (i := 20) (N := some 26) (v := ?_) (a' := ?_) #[true, true, true, true, true, true, true, true, true, true, true, true, true, true, true, true, true, true, true, true, true, false] rfl rfl (by kernel_rfl) (fun _ _ _ h => h) (Or.inl ⟨by rfl, ?_⟩) ?_ ?_
  rotate_left
  · intro w'
    go_simp
    with_reducible rfl
  rotate_left
  · simp only [Act.put, List.setIfInBounds_toArray, List.set_cons_zero, List.set_cons_succ, i64_w, i32_w]
    rfl
  refine pure_ (i := 21) (N := some 27) (v := ?_) (a' := ?_) #[true, true, true, true, true, true, true, true, true, true, true, true, true, true, true, true, true, true, true, true, true, true] rfl rfl (by kernel_rfl) (fun _ _ _ h => h) (Or.inl ⟨by rfl, ?_⟩) ?_ ?_
  rotate_left
  · intro w'
    go_simp
    with_reducible rfl
  rotate_left
  · simp only [Act.put, List.setIfInBounds_toArray, List.set_cons_zero, List.set_cons_succ, i64_w, i32_w]
    rfl
  refine done_ (by kernel_rfl) ?_
  replace H := hHeld
  go_wp2_with (first | ((with_reducible refine gate_store (p := 30) rfl ?_); refine ev_ rfl (H.store 4 (.tmp 30) (.const (.bool true)) rfl rfl (.here _) rfl #[.bool true] rfl info4s (by simp [Value.oneCell']) (by simp) (cs' := #[.slice A0 bs.length c0, .int .i64 (i : Int), .bool true]) rfl) ?_; rintro _ w1 ⟨rfl, H1⟩; replace H := H1))
  go_ret
  exact ⟨_, _, rfl, ⟨rfl, rfl⟩, (H.shut_star (.cons (.here _) (.cons (.here _) (.nil _)))).shut_ex _ (f := fun v => star [blk g #[v, .int .i64 (i : Int), .bool true] 77, row (Kd.int .u8) 5 v bs]) (.here _)⟩

set_option maxHeartbeats 1000000 in
set_option maxRecDepth 100000 in
theorem Bytes_yes (w : World) (g : Nat) (bs : List Int) (i n : Nat) (F : Nat → Prop) (hA : All [reader g bs i false] F w) (hF : ∀ k, F k → k < w.heap.size) (hi : i + n ≤ bs.length) (hn : bs.length ≤ 140737488351232) :
    Calls Try.prog 36 #[.pointer (some ⟨g, 0, none⟩), .int .i64 (n : Int)] w (Ret F w fun v l => l = [row (Kd.int .u8) 5 v ((bs.drop i).take n), reader g bs (i + n) false]) := by
  obtain ⟨v0, H⟩ := Hp.open_ex (Hp.start F w hA hF) (.here _)
  replace H := H.open_star (.here _)
  obtain ⟨A0, c0, rfl, hc0, HC0⟩ := H.reads (.there _ (.here _))
  replace HC0 := Aside0.mk HC0
  replace hc0 := Aside0.mk hc0
  have c1 : decide ((n : Int) < 0) = false := decide_eq_false (by omega)
  have c2 : decide (wrap64 ((bs.length : Int) - (i : Int)) < (n : Int)) = false := by rw [show wrap64 ((bs.length : Int) - (i : Int)) = (bs.length : Int) - (i : Int) from by unfold wrap64; omega]; exact decide_eq_false (by omega)
  have c3 : wrap64 ((i : Int) + (n : Int)) = ((i + n : Nat) : Int) := by unfold wrap64; omega
  replace hi := Aside0.mk hi
  replace hn := Aside0.mk hn
  go_enter Try.func36, Try.ntmps36
  go_wp2_with fail
  refine startH H (n := 22) [] #[false, false, false, false, false, false, false, false, false, false, false, false, false, false, false, false, false, false, false, false, false, false] (by kernel_rfl) rfl rfl (fun hHeld => ?_)
  refine pure_ (i := 0) (N := some 6) (v := ?_) (a' := ?_) #[true, false, false, false, false, false, false, false, false, false, false, false, false, false, false, false, false, false, false, false, false, false] rfl rfl (by kernel_rfl) (fun _ _ _ h => h) (Or.inl ⟨by rfl, ?_⟩) ?_ ?_
  rotate_left
  · intro w'
    go_simp
    with_reducible rfl
  rotate_left
  · simp only [Act.put, List.setIfInBounds_toArray, List.set_cons_zero, List.set_cons_succ, i64_w, i32_w]
    rfl
  refine pure_ (i := 1) (N := some 7) (v := ?_) (a' := ?_) #[true, true, false, false, false, false, false, false, false, false, false, false, false, false, false, false, false, false, false, false, false, false] rfl rfl (by kernel_rfl) (fun _ _ _ h => h) (Or.inl ⟨by rfl, ?_⟩) ?_ ?_
  rotate_left
  · intro w'
    go_simp
    with_reducible rfl
  rotate_left
  · simp only [Act.put, List.setIfInBounds_toArray, List.set_cons_zero, List.set_cons_succ, i64_w, i32_w]
    rfl
  refine pure_ (i := 2) (N := some 8) (v := ?_) (a' := ?_) #[true, true, true, false, false, false, false, false, false, false, false, false, false, false, false, false, false, false, false, false, false, false] rfl rfl (by kernel_rfl) (fun _ _ _ h => h) (Or.inl ⟨by rfl, ?_⟩) ?_ ?_
  rotate_left
  · intro w'
    go_simp
    with_reducible rfl
  rotate_left
  · simp only [Act.put, List.setIfInBounds_toArray, List.set_cons_zero, List.set_cons_succ, i64_w, i32_w]
    rfl
  refine pure_ (i := 3) (N := some 9) (v := ?_) (a' := ?_) #[true, true, true, true, false, false, false, false, false, false, false, false, false, false, false, false, false, false, false, false, false, false] rfl rfl (by kernel_rfl) (fun _ _ _ h => h) (Or.inl ⟨by rfl, ?_⟩) ?_ ?_
  rotate_left
  · intro w'
    go_simp
    with_reducible rfl
  rotate_left
  · simp only [Act.put, List.setIfInBounds_toArray, List.set_cons_zero, List.set_cons_succ, i64_w, i32_w]
    rfl
  refine pure_ (i := 4) (N := some 10) (v := ?_) (a' := ?_) #[true, true, true, true, true, false, false, false, false, false, false, false, false, false, false, false, false, false, false, false, false, false] rfl rfl (by kernel_rfl) (fun _ _ _ h => h) (Or.inl ⟨by rfl, ?_⟩) ?_ ?_
  rotate_left
  · intro w'
    go_simp
    with_reducible rfl
  rotate_left
  · simp only [Act.put, List.setIfInBounds_toArray, List.set_cons_zero, List.set_cons_succ, i64_w, i32_w]
    rfl
  refine pure_ (i := 5) (N := some 11) (v := ?_) (a' := ?_) #[true, true, true, true, true, true, false, false, false, false, false, false, false, false, false, false, false, false, false, false, false, false] rfl rfl (by kernel_rfl) (fun _ _ _ h => h) (Or.inl ⟨by rfl, ?_⟩) ?_ ?_
  rotate_left
  · intro w'
    go_simp
    with_reducible rfl
  rotate_left
  · simp only [Act.put, List.setIfInBounds_toArray, List.set_cons_zero, List.set_cons_succ, i64_w, i32_w]
    rfl
  refine take_ (i := 6) (N := some 12) (v := _) (a' := ?_) #[true, true, true, true, true, true, true, false, false, false, false, false, false, false, false, false, false, false, false, false, false, false] rfl rfl (by kernel_rfl) (fun _ _ _ h => h) (Or.inl ⟨by rfl, fun w2 h => h.load1 4 (.tmp 11) rfl rfl (.here _) Try.underlying4 rfl rfl⟩) hHeld ?_ ?_
  rotate_left
  · simp only [Act.put, List.setIfInBounds_toArray, List.set_cons_zero, List.set_cons_succ, i64_w, i32_w]
    rfl
  refine pure_ (i := 7) (N := some 13) (v := ?_) (a' := ?_) #[true, true, true, true, true, true, true, true, false, false, false, false, false, false, false, false, false, false, false, false, false, false] rfl rfl (by kernel_rfl) (fun _ _ _ h => h) (Or.inl ⟨by rfl, ?_⟩) ?_ ?_
  rotate_left
  · intro w'
    go_simp
    with_reducible rfl
  rotate_left
  · simp only [Act.put, List.setIfInBounds_toArray, List.set_cons_zero, List.set_cons_succ, i64_w, i32_w]
    rfl
  refine pure_ (i := 8) (N := some 14) (v := ?_) (a' := ?_) #[true, true, true, true, true, true, true, true, true, false, false, false, false, false, false, false, false, false, false, false, false, false] rfl rfl (by kernel_rfl) (fun _ _ _ h => h) (Or.inl ⟨by rfl, ?_⟩) ?_ ?_
  rotate_left
  · intro w'
    go_simp
    with_reducible rfl
  rotate_left
  · simp only [Act.put, List.setIfInBounds_toArray, List.set_cons_zero, List.set_cons_succ, i64_w, i32_w]
    rfl
  refine pure_ (i := 9) (N := some 15) (v := ?_) (a' := ?_) #[true, true, true, true, true, true, true, true, true, true, false, false, false, false, false, false, false, false, false, false, false, false] rfl rfl (by kernel_rfl) (fun _ _ _ h => h) (Or.inl ⟨by rfl, ?_⟩) ?_ ?_
  rotate_left
  · intro w'
    go_simp
    with_reducible rfl
  rotate_left
  · simp only [Act.put, List.setIfInBounds_toArray, List.set_cons_zero, List.set_cons_succ, i64_w, i32_w]
    rfl
  refine pure_ (i := 10) (N := some 16) (v := ?_) (a' := ?_) #[true, true, true, true, true, true, true, true, true, true, true, false, false, false, false, false, false, false, false, false, false, false] rfl rfl (by kernel_rfl) (fun _ _ _ h => h) (Or.inl ⟨by rfl, ?_⟩) ?_ ?_
  rotate_left
  · intro w'
    go_simp
    with_reducible rfl
  rotate_left
  · simp only [Act.put, List.setIfInBounds_toArray, List.set_cons_zero, List.set_cons_succ, i64_w, i32_w]
    rfl
  refine pure_ (i := 11) (N := some 17) (v := ?_) (a' := ?_) #[true, true, true, true, true, true, true, true, true, true, true, true, false, false, false, false, false, false, false, false, false, false] rfl rfl (by kernel_rfl) (fun _ _ _ h => h) (Or.inl ⟨by rfl, ?_⟩) ?_ ?_
  rotate_left
  · intro w'
    go_simp
    with_reducible rfl
  rotate_left
  · simp only [Act.put, List.setIfInBounds_toArray, List.set_cons_zero, List.set_cons_succ, i64_w, i32_w]
    rfl
  refine pure_ (i := 12) (N := some 18) (v := ?_) (a' := ?_) #[true, true, true, true, true, true, true, true, true, true, true, true, true, false, false, false, false, false, false, false, false, false] rfl rfl (by kernel_rfl) (fun _ _ _ h => h) (Or.inl ⟨by rfl, ?_⟩) ?_ ?_
  rotate_left
  · intro w'
    go_simp
    with_reducible rfl
  rotate_left
  · simp only [Act.put, List.setIfInBounds_toArray, List.set_cons_zero, List.set_cons_succ, i64_w, i32_w]
    rfl
  refine pure_ (i := 15) (N := some 21) (v := ?_) (a' := ?_) #[true, true, true, true, true, true, true, true, true, true, true, true, true, false, false, true, false, false, false, false, false, false] rfl rfl (by kernel_rfl) (fun _ _ _ h => h) (Or.inl ⟨by rfl, ?_⟩) ?_ ?_
  rotate_left
  · intro w'
    go_simp
    with_reducible rfl
  rotate_left
  · simp only [Act.put, List.setIfInBounds_toArray, List.set_cons_zero, List.set_cons_succ, i64_w, i32_w]
    rfl
  refine pure_ (i := 16) (N := some 22) (v := ?_) (a' := ?_) #[true, true, true, true, true, true, true, true, true, true, true, true, true, false, false, true, true, false, false, false, false, false] rfl rfl (by kernel_rfl) (fun _ _ _ h => h) (Or.inl ⟨by rfl, ?_⟩) ?_ ?_
  rotate_left
  · intro w'
    go_simp
    with_reducible rfl
  rotate_left
  · simp only [Act.put, List.setIfInBounds_toArray, List.set_cons_zero, List.set_cons_succ, i64_w, i32_w]
    rfl
  refine pure_ (i := 17) (N := some 23) (v := ?_) (a' := ?_) #[true, true, true, true, true, true, true, true, true, true, true, true, true, false, false, true, true, true, false, false, false, false] rfl rfl (by kernel_rfl) (fun _ _ _ h => h) (Or.inl ⟨by rfl, ?_⟩) ?_ ?_
  rotate_left
  · intro w'
    go_simp
    with_reducible rfl
  rotate_left
  · simp only [Act.put, List.setIfInBounds_toArray, List.set_cons_zero, List.set_cons_succ, i64_w, i32_w]
    rfl
  refine take_ (i := 13) (N := some 19) (v := _) (a' := ?_) #[true, true, true, true, true, true, true, true, true, true, true, true, true, true, false, true, true, true, false, false, false, false] rfl rfl (by kernel_rfl) (fun _ _ _ h => h) (Or.inl ⟨by rfl, fun w2 h => h.load1 25 (.tmp 18) rfl rfl (.here _) Try.underlying25 rfl rfl⟩) hHeld ?_ ?_
  rotate_left
  · simp only [Act.put, List.setIfInBounds_toArray, List.set_cons_zero, List.set_cons_succ, i64_w, i32_w]
    rfl
  refine pure_ (i := 14) (N := some 20) (v := ?_) (a' := ?_) #[true, true, true, true, true, true, true, true, true, true, true, true, true, true, true, true, true, true, false, false, false, false] rfl rfl (by kernel_rfl) (fun _ _ _ h => h) (Or.inl ⟨by rfl, ?_⟩) ?_ ?_
  rotate_left
  · intro w'
    go_simp
    with_reducible rfl
  rotate_left
  · simp only [Act.put, List.setIfInBounds_toArray, List.set_cons_zero, List.set_cons_succ, i64_w, i32_w]
    rfl
  refine take_ (i := 18) (N := some 24) (v := _) (a' := ?_) #[true, true, true, true, true, true, true, true, true, true, true, true, true, true, true, true, true, true, true, false, false, false] rfl rfl (by kernel_rfl) (fun _ _ _ h => h) (Or.inl ⟨by rfl, fun w2 h => h.load1 3 (.tmp 23) rfl rfl (.here _) Try.underlying3 rfl rfl⟩) hHeld ?_ ?_
  rotate_left
  · simp only [Act.put, List.setIfInBounds_toArray, List.set_cons_zero, List.set_cons_succ, i64_w, i32_w]
    rfl
  refine pure_ (i := 19) (N := some 25) (v := ?_) (a' := ?_) #[true, true, true, true, true, true, true, true, true, true, true, true, true, true, true, true, true, true, true, true, false, false] rfl rfl (by kernel_rfl) (fun _ _ _ h => h) (Or.inl ⟨by rfl, ?_⟩) ?_ ?_
  rotate_left
  · intro w'
    go_simp
    with_reducible rfl
  rotate_left
  · simp only [Act.put, List.setIfInBounds_toArray, List.set_cons_zero, List.set_cons_succ, i64_w, i32_w]
    rfl
  refine pure_ (i := 20) (N := some 26) (v := ?_) (a' := ?_) #[true, true, true, true, true, true, true, true, true, true, true, true, true, true, true, true, true, true, true, true, true, false] rfl rfl (by kernel_rfl) (fun _ _ _ h => h) (Or.inl ⟨by rfl, ?_⟩) ?_ ?_
  rotate_left
  · intro w'
    go_simp
    with_reducible rfl
  rotate_left
  · simp only [Act.put, List.setIfInBounds_toArray, List.set_cons_zero, List.set_cons_succ, i64_w, i32_w]
    rfl
  refine pure_ (i := 21) (N := some 27) (v := ?_) (a' := ?_) #[true, true, true, true, true, true, true, true, true, true, true, true, true, true, true, true, true, true, true, true, true, true] rfl rfl (by kernel_rfl) (fun _ _ _ h => h) (Or.inl ⟨by rfl, ?_⟩) ?_ ?_
  rotate_left
  · intro w'
    go_simp
    with_reducible rfl
  rotate_left
  · simp only [Act.put, List.setIfInBounds_toArray, List.set_cons_zero, List.set_cons_succ, i64_w, i32_w]
    rfl
  refine done_ (by kernel_rfl) ?_
  replace H := hHeld
  go_wp2_with (first | ((with_reducible refine gate_dst (N := 32) rfl ?_); refine ev_ rfl (H.make (d := Kd.int .u8) (N := 32) rfl 25 5 (.tmp 31) (.tmp 31) rfl rfl rfl Try.underlying25 (.int .u8 0) 1 info5 rfl (by decide) (by decide) 0 (fun _ => rfl) (by omega) (by have := hi.out; have := hn.out; omega)) ?_; intro v5 w5 H1; simp only [Int.toNat_natCast] at H1; obtain ⟨A5, c5, rfl, -, -⟩ := H1.reads (.here _); simp only [List.length_replicate] at H1; replace H := H1))
  refine startH H (n := 11) [10] #[false, false, false, false, false, false, false, false, false, false, false] (by kernel_rfl) rfl rfl (fun hHeld => ?_)
  refine pure_ (i := 0) (N := some 33) (v := ?_) (a' := ?_) #[true, false, false, false, false, false, false, false, false, false, false] rfl rfl (by kernel_rfl) (fun _ _ _ h => h) (Or.inl ⟨by rfl, ?_⟩) ?_ ?_
  rotate_left
  · intro w'
    go_simp
    with_reducible rfl
  rotate_left
  · simp only [Act.put, List.setIfInBounds_toArray, List.set_cons_zero, List.set_cons_succ, i64_w, i32_w]
    rfl
  refine pure_ (i := 1) (N := some 34) (v := ?_) (a' := ?_) #[true, true, false, false, false, false, false, false, false, false, false] rfl rfl (by kernel_rfl) (fun _ _ _ h => h) (Or.inl ⟨by rfl, ?_⟩) ?_ ?_
  rotate_left
  · intro w'
    go_simp
    with_reducible rfl
  rotate_left
  · simp only [Act.put, List.setIfInBounds_toArray, List.set_cons_zero, List.set_cons_succ, i64_w, i32_w]
    rfl
  refine pure_ (i := 2) (N := some 35) (v := ?_) (a' := ?_) #[true, true, true, false, false, false, false, false, false, false, false] rfl rfl (by kernel_rfl) (fun _ _ _ h => h) (Or.inl ⟨by rfl, ?_⟩) ?_ ?_
  rotate_left
  · intro w'
    go_simp
    with_reducible rfl
  rotate_left
  · simp only [Act.put, List.setIfInBounds_toArray, List.set_cons_zero, List.set_cons_succ, i64_w, i32_w]
    rfl
  refine pure_ (i := 3) (N := some 36) (v := ?_) (a' := ?_) #[true, true, true, true, false, false, false, false, false, false, false] rfl rfl (by kernel_rfl) (fun _ _ _ h => h) (Or.inl ⟨by rfl, ?_⟩) ?_ ?_
  rotate_left
  · intro w'
    go_simp
    with_reducible rfl
  rotate_left
  · simp only [Act.put, List.setIfInBounds_toArray, List.set_cons_zero, List.set_cons_succ, i64_w, i32_w]
    rfl
  refine pure_ (i := 5) (N := some 38) (v := ?_) (a' := ?_) #[true, true, true, true, false, true, false, false, false, false, false] rfl rfl (by kernel_rfl) (fun _ _ _ h => h) (Or.inl ⟨by rfl, ?_⟩) ?_ ?_
  rotate_left
  · intro w'
    go_simp
    with_reducible rfl
  rotate_left
  · simp only [Act.put, List.setIfInBounds_toArray, List.set_cons_zero, List.set_cons_succ, i64_w, i32_w]
    rfl
  refine pure_ (i := 6) (N := some 39) (v := ?_) (a' := ?_) #[true, true, true, true, false, true, true, false, false, false, false] rfl rfl (by kernel_rfl) (fun _ _ _ h => h) (Or.inl ⟨by rfl, ?_⟩) ?_ ?_
  rotate_left
  · intro w'
    go_simp
    with_reducible rfl
  rotate_left
  · simp only [Act.put, List.setIfInBounds_toArray, List.set_cons_zero, List.set_cons_succ, i64_w, i32_w]
    rfl
  refine pure_ (i := 7) (N := some 40) (v := ?_) (a' := ?_) #[true, true, true, true, false, true, true, true, false, false, false] rfl rfl (by kernel_rfl) (fun _ _ _ h => h) (Or.inl ⟨by rfl, ?_⟩) ?_ ?_
  rotate_left
  · intro w'
    go_simp
    with_reducible rfl
  rotate_left
  · simp only [Act.put, List.setIfInBounds_toArray, List.set_cons_zero, List.set_cons_succ, i64_w, i32_w]
    rfl
  refine take_ (i := 4) (N := some 37) (v := _) (a' := ?_) #[true, true, true, true, true, true, true, true, false, false, false] rfl rfl (by kernel_rfl) (fun _ _ _ h => h) (Or.inl ⟨by rfl, fun w2 h => h.load1 25 (.tmp 36) rfl rfl (.there _ (.here _)) Try.underlying25 rfl rfl⟩) hHeld ?_ ?_
  rotate_left
  · simp only [Act.put, List.setIfInBounds_toArray, List.set_cons_zero, List.set_cons_succ, i64_w, i32_w]
    rfl
  refine take_ (i := 8) (N := some 41) (v := _) (a' := ?_) #[true, true, true, true, true, true, true, true, true, false, false] rfl rfl (by kernel_rfl) (fun _ _ _ h => h) (Or.inl ⟨by rfl, fun w2 h => h.load1 3 (.tmp 40) rfl rfl (.there _ (.here _)) Try.underlying3 rfl rfl⟩) hHeld ?_ ?_
  rotate_left
  · simp only [Act.put, List.setIfInBounds_toArray, List.set_cons_zero, List.set_cons_succ, i64_w, i32_w]
    rfl
  refine pure_ (i := 9) (N := some 42) (v := .slice (cutA A0 c0 i) (bs.length - i) (c0 - i)) (a' := ?_) #[true, true, true, true, true, true, true, true, true, true, false] rfl rfl (by kernel_rfl) (fun _ _ _ h => h) (Or.inl ⟨by rfl, run_cut (t := 25) (e := 5) rfl rfl rfl Try.underlying25 info5s (by have := hi.out; omega)⟩) ?_ ?_
  rotate_left
  · simp only [Act.put, List.setIfInBounds_toArray, List.set_cons_zero, List.set_cons_succ, i64_w, i32_w]
    rfl
  refine last_ (i := 10) (N := some 43) #[true, true, true, true, true, true, true, true, true, true, true] rfl rfl (by kernel_rfl) (by decide) (fun K hK => ?_)
  have HC4 := C_cutS (h1 := fun _ => rfl) (hHeld.reads' (.there _ (.there _ (.here _)))).2.2 i (by have := hi.out; omega) hc0.out
  refine step_ (by rfl) rfl (hHeld.copyS (.tmp 33) (.tmp 42) 25 25 rfl rfl (.here _) Try.underlying25 info5s rfl HC4 ?hle) ?_
  case hle => have := hi.out; simp only [List.length_replicate, Int.toNat_natCast]; omega
  rintro v6 w6 ⟨rfl, H6⟩
  refine hK.out _ _ ?_
  clear hK K
  refine norm_ (a' := ?_) ?_ ?_
  rotate_left
  · show Act.put _ (some 43) _ = _
    simp only [Act.put, List.setIfInBounds_toArray, List.set_cons_zero, List.set_cons_succ, i64_w, i32_w]
    rfl
  refine done_ (by kernel_rfl) ?_
  replace H := H6
  clear H6 hHeld HC4
  have hi2 := hi.out
  have hn2 := hn.out
  go_wp2_with (first | ((with_reducible refine gate_dst (N := 47) rfl ?_); refine Kd.event_run rfl (H.load1 3 (.tmp 46) rfl rfl (.there _ (.here _)) Try.underlying3 rfl rfl) ?_) | ((with_reducible refine gate_store (p := 51) rfl ?_); refine ev_ rfl (H.store 3 (.tmp 51) (.tmp 49) rfl rfl (.there _ (.here _)) rfl #[.int .i64 ((i + n : Nat) : Int)] rfl info3s (by simp [Value.oneCell']) (by simp) (cs' := #[.slice A0 bs.length c0, .int .i64 ((i + n : Nat) : Int), .bool false]) rfl) ?_; rintro _ w1 ⟨rfl, H1⟩; replace H := H1))
  go_ret
  simp only [List.length_replicate, Int.toNat_natCast] at H
  exact ⟨_, _, rfl, rfl, ((H.shut_star (.cons (.here _) (.cons (.there _ (.here _)) (.nil _)))).shut_ex _ (f := fun v => star [blk g #[v, .int .i64 ((i + n : Nat) : Int), .bool false] 77, row (Kd.int .u8) 5 v bs]) (.here _)).imp (bs := [row (Kd.int .u8) 5 _ _, reader g bs (i + n) false]) (.cons (.there _ (.here _)) (.cons (.here _) (.nil _))) (fun G h => h)⟩

set_option maxHeartbeats 1000000 in
set_option maxRecDepth 100000 in
theorem Short_calls (w : World) (g : Nat) (bs : List Int) (i : Nat) (en : Bool) (F : Nat → Prop) (hA : All [reader g bs i en] F w) (hF : ∀ k, F k → k < w.heap.size) :
    Calls Try.prog 35 #[.pointer (some ⟨g, 0, none⟩)] w (Ret F w fun v l => v = .bool en ∧ l = [reader g bs i en]) := by
  obtain ⟨v0, H⟩ := Hp.open_ex (Hp.start F w hA hF) (.here _)
  replace H := H.open_star (.here _)
  obtain ⟨A0, c0, rfl, hc0, HC0⟩ := H.reads (.there _ (.here _))
  clear HC0 hc0
  go_enter Try.func35, Try.ntmps35
  go_wp2_with (first | ((with_reducible refine gate_dst (N := 6) rfl ?_); refine Kd.event_run rfl (H.load1 4 (.tmp 5) rfl rfl (.here _) Try.underlying4 rfl rfl) ?_))
  go_ret
  exact ⟨_, _, rfl, ⟨rfl, rfl⟩, (H.shut_star (.cons (.here _) (.cons (.here _) (.nil _)))).shut_ex _ (f := fun v => star [blk g #[v, .int .i64 (i : Int), .bool en] 77, row (Kd.int .u8) 5 v bs]) (.here _)⟩

def numStep (q x : Int) : Int := bits BinOp.or .u64 (IntKind.u64.wrap (q * 256)) (IntKind.u64.wrap x)
/-- What bytes tell, the highest first. -/
def numL (l : List Int) : Int := l.foldl numStep 0
theorem numL_snoc (l : List Int) (k : Nat) (h : k < l.length) : numL (l.take (k + 1)) = numStep (numL (l.take k)) l[k] := by
  unfold numL
  rw [List.take_succ_eq_append_getElem h, List.foldl_append]
  rfl

set_option maxHeartbeats 1000000 in
set_option maxRecDepth 100000 in
theorem Num_yes (w : World) (g : Nat) (bs : List Int) (i : Nat) (n : Nat) (F : Nat → Prop) (hA : All [reader g bs i false] F w) (hF : ∀ k, F k → k < w.heap.size) (hi : i + n ≤ bs.length) (hn : bs.length ≤ 140737488351232) :
    Calls Try.prog 34 #[.pointer (some ⟨g, 0, none⟩), .int .i64 n] w (Ret F w fun v l => v = .int .u64 (numL ((bs.drop i).take n)) ∧ l = [reader g bs (i + n) false]) := by
  have H := Hp.start F w hA hF
  obtain ⟨ys, hys⟩ : ∃ ys, ys = (bs.drop i).take n := ⟨_, rfl⟩
  have hl : ys.length ≤ 140737488351232 := by rw [hys]; simp; omega
  rw [← hys]
  replace hi := Aside0.mk hi
  replace hn := Aside0.mk hn
  replace hl := Aside0.mk hl
  replace hys := Aside0.mk hys
  go_enter Try.func34, Try.ntmps34
  go_wp2_with (go_at_call 36; refine H.call (.cons (.here _) (.nil _)) (fun G hG hGl => Bytes_yes w g bs i n G hG hGl hi.out hn.out) ?_; rintro v l1 w1 rfl H1; rw [← hys.out] at H1; obtain ⟨A1, c1, rfl, hc1, HC1⟩ := H1.reads (.here _); replace H := H1; replace hc1 := Aside0.mk hc1; replace HC1 := Aside0.mk HC1)
  go_loop [5, 12] (fun v5 v12 => ∃ k : Nat, k ≤ ys.length ∧ v12 = .int .i64 (k : Int) ∧ v5 = .int .u64 (numL (ys.take k))) (fun _ v12 => ys.length - (intOf v12).toNat)
  case atStart => exact ⟨0, Nat.zero_le _, rfl, rfl⟩
  case round =>
    obtain ⟨k, hk, rfl, rfl⟩ := hrel
    obtain ⟨q, hq⟩ : ∃ q, numL (ys.take k) = q := ⟨_, rfl⟩
    rw [hq]
    replace hq := Aside0.mk hq
    by_cases hlt : k < ys.length
    · have hl' := hl.out
      obtain ⟨ad, rfl, hcell⟩ := C_at (h1 := fun _ => rfl) HC1.out k (ys[k]) (List.getElem?_eq_getElem hlt)
      go_wp2_with fail
      go_round
      case rel => exact ⟨k + 1, by omega, by go_num, by rw [numL_snoc ys k hlt, hq.out]; rfl⟩
      case measure => simp [intOf]; omega
    · have hl' := hl.out
      have hke : k = ys.length := by omega
      have hq' : numL ys = q := by rw [← hq.out, hke, List.take_length]
      replace hq' := Aside0.mk hq'
      replace hke := Aside0.mk hke
      have hb1 : decide (k < ys.length) = false := decide_eq_false hlt
      have hb2 : decide ((k : Int) < (ys.length : Int)) = false := decide_eq_false (by omega)
      go_wp2_with fail
      go_ret
      exact ⟨_, _, rfl, ⟨by rw [hq'.out]; rfl, rfl⟩, H.drop (.cons (.here _) (.nil _))⟩

set_option maxHeartbeats 1000000 in
set_option maxRecDepth 100000 in
theorem Num_neg (w : World) (g : Nat) (bs : List Int) (i : Nat) (n : Int) (en : Bool) (F : Nat → Prop) (hA : All [reader g bs i en] F w) (hF : ∀ k, F k → k < w.heap.size) (h : n < 0) :
    Calls Try.prog 34 #[.pointer (some ⟨g, 0, none⟩), .int .i64 n] w (Ret F w fun v l => v = .int .u64 0 ∧ l = [reader g bs i true]) := by
  have H := Hp.start F w hA hF
  replace h := Aside0.mk h
  go_enter Try.func34, Try.ntmps34
  go_wp2_with (go_at_call 36; refine H.call (.cons (.here _) (.nil _)) (fun G hG hGl => Bytes_neg w g bs i n en G hG hGl h.out) ?_; rintro v l1 w1 ⟨rfl, rfl⟩ H1; replace H := H1)
  go_loop [5, 12] (fun v5 v12 => v5 = .int .u64 0 ∧ v12 = .int .i64 0) (fun _ _ => 0)
  case atStart => exact ⟨rfl, rfl⟩
  case round =>
    obtain ⟨rfl, rfl⟩ := hrel
    go_wp2_with fail
    go_ret
    exact ⟨_, _, rfl, ⟨rfl, rfl⟩, H⟩

set_option maxHeartbeats 1000000 in
set_option maxRecDepth 100000 in
theorem Num_end (w : World) (g : Nat) (bs : List Int) (i : Nat) (n : Int) (F : Nat → Prop) (hA : All [reader g bs i true] F w) (hF : ∀ k, F k → k < w.heap.size) (h : 0 ≤ n) :
    Calls Try.prog 34 #[.pointer (some ⟨g, 0, none⟩), .int .i64 n] w (Ret F w fun v l => v = .int .u64 0 ∧ l = [reader g bs i true]) := by
  have H := Hp.start F w hA hF
  replace h := Aside0.mk h
  go_enter Try.func34, Try.ntmps34
  go_wp2_with (go_at_call 36; refine H.call (.cons (.here _) (.nil _)) (fun G hG hGl => Bytes_end w g bs i n G hG hGl h.out) ?_; rintro v l1 w1 ⟨rfl, rfl⟩ H1; replace H := H1)
  go_loop [5, 12] (fun v5 v12 => v5 = .int .u64 0 ∧ v12 = .int .i64 0) (fun _ _ => 0)
  case atStart => exact ⟨rfl, rfl⟩
  case round =>
    obtain ⟨rfl, rfl⟩ := hrel
    go_wp2_with fail
    go_ret
    exact ⟨_, _, rfl, ⟨rfl, rfl⟩, H⟩

set_option maxHeartbeats 1000000 in
set_option maxRecDepth 100000 in
theorem Num_far (w : World) (g : Nat) (bs : List Int) (i : Nat) (n : Int) (F : Nat → Prop) (hA : All [reader g bs i false] F w) (hF : ∀ k, F k → k < w.heap.size) (h : 0 ≤ n) (hi : i ≤ bs.length) (hn : bs.length ≤ 140737488351232) (hf : (bs.length : Int) - i < n) :
    Calls Try.prog 34 #[.pointer (some ⟨g, 0, none⟩), .int .i64 n] w (Ret F w fun v l => v = .int .u64 0 ∧ l = [reader g bs i true]) := by
  have H := Hp.start F w hA hF
  replace h := Aside0.mk h
  replace hi := Aside0.mk hi
  replace hn := Aside0.mk hn
  replace hf := Aside0.mk hf
  go_enter Try.func34, Try.ntmps34
  go_wp2_with (go_at_call 36; refine H.call (.cons (.here _) (.nil _)) (fun G hG hGl => Bytes_far w g bs i n G hG hGl h.out hi.out hn.out hf.out) ?_; rintro v l1 w1 ⟨rfl, rfl⟩ H1; replace H := H1)
  go_loop [5, 12] (fun v5 v12 => v5 = .int .u64 0 ∧ v12 = .int .i64 0) (fun _ _ => 0)
  case atStart => exact ⟨rfl, rfl⟩
  case round =>
    obtain ⟨rfl, rfl⟩ := hrel
    go_wp2_with fail
    go_ret
    exact ⟨_, _, rfl, ⟨rfl, rfl⟩, H⟩

/-- What is too much to be read. -/
def tooFar (bs : List Int) (i : Nat) (en : Bool) (n : Int) : Prop := n < 0 ∨ en = true ∨ (bs.length : Int) - i < n
theorem Bytes_no (w : World) (g : Nat) (bs : List Int) (i : Nat) (en : Bool) (n : Int) (F : Nat → Prop) (hA : All [reader g bs i en] F w) (hF : ∀ k, F k → k < w.heap.size) (hi : i ≤ bs.length) (hn : bs.length ≤ 140737488351232) (h : tooFar bs i en n) :
    Calls Try.prog 36 #[.pointer (some ⟨g, 0, none⟩), .int .i64 n] w (Ret F w fun v l => v = .slice none 0 0 ∧ l = [reader g bs i true]) := by
  by_cases h0 : n < 0
  · exact Bytes_neg w g bs i n en F hA hF h0
  · cases en with
    | true => exact Bytes_end w g bs i n F hA hF (by omega)
    | false => exact Bytes_far w g bs i n F hA hF (by omega) hi hn (by rcases h with h | h | h; exact absurd h h0; exact absurd h (by decide); exact h)
theorem Num_no (w : World) (g : Nat) (bs : List Int) (i : Nat) (en : Bool) (n : Int) (F : Nat → Prop) (hA : All [reader g bs i en] F w) (hF : ∀ k, F k → k < w.heap.size) (hi : i ≤ bs.length) (hn : bs.length ≤ 140737488351232) (h : tooFar bs i en n) :
    Calls Try.prog 34 #[.pointer (some ⟨g, 0, none⟩), .int .i64 n] w (Ret F w fun v l => v = .int .u64 0 ∧ l = [reader g bs i true]) := by
  by_cases h0 : n < 0
  · exact Num_neg w g bs i n en F hA hF h0
  · cases en with
    | true => exact Num_end w g bs i n F hA hF (by omega)
    | false => exact Num_far w g bs i n F hA hF (by omega) hi hn (by rcases h with h | h | h; exact absurd h h0; exact absurd h (by decide); exact h)
def refStep (q x : Int) : Int := IntKind.u64.wrap (IntKind.u64.wrap (q * 256) + IntKind.u64.wrap x)
def numR (l : List Int) : Int := l.foldl refStep 0
theorem numR_snoc (l : List Int) (k : Nat) (h : k < l.length) : numR (l.take (k + 1)) = refStep (numR (l.take k)) l[k] := by
  unfold numR
  rw [List.take_succ_eq_append_getElem h, List.foldl_append]
  rfl
set_option maxHeartbeats 1000000 in
set_option maxRecDepth 100000 in
theorem RefNum_calls (w : World) (A : Option Addr) (n c : Nat) (ys : List Int) (hc : (Kd.int .u8).C w A n ys) (hn : n ≤ 140737488351232) :
    Calls Try.prog 38 #[.slice A n c] w (Ret (fun _ => False) w fun v l => v = .int .u64 (numR ys) ∧ l = []) := by
  have H := Hp.nothing w
  obtain rfl : ys.length = n := hc.1
  have HC1 := Aside0.mk hc
  clear hc
  have hl := Aside0.mk hn
  clear hn
  go_enter Try.func38, Try.ntmps38
  go_wp2_with fail
  go_loop [3, 4] (fun v5 v12 => ∃ k : Nat, k ≤ ys.length ∧ v12 = .int .i64 (k : Int) ∧ v5 = .int .u64 (numR (ys.take k))) (fun _ v12 => ys.length - (intOf v12).toNat)
  case atStart => exact ⟨0, Nat.zero_le _, rfl, rfl⟩
  case round =>
    obtain ⟨k, hk, rfl, rfl⟩ := hrel
    obtain ⟨q, hq⟩ : ∃ q, numR (ys.take k) = q := ⟨_, rfl⟩
    rw [hq]
    replace hq := Aside0.mk hq
    by_cases hlt : k < ys.length
    · have hl' := hl.out
      obtain ⟨ad, rfl, hcell⟩ := C_at (h1 := fun _ => rfl) HC1.out k (ys[k]) (List.getElem?_eq_getElem hlt)
      go_wp2_with fail
      go_round
      case rel => exact ⟨k + 1, by omega, by go_num, by rw [numR_snoc ys k hlt, hq.out]; rfl⟩
      case measure => simp [intOf]; omega
    · have hl' := hl.out
      have hke : k = ys.length := by omega
      have hq' : numR ys = q := by rw [← hq.out, hke, List.take_length]
      replace hq' := Aside0.mk hq'
      replace hke := Aside0.mk hke
      have hb1 : decide (k < ys.length) = false := decide_eq_false hlt
      have hb2 : decide ((k : Int) < (ys.length : Int)) = false := decide_eq_false (by omega)
      go_wp2_with fail
      go_ret
      exact ⟨_, _, rfl, ⟨by rw [hq'.out]; rfl, rfl⟩, H⟩

theorem reps_one {k : IntKind} (x : Int) {F : Nat → Prop} {w : World} : Reps ((Kd.int k).M w 0 F) (Kd.int k).sz [x] (#[Value.int k x] : Array Value).toList := (Reps.none _ _).snoc (p := x) (c := [Value.int k x]) rfl rfl
/-- Byte i of a number, the lowest one 0. -/
def digit (x : Int) (i : Nat) : Int := if i < 8 then x / 256 ^ i % 256 else 0
/-- The lowest k bytes of a number, the highest first. -/
def putL (x : Int) : Nat → List Int
  | 0 => []
  | k + 1 => digit x k :: putL x k
theorem putL_length (x : Int) : ∀ k, (putL x k).length = k
  | 0 => rfl
  | k + 1 => by simp [putL, putL_length x k]
/-- What bytes tell, step by step. -/
theorem numStep_eq {q x : Int} (h0 : 0 ≤ x) (h1 : x ≤ 255) : numStep q x = (q * 256 + x) % 18446744073709551616 := by
  unfold numStep
  rw [IntKind.wrap_u64, IntKind.wrap_u64, Int.emod_eq_of_lt h0 (by omega)]
  rw [Ar.join_u64 8 (r := 256) rfl (by omega) (by omega) (by omega) h0 (by omega) (by omega)]
  omega
theorem refStep_eq {q x : Int} (h0 : 0 ≤ x) (h1 : x ≤ 255) : refStep q x = (q * 256 + x) % 18446744073709551616 := by
  unfold refStep
  rw [IntKind.wrap_u64, IntKind.wrap_u64, IntKind.wrap_u64]
  omega
theorem numLR : ∀ (l : List Int) (q : Int), (∀ y ∈ l, 0 ≤ y ∧ y ≤ 255) → l.foldl numStep q = l.foldl refStep q
  | [], _, _ => rfl
  | x :: l, q, h => by
    have hx := h x List.mem_cons_self
    rw [List.foldl_cons, List.foldl_cons, numStep_eq hx.1 hx.2, refStep_eq hx.1 hx.2]
    exact numLR l _ fun y hy => h y (List.mem_cons_of_mem _ hy)
theorem numLR_drop (bs : List Int) (hby : ∀ y ∈ bs, 0 ≤ y ∧ y ≤ 255) (i m : Nat) : numL ((bs.drop i).take m) = numR ((bs.drop i).take m) :=
  numLR _ 0 fun y hy => hby y (List.mem_of_mem_drop (List.mem_of_mem_take hy))
theorem digit_range (x : Int) (i : Nat) : 0 ≤ digit x i ∧ digit x i ≤ 255 := by
  unfold digit
  split <;> omega
theorem putL_range (x : Int) : ∀ k, ∀ y ∈ putL x k, 0 ≤ y ∧ y ≤ 255
  | 0, y, h => by simp [putL] at h
  | k + 1, y, h => by
    rcases List.mem_cons.1 h with rfl | h
    · exact digit_range x k
    · exact putL_range x k y h
theorem digit_nat (n i : Nat) (h : n < 18446744073709551616) : digit (n : Int) i = ((n / 256 ^ i % 256 : Nat) : Int) := by
  unfold digit
  split
  · simp
  · rename_i h8
    have : n / 256 ^ i = 0 := by
      refine Nat.div_eq_of_lt (Nat.lt_of_lt_of_le h ?_)
      exact Nat.le_trans (by decide : 18446744073709551616 ≤ 256 ^ 8) (Nat.pow_le_pow_right (by decide) (by omega))
    rw [this]
    rfl
theorem emod_lift (a p r : Int) : (a % 18446744073709551616 * p + r) % 18446744073709551616 = (a * p + r) % 18446744073709551616 := by
  rw [Int.add_emod, Int.mul_emod, Int.emod_emod_of_dvd _ (Int.dvd_refl _), ← Int.mul_emod, ← Int.add_emod]
/-- What was put is told. -/
theorem num_put_from (n : Nat) (h : n < 18446744073709551616) : ∀ (k : Nat) (q : Int), 0 ≤ q → q < 18446744073709551616 → (putL (n : Int) k).foldl numStep q = (q * ((256 ^ k : Nat) : Int) + ((n % 256 ^ k : Nat) : Int)) % 18446744073709551616
  | 0, q, h0, h1 => by
    show q = _
    rw [Nat.pow_zero, Nat.mod_one]
    omega
  | k + 1, q, h0, h1 => by
    have hd := digit_range (n : Int) k
    simp only [putL, List.foldl_cons]
    rw [numStep_eq hd.1 hd.2, num_put_from n h k _ (by omega) (by omega), emod_lift, digit_nat n k h]
    have e : n % 256 ^ (k + 1) = n % 256 ^ k + 256 ^ k * (n / 256 ^ k % 256) := by rw [Nat.pow_succ, Nat.mod_mul]
    rw [e, Nat.pow_succ]
    congr 1
    generalize 256 ^ k = p
    generalize n / p % 256 = d
    generalize n % p = r
    rw [Int.natCast_mul, Int.natCast_add, Int.natCast_mul, Int.add_mul, Int.mul_assoc, Int.mul_comm (256 : Int) (p : Int), Int.mul_comm (d : Int) (p : Int)]
    show q * ((p : Int) * 256) + (p : Int) * (d : Int) + (r : Int) = q * ((p : Int) * 256) + ((r : Int) + (p : Int) * (d : Int))
    rw [Int.add_assoc, Int.add_comm ((p : Int) * (d : Int))]
theorem num_put (x : Int) (h0 : 0 ≤ x) (h1 : x < 18446744073709551616) (k : Nat) : numL (putL x k) = if k < 8 then x % ((256 ^ k : Nat) : Int) else x := by
  obtain ⟨n, rfl⟩ := Int.eq_ofNat_of_zero_le h0
  have hn : n < 18446744073709551616 := by omega
  have := num_put_from n hn k 0 (by decide) (by decide)
  unfold numL
  rw [this, Int.zero_mul, Int.zero_add]
  have hle : n % 256 ^ k ≤ n := Nat.mod_le _ _
  split
  · rw [Int.emod_eq_of_lt (by omega) (by omega)]
    rfl
  · have : n % 256 ^ k = n := Nat.mod_eq_of_lt (Nat.lt_of_lt_of_le hn (Nat.le_trans (by decide : 18446744073709551616 ≤ 256 ^ 8) (Nat.pow_le_pow_right (by decide) (by omega))))
    rw [this]
    omega
theorem Num_any (w : World) (g : Nat) (bs : List Int) (i n : Nat) (en : Bool) (F : Nat → Prop) (hA : All [reader g bs i en] F w) (hF : ∀ k, F k → k < w.heap.size) (hi : i ≤ bs.length) (hn : bs.length ≤ 140737488351232) :
    Calls Try.prog 34 #[.pointer (some ⟨g, 0, none⟩), .int .i64 (n : Int)] w (Ret F w fun v l => (∃ q, v = .int .u64 q) ∧ l = [reader g bs (if en = true ∨ bs.length < i + n then i else i + n) (en || decide (bs.length < i + n))]) := by
  by_cases h : en = true ∨ bs.length < i + n
  · refine (Num_no w g bs i en (n : Int) F hA hF hi hn ?_).mono ?_
    · rcases h with h | h
      · exact .inr (.inl h)
      · exact .inr (.inr (by omega))
    · rintro e w1 ⟨v, l, rfl, ⟨rfl, rfl⟩, H⟩
      refine ⟨_, _, rfl, ⟨⟨_, rfl⟩, rfl⟩, ?_⟩
      rw [if_pos h, show (en || decide (bs.length < i + n)) = true by rcases h with h | h <;> simp [h]]
      exact H
  · have hen : en = false := by cases en <;> simp_all
    subst hen
    refine (Num_yes w g bs i n F hA hF (by omega) hn).mono ?_
    rintro e w1 ⟨v, l, rfl, ⟨rfl, rfl⟩, H⟩
    refine ⟨_, _, rfl, ⟨⟨_, rfl⟩, rfl⟩, ?_⟩
    rw [if_neg h, show (false || decide (bs.length < i + n)) = false by simp; omega]
    exact H
/-- A number of few bytes is small. -/
theorem numR_range : ∀ (l : List Int) (q : Int), (∀ y ∈ l, 0 ≤ y ∧ y ≤ 255) → 0 ≤ q → (q + 1) * ((256 ^ l.length : Nat) : Int) ≤ 18446744073709551616 → 0 ≤ l.foldl refStep q ∧ l.foldl refStep q < (q + 1) * ((256 ^ l.length : Nat) : Int)
  | [], q, _, h0, _ => by simp; omega
  | x :: l, q, h, h0, h1 => by
    have hx := h x List.mem_cons_self
    rw [List.length_cons, Nat.pow_succ] at h1
    have hp : 0 < (256 ^ l.length : Nat) := Nat.pow_pos (by decide)
    simp only [List.foldl_cons, List.length_cons, Nat.pow_succ]
    generalize hP : 256 ^ l.length = p at *
    rw [Int.natCast_mul] at h1 ⊢
    have hle : (q * 256 + x + 1) * (p : Int) ≤ (q + 1) * ((p : Int) * ((256 : Nat) : Int)) := by
      rw [show (q + 1) * ((p : Int) * ((256 : Nat) : Int)) = (q * 256 + 256) * (p : Int) by rw [Int.mul_comm (p : Int), ← Int.mul_assoc]; congr 1; rw [Int.add_mul]; rfl]
      exact Int.mul_le_mul_of_nonneg_right (by omega) (by omega)
    have hone : q * 256 + x + 1 ≤ (q * 256 + x + 1) * (p : Int) := by
      have := Int.mul_le_mul_of_nonneg_left (show (1 : Int) ≤ (p : Int) by omega) (show 0 ≤ q * 256 + x + 1 by omega)
      omega
    have e : refStep q x = q * 256 + x := by rw [refStep_eq hx.1 hx.2]; omega
    rw [e]
    have ih := numR_range l (q * 256 + x) (fun y hy => h y (List.mem_cons_of_mem _ hy)) (by omega) (by rw [hP]; omega)
    rw [hP] at ih
    exact ⟨ih.1, by omega⟩
theorem numR_lt (l : List Int) (h : ∀ y ∈ l, 0 ≤ y ∧ y ≤ 255) (k : Nat) (hl : l.length ≤ k) (hk : k ≤ 8) : 0 ≤ numR l ∧ numR l < ((256 ^ k : Nat) : Int) := by
  have h8 : (256 ^ l.length : Nat) ≤ 256 ^ k := Nat.pow_le_pow_right (by decide) hl
  have h9 : (256 ^ k : Nat) ≤ 256 ^ 8 := Nat.pow_le_pow_right (by decide) hk
  have e8 : (256 ^ 8 : Nat) = 18446744073709551616 := by decide
  have := numR_range l 0 h (by decide) (by omega)
  unfold numR
  omega
theorem bytes_part {bs : List Int} (hby : ∀ y ∈ bs, 0 ≤ y ∧ y ≤ 255) (i m : Nat) : ∀ y ∈ (bs.drop i).take m, 0 ≤ y ∧ y ≤ 255 := fun y hy => hby y (List.mem_of_mem_drop (List.mem_of_mem_take hy))
theorem Num_may (w : World) (g : Nat) (bs : List Int) (i n : Nat) (en : Bool) (F : Nat → Prop) (hA : All [reader g bs i en] F w) (hF : ∀ k, F k → k < w.heap.size) (hi : i ≤ bs.length) (hn : bs.length ≤ 140737488351232) :
    Calls Try.prog 34 #[.pointer (some ⟨g, 0, none⟩), .int .i64 (n : Int)] w (Ret F w fun v l => ∃ (q : Int) (i' : Nat) (en' : Bool), v = .int .u64 q ∧ l = [reader g bs i' en'] ∧ i' ≤ bs.length ∧ (en' = true ∨ (en' = false ∧ en = false ∧ i' = i + n))) := by
  refine (Num_any w g bs i n en F hA hF hi hn).mono ?_
  rintro e w1 ⟨v, l, rfl, ⟨⟨q, rfl⟩, rfl⟩, H⟩
  refine ⟨_, _, rfl, ⟨q, _, _, rfl, rfl, ?_, ?_⟩, H⟩
  · split <;> omega
  · by_cases h : en = true ∨ bs.length < i + n
    · left
      rcases h with h | h <;> simp [h]
    · right
      rw [if_neg h]
      cases en <;> simp_all
set_option maxHeartbeats 4000000 in
set_option maxRecDepth 100000 in
theorem Put_BridgeId (w : World) (A : Option Addr) (n c : Nat) (bs : List Int) (hb : (Kd.int .u8).C w A n bs) (hc : n ≤ c) (hn : n ≤ 140737488351232) (x : Int) (x0 : 0 ≤ x) (x1 : x < 18446744073709551616) (m : Nat) (hm : m ≤ 1000) :
    Calls Try.prog 42 #[.slice A n c, .int .u64 x, .int .i64 (m : Int)] w (Ret (fun _ => False) w fun v l => l = [row (Kd.int .u8) 5 v (bs ++ putL x m)]) := by
  have H := Hp.nothing w
  obtain rfl : bs.length = n := hb.1
  replace hb := Aside0.mk hb
  replace hc := Aside0.mk hc
  replace hn := Aside0.mk hn
  replace hm := Aside0.mk hm
  have hx64 : x % 18446744073709551616 = x := by omega
  replace hx64 := Aside0.mk hx64
  go_enter Try.func42, Try.ntmps42
  go_wp2_with (first | ((with_reducible refine gate_dst (N := 11) rfl ?_); refine ev_ rfl (H.lit (cs := #[]) (e := 5) (n := 0) (by first | (go_simp; done) | (go_simp; rfl))) ?_; rintro v w1 ⟨g0, rfl, H1⟩; replace H := Hp.blk_row (d := Kd.int .u8) [] H1 (.cons (.here _) (.nil _)) (fun _ _ => reps_nil _ _ rfl rfl) rfl (by simp); clear H1) | ((with_reducible refine gate_dst (N := 13) rfl ?_); refine ev_ rfl (H.appendS (.tmp 11) (.tmp 12) 25 (.int .u8 0) 1 rfl rfl (.here _) Try.underlying25 info5 rfl (by decide) rfl (H.data hb.out) ?hl) ?_; (case hl => (try simp only [List.length_nil]); have := hn.out; omega); intro v5 w5 H1; replace H := H1.take (.cons (.here _) (.nil _)); clear H1))
  simp only [List.nil_append] at H
  replace H := Aside0.mk H
  go_loopw [7, 8] (fun v7 v8 wr => ∃ (j : Nat) (acc : List Int), j ≤ 1000 ∧ v8 = .int .i64 (j : Int) ∧ Aside0 (acc ++ putL x j = bs ++ putL x m) ∧ Aside0 (Hp (fun _ => False) w wr [row (Kd.int .u8) 5 v7 acc])) (fun _ v8 _ => (intOf v8).toNat)
  case atStart => exact ⟨m, bs, hm.out, rfl, ⟨rfl⟩, ⟨H.out⟩⟩
  case round =>
    rename_i v7 v8
    obtain ⟨j, acc, hj, rfl, he, H⟩ := hrel
    replace H := H.out
    have hla : acc.length ≤ 140737488352232 := by
      have := congrArg List.length he.out
      rw [List.length_append, List.length_append, putL_length, putL_length] at this
      have := hn.out; have := hm.out
      omega
    replace hla := Aside0.mk hla
    cases j with
    | zero =>
      replace he := he.out
      rw [putL, List.append_nil] at he
      subst he
      go_wp2_with fail
      go_ret
      exact ⟨_, _, rfl, rfl, H⟩
    | succ j =>
      obtain ⟨A7, c7, rfl, hc7, HC7⟩ := H.reads (.here _)
      clear hc7 HC7
      have e1 : ((j + 1 : Nat) : Int) - 1 = (j : Int) := by omega
      have e2 : decide (0 < ((j + 1 : Nat) : Int)) = true := decide_eq_true (by omega)
      by_cases h8 : j < 8
      · obtain ⟨D, hD⟩ : ∃ D : Int, x / 2 ^ (8 * j) = D := ⟨_, rfl⟩
        have d1 : x / 2 ^ min (8 * (j : Int)).toNat 64 = D := by rw [← hD, Nat.min_eq_left (by omega)]; congr 2
        have d2 : x / 2 ^ (8 * (j : Int)).toNat = D := by rw [← hD]; congr 2
        have d3 : x / 2 ^ min (8 * j) 64 = D := by rw [← hD, Nat.min_eq_left (by omega)]
        have hdig : D % 256 = digit x j := by
          rw [← hD, digit, if_pos h8, Int.pow_mul]
          rfl
        have hnew : (acc ++ [D % 256]) ++ putL x j = bs ++ putL x m := by rw [← he.out, hdig]; simp [putL]
        clear he
        have f1 : decide (j < 8) = true := decide_eq_true h8
        have f2 : decide ((j : Int) < 8) = true := decide_eq_true (by omega)
        replace hdig := Aside0.mk hdig
        replace hnew := Aside0.mk hnew
        go_wp2_with (first | ((with_reducible refine gate_dst (N := 31) rfl ?_); refine ev_ rfl (H.lit (cs := #[.int .u8 (D % 256)]) (e := 5) (n := 1) (by first | (go_simp; done) | (go_simp; rfl))) ?_; rintro v w1 ⟨g0, rfl, H1⟩; replace H := Hp.blk_row (d := Kd.int .u8) [D % 256] H1 (.cons (.here _) (.nil _)) (fun _ _ => reps_one _) rfl (by simp); clear H1) | ((with_reducible refine gate_dst (N := 32) rfl ?_); refine ev_ rfl (H.appendS (.tmp 28) (.tmp 31) 25 (.int .u8 0) 1 rfl rfl (.there _ (.here _)) Try.underlying25 info5 rfl (by decide) rfl (H.readsN (.here _)) ?hl) ?_; (case hl => (try simp only [List.length_nil]); (try simp only [List.length_cons, List.length_nil]); have := hla.out; omega); intro v5 w5 H1; replace H := H1.take (.cons (.here _) (.nil _)); clear H1))
        replace H := Aside0.mk H
        go_roundw
        case rel => exact ⟨j, _, by omega, by go_num, hnew, H⟩
        case measure => simp [intOf] <;> omega
      · have hdig : (0 : Int) = digit x j := by rw [digit, if_neg h8]
        have hnew : (acc ++ [(0 : Int)]) ++ putL x j = bs ++ putL x m := by rw [← he.out, hdig]; simp [putL]
        clear he
        have f1 : decide (j < 8) = false := decide_eq_false h8
        have f2 : decide ((j : Int) < 8) = false := decide_eq_false (by omega)
        replace hdig := Aside0.mk hdig
        replace hnew := Aside0.mk hnew
        go_wp2_with (first | ((with_reducible refine gate_dst (N := 31) rfl ?_); refine ev_ rfl (H.lit (cs := #[.int .u8 0]) (e := 5) (n := 1) (by first | (go_simp; done) | (go_simp; rfl))) ?_; rintro v w1 ⟨g0, rfl, H1⟩; replace H := Hp.blk_row (d := Kd.int .u8) [0] H1 (.cons (.here _) (.nil _)) (fun _ _ => reps_one _) rfl (by simp); clear H1) | ((with_reducible refine gate_dst (N := 32) rfl ?_); refine ev_ rfl (H.appendS (.tmp 28) (.tmp 31) 25 (.int .u8 0) 1 rfl rfl (.there _ (.here _)) Try.underlying25 info5 rfl (by decide) rfl (H.readsN (.here _)) ?hl) ?_; (case hl => (try simp only [List.length_nil]); (try simp only [List.length_cons, List.length_nil]); have := hla.out; omega); intro v5 w5 H1; replace H := H1.take (.cons (.here _) (.nil _)); clear H1))
        replace H := Aside0.mk H
        go_roundw
        case rel => exact ⟨j, _, by omega, by go_num, hnew, H⟩
        case measure => simp [intOf] <;> omega

set_option maxHeartbeats 4000000 in
set_option maxRecDepth 100000 in
theorem Put_uint16 (w : World) (A : Option Addr) (n c : Nat) (bs : List Int) (hb : (Kd.int .u8).C w A n bs) (hc : n ≤ c) (hn : n ≤ 140737488351232) (x : Int) (x0 : 0 ≤ x) (x1 : x < 65536) (m : Nat) (hm : m ≤ 1000) :
    Calls Try.prog 31 #[.slice A n c, .int .u16 x, .int .i64 (m : Int)] w (Ret (fun _ => False) w fun v l => l = [row (Kd.int .u8) 5 v (bs ++ putL x m)]) := by
  have H := Hp.nothing w
  obtain rfl : bs.length = n := hb.1
  replace hb := Aside0.mk hb
  replace hc := Aside0.mk hc
  replace hn := Aside0.mk hn
  replace hm := Aside0.mk hm
  have hx64 : x % 18446744073709551616 = x := by omega
  replace hx64 := Aside0.mk hx64
  go_enter Try.func31, Try.ntmps31
  go_wp2_with (first | ((with_reducible refine gate_dst (N := 11) rfl ?_); refine ev_ rfl (H.lit (cs := #[]) (e := 5) (n := 0) (by first | (go_simp; done) | (go_simp; rfl))) ?_; rintro v w1 ⟨g0, rfl, H1⟩; replace H := Hp.blk_row (d := Kd.int .u8) [] H1 (.cons (.here _) (.nil _)) (fun _ _ => reps_nil _ _ rfl rfl) rfl (by simp); clear H1) | ((with_reducible refine gate_dst (N := 13) rfl ?_); refine ev_ rfl (H.appendS (.tmp 11) (.tmp 12) 25 (.int .u8 0) 1 rfl rfl (.here _) Try.underlying25 info5 rfl (by decide) rfl (H.data hb.out) ?hl) ?_; (case hl => (try simp only [List.length_nil]); have := hn.out; omega); intro v5 w5 H1; replace H := H1.take (.cons (.here _) (.nil _)); clear H1))
  simp only [List.nil_append] at H
  replace H := Aside0.mk H
  go_loopw [7, 8] (fun v7 v8 wr => ∃ (j : Nat) (acc : List Int), j ≤ 1000 ∧ v8 = .int .i64 (j : Int) ∧ Aside0 (acc ++ putL x j = bs ++ putL x m) ∧ Aside0 (Hp (fun _ => False) w wr [row (Kd.int .u8) 5 v7 acc])) (fun _ v8 _ => (intOf v8).toNat)
  case atStart => exact ⟨m, bs, hm.out, rfl, ⟨rfl⟩, ⟨H.out⟩⟩
  case round =>
    rename_i v7 v8
    obtain ⟨j, acc, hj, rfl, he, H⟩ := hrel
    replace H := H.out
    have hla : acc.length ≤ 140737488352232 := by
      have := congrArg List.length he.out
      rw [List.length_append, List.length_append, putL_length, putL_length] at this
      have := hn.out; have := hm.out
      omega
    replace hla := Aside0.mk hla
    cases j with
    | zero =>
      replace he := he.out
      rw [putL, List.append_nil] at he
      subst he
      go_wp2_with fail
      go_ret
      exact ⟨_, _, rfl, rfl, H⟩
    | succ j =>
      obtain ⟨A7, c7, rfl, hc7, HC7⟩ := H.reads (.here _)
      clear hc7 HC7
      have e1 : ((j + 1 : Nat) : Int) - 1 = (j : Int) := by omega
      have e2 : decide (0 < ((j + 1 : Nat) : Int)) = true := decide_eq_true (by omega)
      by_cases h8 : j < 8
      · obtain ⟨D, hD⟩ : ∃ D : Int, x / 2 ^ (8 * j) = D := ⟨_, rfl⟩
        have d1 : x / 2 ^ min (8 * (j : Int)).toNat 64 = D := by rw [← hD, Nat.min_eq_left (by omega)]; congr 2
        have d2 : x / 2 ^ (8 * (j : Int)).toNat = D := by rw [← hD]; congr 2
        have d3 : x / 2 ^ min (8 * j) 64 = D := by rw [← hD, Nat.min_eq_left (by omega)]
        have hdig : D % 256 = digit x j := by
          rw [← hD, digit, if_pos h8, Int.pow_mul]
          rfl
        have hnew : (acc ++ [D % 256]) ++ putL x j = bs ++ putL x m := by rw [← he.out, hdig]; simp [putL]
        clear he
        have f1 : decide (j < 8) = true := decide_eq_true h8
        have f2 : decide ((j : Int) < 8) = true := decide_eq_true (by omega)
        replace hdig := Aside0.mk hdig
        replace hnew := Aside0.mk hnew
        go_wp2_with (first | ((with_reducible refine gate_dst (N := 32) rfl ?_); refine ev_ rfl (H.lit (cs := #[.int .u8 (D % 256)]) (e := 5) (n := 1) (by first | (go_simp; done) | (go_simp; rfl))) ?_; rintro v w1 ⟨g0, rfl, H1⟩; replace H := Hp.blk_row (d := Kd.int .u8) [D % 256] H1 (.cons (.here _) (.nil _)) (fun _ _ => reps_one _) rfl (by simp); clear H1) | ((with_reducible refine gate_dst (N := 33) rfl ?_); refine ev_ rfl (H.appendS (.tmp 29) (.tmp 32) 25 (.int .u8 0) 1 rfl rfl (.there _ (.here _)) Try.underlying25 info5 rfl (by decide) rfl (H.readsN (.here _)) ?hl) ?_; (case hl => (try simp only [List.length_nil]); (try simp only [List.length_cons, List.length_nil]); have := hla.out; omega); intro v5 w5 H1; replace H := H1.take (.cons (.here _) (.nil _)); clear H1))
        replace H := Aside0.mk H
        go_roundw
        case rel => exact ⟨j, _, by omega, by go_num, hnew, H⟩
        case measure => simp [intOf] <;> omega
      · have hdig : (0 : Int) = digit x j := by rw [digit, if_neg h8]
        have hnew : (acc ++ [(0 : Int)]) ++ putL x j = bs ++ putL x m := by rw [← he.out, hdig]; simp [putL]
        clear he
        have f1 : decide (j < 8) = false := decide_eq_false h8
        have f2 : decide ((j : Int) < 8) = false := decide_eq_false (by omega)
        replace hdig := Aside0.mk hdig
        replace hnew := Aside0.mk hnew
        go_wp2_with (first | ((with_reducible refine gate_dst (N := 32) rfl ?_); refine ev_ rfl (H.lit (cs := #[.int .u8 0]) (e := 5) (n := 1) (by first | (go_simp; done) | (go_simp; rfl))) ?_; rintro v w1 ⟨g0, rfl, H1⟩; replace H := Hp.blk_row (d := Kd.int .u8) [0] H1 (.cons (.here _) (.nil _)) (fun _ _ => reps_one _) rfl (by simp); clear H1) | ((with_reducible refine gate_dst (N := 33) rfl ?_); refine ev_ rfl (H.appendS (.tmp 29) (.tmp 32) 25 (.int .u8 0) 1 rfl rfl (.there _ (.here _)) Try.underlying25 info5 rfl (by decide) rfl (H.readsN (.here _)) ?hl) ?_; (case hl => (try simp only [List.length_nil]); (try simp only [List.length_cons, List.length_nil]); have := hla.out; omega); intro v5 w5 H1; replace H := H1.take (.cons (.here _) (.nil _)); clear H1))
        replace H := Aside0.mk H
        go_roundw
        case rel => exact ⟨j, _, by omega, by go_num, hnew, H⟩
        case measure => simp [intOf] <;> omega

set_option maxHeartbeats 4000000 in
set_option maxRecDepth 100000 in
theorem Put_uint32 (w : World) (A : Option Addr) (n c : Nat) (bs : List Int) (hb : (Kd.int .u8).C w A n bs) (hc : n ≤ c) (hn : n ≤ 140737488351232) (x : Int) (x0 : 0 ≤ x) (x1 : x < 4294967296) (m : Nat) (hm : m ≤ 1000) :
    Calls Try.prog 39 #[.slice A n c, .int .u32 x, .int .i64 (m : Int)] w (Ret (fun _ => False) w fun v l => l = [row (Kd.int .u8) 5 v (bs ++ putL x m)]) := by
  have H := Hp.nothing w
  obtain rfl : bs.length = n := hb.1
  replace hb := Aside0.mk hb
  replace hc := Aside0.mk hc
  replace hn := Aside0.mk hn
  replace hm := Aside0.mk hm
  have hx64 : x % 18446744073709551616 = x := by omega
  replace hx64 := Aside0.mk hx64
  go_enter Try.func39, Try.ntmps39
  go_wp2_with (first | ((with_reducible refine gate_dst (N := 11) rfl ?_); refine ev_ rfl (H.lit (cs := #[]) (e := 5) (n := 0) (by first | (go_simp; done) | (go_simp; rfl))) ?_; rintro v w1 ⟨g0, rfl, H1⟩; replace H := Hp.blk_row (d := Kd.int .u8) [] H1 (.cons (.here _) (.nil _)) (fun _ _ => reps_nil _ _ rfl rfl) rfl (by simp); clear H1) | ((with_reducible refine gate_dst (N := 13) rfl ?_); refine ev_ rfl (H.appendS (.tmp 11) (.tmp 12) 25 (.int .u8 0) 1 rfl rfl (.here _) Try.underlying25 info5 rfl (by decide) rfl (H.data hb.out) ?hl) ?_; (case hl => (try simp only [List.length_nil]); have := hn.out; omega); intro v5 w5 H1; replace H := H1.take (.cons (.here _) (.nil _)); clear H1))
  simp only [List.nil_append] at H
  replace H := Aside0.mk H
  go_loopw [7, 8] (fun v7 v8 wr => ∃ (j : Nat) (acc : List Int), j ≤ 1000 ∧ v8 = .int .i64 (j : Int) ∧ Aside0 (acc ++ putL x j = bs ++ putL x m) ∧ Aside0 (Hp (fun _ => False) w wr [row (Kd.int .u8) 5 v7 acc])) (fun _ v8 _ => (intOf v8).toNat)
  case atStart => exact ⟨m, bs, hm.out, rfl, ⟨rfl⟩, ⟨H.out⟩⟩
  case round =>
    rename_i v7 v8
    obtain ⟨j, acc, hj, rfl, he, H⟩ := hrel
    replace H := H.out
    have hla : acc.length ≤ 140737488352232 := by
      have := congrArg List.length he.out
      rw [List.length_append, List.length_append, putL_length, putL_length] at this
      have := hn.out; have := hm.out
      omega
    replace hla := Aside0.mk hla
    cases j with
    | zero =>
      replace he := he.out
      rw [putL, List.append_nil] at he
      subst he
      go_wp2_with fail
      go_ret
      exact ⟨_, _, rfl, rfl, H⟩
    | succ j =>
      obtain ⟨A7, c7, rfl, hc7, HC7⟩ := H.reads (.here _)
      clear hc7 HC7
      have e1 : ((j + 1 : Nat) : Int) - 1 = (j : Int) := by omega
      have e2 : decide (0 < ((j + 1 : Nat) : Int)) = true := decide_eq_true (by omega)
      by_cases h8 : j < 8
      · obtain ⟨D, hD⟩ : ∃ D : Int, x / 2 ^ (8 * j) = D := ⟨_, rfl⟩
        have d1 : x / 2 ^ min (8 * (j : Int)).toNat 64 = D := by rw [← hD, Nat.min_eq_left (by omega)]; congr 2
        have d2 : x / 2 ^ (8 * (j : Int)).toNat = D := by rw [← hD]; congr 2
        have d3 : x / 2 ^ min (8 * j) 64 = D := by rw [← hD, Nat.min_eq_left (by omega)]
        have hdig : D % 256 = digit x j := by
          rw [← hD, digit, if_pos h8, Int.pow_mul]
          rfl
        have hnew : (acc ++ [D % 256]) ++ putL x j = bs ++ putL x m := by rw [← he.out, hdig]; simp [putL]
        clear he
        have f1 : decide (j < 8) = true := decide_eq_true h8
        have f2 : decide ((j : Int) < 8) = true := decide_eq_true (by omega)
        replace hdig := Aside0.mk hdig
        replace hnew := Aside0.mk hnew
        go_wp2_with (first | ((with_reducible refine gate_dst (N := 32) rfl ?_); refine ev_ rfl (H.lit (cs := #[.int .u8 (D % 256)]) (e := 5) (n := 1) (by first | (go_simp; done) | (go_simp; rfl))) ?_; rintro v w1 ⟨g0, rfl, H1⟩; replace H := Hp.blk_row (d := Kd.int .u8) [D % 256] H1 (.cons (.here _) (.nil _)) (fun _ _ => reps_one _) rfl (by simp); clear H1) | ((with_reducible refine gate_dst (N := 33) rfl ?_); refine ev_ rfl (H.appendS (.tmp 29) (.tmp 32) 25 (.int .u8 0) 1 rfl rfl (.there _ (.here _)) Try.underlying25 info5 rfl (by decide) rfl (H.readsN (.here _)) ?hl) ?_; (case hl => (try simp only [List.length_nil]); (try simp only [List.length_cons, List.length_nil]); have := hla.out; omega); intro v5 w5 H1; replace H := H1.take (.cons (.here _) (.nil _)); clear H1))
        replace H := Aside0.mk H
        go_roundw
        case rel => exact ⟨j, _, by omega, by go_num, hnew, H⟩
        case measure => simp [intOf] <;> omega
      · have hdig : (0 : Int) = digit x j := by rw [digit, if_neg h8]
        have hnew : (acc ++ [(0 : Int)]) ++ putL x j = bs ++ putL x m := by rw [← he.out, hdig]; simp [putL]
        clear he
        have f1 : decide (j < 8) = false := decide_eq_false h8
        have f2 : decide ((j : Int) < 8) = false := decide_eq_false (by omega)
        replace hdig := Aside0.mk hdig
        replace hnew := Aside0.mk hnew
        go_wp2_with (first | ((with_reducible refine gate_dst (N := 32) rfl ?_); refine ev_ rfl (H.lit (cs := #[.int .u8 0]) (e := 5) (n := 1) (by first | (go_simp; done) | (go_simp; rfl))) ?_; rintro v w1 ⟨g0, rfl, H1⟩; replace H := Hp.blk_row (d := Kd.int .u8) [0] H1 (.cons (.here _) (.nil _)) (fun _ _ => reps_one _) rfl (by simp); clear H1) | ((with_reducible refine gate_dst (N := 33) rfl ?_); refine ev_ rfl (H.appendS (.tmp 29) (.tmp 32) 25 (.int .u8 0) 1 rfl rfl (.there _ (.here _)) Try.underlying25 info5 rfl (by decide) rfl (H.readsN (.here _)) ?hl) ?_; (case hl => (try simp only [List.length_nil]); (try simp only [List.length_cons, List.length_nil]); have := hla.out; omega); intro v5 w5 H1; replace H := H1.take (.cons (.here _) (.nil _)); clear H1))
        replace H := Aside0.mk H
        go_roundw
        case rel => exact ⟨j, _, by omega, by go_num, hnew, H⟩
        case measure => simp [intOf] <;> omega

set_option maxHeartbeats 4000000 in
set_option maxRecDepth 100000 in
theorem Put_uint8 (w : World) (A : Option Addr) (n c : Nat) (bs : List Int) (hb : (Kd.int .u8).C w A n bs) (hc : n ≤ c) (hn : n ≤ 140737488351232) (x : Int) (x0 : 0 ≤ x) (x1 : x < 256) (m : Nat) (hm : m ≤ 1000) :
    Calls Try.prog 40 #[.slice A n c, .int .u8 x, .int .i64 (m : Int)] w (Ret (fun _ => False) w fun v l => l = [row (Kd.int .u8) 5 v (bs ++ putL x m)]) := by
  have H := Hp.nothing w
  obtain rfl : bs.length = n := hb.1
  replace hb := Aside0.mk hb
  replace hc := Aside0.mk hc
  replace hn := Aside0.mk hn
  replace hm := Aside0.mk hm
  have hx64 : x % 18446744073709551616 = x := by omega
  replace hx64 := Aside0.mk hx64
  go_enter Try.func40, Try.ntmps40
  go_wp2_with (first | ((with_reducible refine gate_dst (N := 11) rfl ?_); refine ev_ rfl (H.lit (cs := #[]) (e := 5) (n := 0) (by first | (go_simp; done) | (go_simp; rfl))) ?_; rintro v w1 ⟨g0, rfl, H1⟩; replace H := Hp.blk_row (d := Kd.int .u8) [] H1 (.cons (.here _) (.nil _)) (fun _ _ => reps_nil _ _ rfl rfl) rfl (by simp); clear H1) | ((with_reducible refine gate_dst (N := 13) rfl ?_); refine ev_ rfl (H.appendS (.tmp 11) (.tmp 12) 25 (.int .u8 0) 1 rfl rfl (.here _) Try.underlying25 info5 rfl (by decide) rfl (H.data hb.out) ?hl) ?_; (case hl => (try simp only [List.length_nil]); have := hn.out; omega); intro v5 w5 H1; replace H := H1.take (.cons (.here _) (.nil _)); clear H1))
  simp only [List.nil_append] at H
  replace H := Aside0.mk H
  go_loopw [7, 8] (fun v7 v8 wr => ∃ (j : Nat) (acc : List Int), j ≤ 1000 ∧ v8 = .int .i64 (j : Int) ∧ Aside0 (acc ++ putL x j = bs ++ putL x m) ∧ Aside0 (Hp (fun _ => False) w wr [row (Kd.int .u8) 5 v7 acc])) (fun _ v8 _ => (intOf v8).toNat)
  case atStart => exact ⟨m, bs, hm.out, rfl, ⟨rfl⟩, ⟨H.out⟩⟩
  case round =>
    rename_i v7 v8
    obtain ⟨j, acc, hj, rfl, he, H⟩ := hrel
    replace H := H.out
    have hla : acc.length ≤ 140737488352232 := by
      have := congrArg List.length he.out
      rw [List.length_append, List.length_append, putL_length, putL_length] at this
      have := hn.out; have := hm.out
      omega
    replace hla := Aside0.mk hla
    cases j with
    | zero =>
      replace he := he.out
      rw [putL, List.append_nil] at he
      subst he
      go_wp2_with fail
      go_ret
      exact ⟨_, _, rfl, rfl, H⟩
    | succ j =>
      obtain ⟨A7, c7, rfl, hc7, HC7⟩ := H.reads (.here _)
      clear hc7 HC7
      have e1 : ((j + 1 : Nat) : Int) - 1 = (j : Int) := by omega
      have e2 : decide (0 < ((j + 1 : Nat) : Int)) = true := decide_eq_true (by omega)
      by_cases h8 : j < 8
      · obtain ⟨D, hD⟩ : ∃ D : Int, x / 2 ^ (8 * j) = D := ⟨_, rfl⟩
        have d1 : x / 2 ^ min (8 * (j : Int)).toNat 64 = D := by rw [← hD, Nat.min_eq_left (by omega)]; congr 2
        have d2 : x / 2 ^ (8 * (j : Int)).toNat = D := by rw [← hD]; congr 2
        have d3 : x / 2 ^ min (8 * j) 64 = D := by rw [← hD, Nat.min_eq_left (by omega)]
        have hdig : D % 256 = digit x j := by
          rw [← hD, digit, if_pos h8, Int.pow_mul]
          rfl
        have hnew : (acc ++ [D % 256]) ++ putL x j = bs ++ putL x m := by rw [← he.out, hdig]; simp [putL]
        clear he
        have f1 : decide (j < 8) = true := decide_eq_true h8
        have f2 : decide ((j : Int) < 8) = true := decide_eq_true (by omega)
        replace hdig := Aside0.mk hdig
        replace hnew := Aside0.mk hnew
        go_wp2_with (first | ((with_reducible refine gate_dst (N := 32) rfl ?_); refine ev_ rfl (H.lit (cs := #[.int .u8 (D % 256)]) (e := 5) (n := 1) (by first | (go_simp; done) | (go_simp; rfl))) ?_; rintro v w1 ⟨g0, rfl, H1⟩; replace H := Hp.blk_row (d := Kd.int .u8) [D % 256] H1 (.cons (.here _) (.nil _)) (fun _ _ => reps_one _) rfl (by simp); clear H1) | ((with_reducible refine gate_dst (N := 33) rfl ?_); refine ev_ rfl (H.appendS (.tmp 29) (.tmp 32) 25 (.int .u8 0) 1 rfl rfl (.there _ (.here _)) Try.underlying25 info5 rfl (by decide) rfl (H.readsN (.here _)) ?hl) ?_; (case hl => (try simp only [List.length_nil]); (try simp only [List.length_cons, List.length_nil]); have := hla.out; omega); intro v5 w5 H1; replace H := H1.take (.cons (.here _) (.nil _)); clear H1))
        replace H := Aside0.mk H
        go_roundw
        case rel => exact ⟨j, _, by omega, by go_num, hnew, H⟩
        case measure => simp [intOf] <;> omega
      · have hdig : (0 : Int) = digit x j := by rw [digit, if_neg h8]
        have hnew : (acc ++ [(0 : Int)]) ++ putL x j = bs ++ putL x m := by rw [← he.out, hdig]; simp [putL]
        clear he
        have f1 : decide (j < 8) = false := decide_eq_false h8
        have f2 : decide ((j : Int) < 8) = false := decide_eq_false (by omega)
        replace hdig := Aside0.mk hdig
        replace hnew := Aside0.mk hnew
        go_wp2_with (first | ((with_reducible refine gate_dst (N := 32) rfl ?_); refine ev_ rfl (H.lit (cs := #[.int .u8 0]) (e := 5) (n := 1) (by first | (go_simp; done) | (go_simp; rfl))) ?_; rintro v w1 ⟨g0, rfl, H1⟩; replace H := Hp.blk_row (d := Kd.int .u8) [0] H1 (.cons (.here _) (.nil _)) (fun _ _ => reps_one _) rfl (by simp); clear H1) | ((with_reducible refine gate_dst (N := 33) rfl ?_); refine ev_ rfl (H.appendS (.tmp 29) (.tmp 32) 25 (.int .u8 0) 1 rfl rfl (.there _ (.here _)) Try.underlying25 info5 rfl (by decide) rfl (H.readsN (.here _)) ?hl) ?_; (case hl => (try simp only [List.length_nil]); (try simp only [List.length_cons, List.length_nil]); have := hla.out; omega); intro v5 w5 H1; replace H := H1.take (.cons (.here _) (.nil _)); clear H1))
        replace H := Aside0.mk H
        go_roundw
        case rel => exact ⟨j, _, by omega, by go_num, hnew, H⟩
        case measure => simp [intOf] <;> omega

attribute [irreducible] reader
end Go.Proofs.Ytdmlpcbmmdddbaa.Wire
