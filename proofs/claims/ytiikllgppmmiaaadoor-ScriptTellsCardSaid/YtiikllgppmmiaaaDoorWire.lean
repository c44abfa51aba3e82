import Derived.Test.YtiikllgppmmiaaaDoorSep
import Derived.Test.YtiikllgppmmiaaaDoorAr
import Derived.Test.YtiikllgppmmiaaaDoorProg
namespace Go.Proofs.YtiikllgppmmiaaaDoor.Wire
open Go.RowKit Go.Proofs.YtiikllgppmmiaaaDoorW.PrintWords Go.Proofs.YtiikllgppmmiaaaDoorW.PrintLast Go.Proofs.YtiikllgppmmiaaaDoorW.PrintMore
set_option linter.unusedVariables false
set_option linter.unusedSimpArgs false
open Go.Proofs.YtiikllgppmmiaaaDoor.Sep
theorem info5 : (Tryd.prog.info? 5).map (fun i => (i.zero, i.size, i.bytes)) = some (some (.int .u8 0), 1, 1) := by kernel_rfl
/-- A reader at block g: its bytes, how many of them are read, whether it came to the end too soon. -/
def reader (g : Nat) (bs : List Int) (i : Nat) (en : Bool) : SP := ex fun v : Value => star [blk g #[v, .int .i64 (i : Int), .bool en] 87, row (Kd.int .u8) 5 v bs]
set_option maxHeartbeats 1000000 in
set_option maxRecDepth 100000 in
theorem New_calls (w : World) (A : Option Addr) (n c : Nat) (bs : List Int) (hc : (Kd.int .u8).C w A n bs) (hn : n ≤ 140737488351232) :
    Calls Tryd.prog 22 #[.slice A n c] w (Ret (fun _ => False) w fun v l => ∃ g, v = .pointer (some ⟨g, 0, none⟩) ∧ l = [reader g bs 0 false]) := by
  have H := Hp.nothing w
  have HC := Aside0.mk hc
  clear hc
  go_enter Tryd.func22, Tryd.ntmps22
  go_wp2_with (first
    | ((with_reducible refine gate_dst (N := 3) rfl ?_); refine ev_ rfl (H.lit (cs := #[]) (e := 5) (n := 0) (by first | (go_simp; done) | (go_simp; rfl))) ?_; rintro v w1 ⟨g, rfl, H1⟩; replace H := Hp.blk_row (d := Kd.int .u8) [] H1 (.cons (.here _) (.nil _)) (fun _ _ => reps_nil _ _ rfl rfl) rfl (Nat.zero_le _))
    | ((with_reducible refine gate_dst (N := 5) rfl ?_); refine ev_ rfl (H.appendS (.tmp 3) (.tmp 4) 22 (.int .u8 0) 1 rfl rfl (.here _) Tryd.underlying22 info5 rfl (by decide) rfl (H.data HC.out) (by simp; omega)) ?_; intro v5 w5 H1; obtain ⟨A5, c5, rfl, -, -⟩ := H1.reads (.here _); replace H := H1)
    | ((with_reducible refine gate_dst (N := 7) rfl ?_); refine ev_ rfl (H.new (cs := #[.slice A5 ([] ++ bs).length c5, .int .i64 0, .bool false]) (t := 87) (by first | (go_simp; done) | (go_simp; rfl))) ?_; rintro v w7 ⟨g, rfl, H1⟩; replace H := H1))
  go_ret
  exact ⟨_, _, rfl, ⟨_, rfl, rfl⟩, (H.shut_star (.cons (.here _) (.cons (.here _) (.nil _)))).shut_ex _ (f := fun v => star [blk g #[v, .int .i64 ((0 : Nat) : Int), .bool false] 87, row (Kd.int .u8) 5 v ([] ++ bs)]) (.here _)⟩
theorem info5s : (Tryd.prog.info? 5).map (·.size) = some 1 := by kernel_rfl
theorem info3s : (Tryd.prog.info? 3).map (·.size) = some 1 := by kernel_rfl
set_option maxHeartbeats 1000000 in
set_option maxRecDepth 100000 in
theorem Bytes_yes (w : World) (g : Nat) (bs : List Int) (i n : Nat) (F : Nat → Prop) (hA : All [reader g bs i false] F w) (hF : ∀ k, F k → k < w.heap.size) (hi : i + n ≤ bs.length) (hn : bs.length ≤ 140737488351232) :
    Calls Tryd.prog 25 #[.pointer (some ⟨g, 0, none⟩), .int .i64 (n : Int)] w (Ret F w fun v l => l = [row (Kd.int .u8) 5 v ((bs.drop i).take n), reader g bs (i + n) false]) := by
  obtain ⟨v0, H⟩ := Hp.open_ex (Hp.start F w hA hF) (.here _)
  replace H := H.open_star (.here _)
  obtain ⟨A0, c0, rfl, hc0, HC0⟩ := H.reads (.there _ (.here _))
  replace HC0 := Aside0.mk HC0
  replace hc0 := Aside0.mk hc0
  have c1 : decide ((n : Int) < 0) = false := decide_eq_false (by omega)
  have c2 : decide (wrap64 ((bs.length : Int) - (i : Int)) < (n : Int)) = false := by rw [show wrap64 ((bs.length : Int) - (i : Int)) = (bs.length : Int) - (i : Int) from by unfold wrap64; omega]; exact decide_eq_false (by omega)
  have c3 : wrap64 ((i : Int) + (n : Int)) = ((i + n : Nat) : Int) := by unfold wrap64; omega
  replace hi := Aside0.mk hi
  replace hn := Aside0.mk hn
  go_enter Tryd.func25, Tryd.ntmps25
  go_wp2_with fail
  refine startH H (n := 22) [] #[false, false, false, false, false, false, false, false, false, false, false, false, false, false, false, false, false, false, false, false, false, false] (by kernel_rfl) rfl rfl (fun hHeld => ?_)
  refine pure_ (i := 0) (N := some 6) (v := ?_) (a' := ?_) #[true, false, false, false, false, false, false, false, false, false, false, false, false, false, false, false, false, false, false, false, false, false] rfl rfl (by kernel_rfl) (fun _ _ _ h => h) (Or.inl ⟨by rfl, ?_⟩) ?_ ?_
  rotate_left
  · intro w'
    go_simp
    with_reducible rfl
  rotate_left
  · simp only [Act.put, List.setIfInBounds_toArray, List.set_cons_zero, List.set_cons_succ, i64_w, i32_w]
    rfl
  refine pure_ (i := 1) (N := some 7) (v := ?_) (a' := ?_) #[true, true, false, false, false, false, false, false, false, false, false, false, false, false, false, false, false, false, false, false, false, false] rfl rfl (by kernel_rfl) (fun _ _ _ h => h) (Or.inl ⟨by rfl, ?_⟩) ?_ ?_
  rotate_left
  · intro w'
    go_simp
    with_reducible rfl
  rotate_left
  · simp only [Act.put, List.setIfInBounds_toArray, List.set_cons_zero, List.set_cons_succ, i64_w, i32_w]
    rfl
  refine pure_ (i := 2) (N := some 8) (v := ?_) (a' := ?_) #[true, true, true, false, false, false, false, false, false, false, false, false, false, false, false, false, false, false, false, false, false, false] rfl rfl (by kernel_rfl) (fun _ _ _ h => h) (Or.inl ⟨by rfl, ?_⟩) ?_ ?_
  rotate_left
  · intro w'
    go_simp
    with_reducible rfl
  rotate_left
  · simp only [Act.put, List.setIfInBounds_toArray, List.set_cons_zero, List.set_cons_succ, i64_w, i32_w]
    rfl
  refine pure_ (i := 3) (N := some 9) (v := ?_) (a' := ?_) #[true, true, true, true, false, false, false, false, false, false, false, false, false, false, false, false, false, false, false, false, false, false] rfl rfl (by kernel_rfl) (fun _ _ _ h => h) (Or.inl ⟨by rfl, ?_⟩) ?_ ?_
  rotate_left
  · intro w'
    go_simp
    with_reducible rfl
  rotate_left
  · simp only [Act.put, List.setIfInBounds_toArray, List.set_cons_zero, List.set_cons_succ, i64_w, i32_w]
    rfl
  refine pure_ (i := 4) (N := some 10) (v := ?_) (a' := ?_) #[true, true, true, true, true, false, false, false, false, false, false, false, false, false, false, false, false, false, false, false, false, false] rfl rfl (by kernel_rfl) (fun _ _ _ h => h) (Or.inl ⟨by rfl, ?_⟩) ?_ ?_
  rotate_left
  · intro w'
    go_simp
    with_reducible rfl
  rotate_left
  · simp only [Act.put, List.setIfInBounds_toArray, List.set_cons_zero, List.set_cons_succ, i64_w, i32_w]
    rfl
  refine pure_ (i := 5) (N := some 11) (v := ?_) (a' := ?_) #[true, true, true, true, true, true, false, false, false, false, false, false, false, false, false, false, false, false, false, false, false, false] rfl rfl (by kernel_rfl) (fun _ _ _ h => h) (Or.inl ⟨by rfl, ?_⟩) ?_ ?_
  rotate_left
  · intro w'
    go_simp
    with_reducible rfl
  rotate_left
  · simp only [Act.put, List.setIfInBounds_toArray, List.set_cons_zero, List.set_cons_succ, i64_w, i32_w]
    rfl
  refine take_ (i := 6) (N := some 12) (v := _) (a' := ?_) #[true, true, true, true, true, true, true, false, false, false, false, false, false, false, false, false, false, false, false, false, false, false] rfl rfl (by kernel_rfl) (fun _ _ _ h => h) (Or.inl ⟨by rfl, fun w2 h => h.load1 4 (.tmp 11) rfl rfl (.here _) Tryd.underlying4 rfl rfl⟩) hHeld ?_ ?_
  rotate_left
  · simp only [Act.put, List.setIfInBounds_toArray, List.set_cons_zero, List.set_cons_succ, i64_w, i32_w]
    rfl
  refine pure_ (i := 7) (N := some 13) (v := ?_) (a' := ?_) #[true, true, true, true, true, true, true, true, false, false, false, false, false, false, false, false, false, false, false, false, false, false] rfl rfl (by kernel_rfl) (fun _ _ _ h => h) (Or.inl ⟨by rfl, ?_⟩) ?_ ?_
  rotate_left
  · intro w'
    go_simp
    with_reducible rfl
  rotate_left
  · simp only [Act.put, List.setIfInBounds_toArray, List.set_cons_zero, List.set_cons_succ, i64_w, i32_w]
    rfl
  refine pure_ (i := 8) (N := some 14) (v := ?_) (a' := ?_) #[true, true, true, true, true, true, true, true, true, false, false, false, false, false, false, false, false, false, false, false, false, false] rfl rfl (by kernel_rfl) (fun _ _ _ h => h) (Or.inl ⟨by rfl, ?_⟩) ?_ ?_
  rotate_left
  · intro w'
    go_simp
    with_reducible rfl
  rotate_left
  · simp only [Act.put, List.setIfInBounds_toArray, List.set_cons_zero, List.set_cons_succ, i64_w, i32_w]
    rfl
  refine pure_ (i := 9) (N := some 15) (v := ?_) (a' := ?_) #[true, true, true, true, true, true, true, true, true, true, false, false, false, false, false, false, false, false, false, false, false, false] rfl rfl (by kernel_rfl) (fun _ _ _ h => h) (Or.inl ⟨by rfl, ?_⟩) ?_ ?_
  rotate_left
  · intro w'
    go_simp
    with_reducible rfl
  rotate_left
  · simp only [Act.put, List.setIfInBounds_toArray, List.set_cons_zero, List.set_cons_succ, i64_w, i32_w]
    rfl
  refine pure_ (i := 10) (N := some 16) (v := ?_) (a' := ?_) #[true, true, true, true, true, true, true, true, true, true, true, false, false, false, false, false, false, false, false, false, false, false] rfl rfl (by kernel_rfl) (fun _ _ _ h => h) (Or.inl ⟨by rfl, ?_⟩) ?_ ?_
  rotate_left
  · intro w'
    go_simp
    with_reducible rfl
  rotate_left
  · simp only [Act.put, List.setIfInBounds_toArray, List.set_cons_zero, List.set_cons_succ, i64_w, i32_w]
    rfl
  refine pure_ (i := 11) (N := some 17) (v := ?_) (a' := ?_) #[true, true, true, true, true, true, true, true, true, true, true, true, false, false, false, false, false, false, false, false, false, false] rfl rfl (by kernel_rfl) (fun _ _ _ h => h) (Or.inl ⟨by rfl, ?_⟩) ?_ ?_
  rotate_left
  · intro w'
    go_simp
    with_reducible rfl
  rotate_left
  · simp only [Act.put, List.setIfInBounds_toArray, List.set_cons_zero, List.set_cons_succ, i64_w, i32_w]
    rfl
  refine pure_ (i := 12) (N := some 18) (v := ?_) (a' := ?_) #[true, true, true, true, true, true, true, true, true, true, true, true, true, false, false, false, false, false, false, false, false, false] rfl rfl (by kernel_rfl) (fun _ _ _ h => h) (Or.inl ⟨by rfl, ?_⟩) ?_ ?_
  rotate_left
  · intro w'
    go_simp
    with_reducible rfl
  rotate_left
  · simp only [Act.put, List.setIfInBounds_toArray, List.set_cons_zero, List.set_cons_succ, i64_w, i32_w]
    rfl
  refine pure_ (i := 15) (N := some 21) (v := ?_) (a' := ?_) #[true, true, true, true, true, true, true, true, true, true, true, true, true, false, false, true, false, false, false, false, false, false] rfl rfl (by kernel_rfl) (fun _ _ _ h => h) (Or.inl ⟨by rfl, ?_⟩) ?_ ?_
  rotate_left
  · intro w'
    go_simp
    with_reducible rfl
  rotate_left
  · simp only [Act.put, List.setIfInBounds_toArray, List.set_cons_zero, List.set_cons_succ, i64_w, i32_w]
    rfl
  refine pure_ (i := 16) (N := some 22) (v := ?_) (a' := ?_) #[true, true, true, true, true, true, true, true, true, true, true, true, true, false, false, true, true, false, false, false, false, false] rfl rfl (by kernel_rfl) (fun _ _ _ h => h) (Or.inl ⟨by rfl, ?_⟩) ?_ ?_
  rotate_left
  · intro w'
    go_simp
    with_reducible rfl
  rotate_left
  · simp only [Act.put, List.setIfInBounds_toArray, List.set_cons_zero, List.set_cons_succ, i64_w, i32_w]
    rfl
  refine pure_ (i := 17) (N := some 23) (v := ?_) (a' := ?_) #[true, true, true, true, true, true, true, true, true, true, true, true, true, false, false, true, true, true, false, false, false, false] rfl rfl (by kernel_rfl) (fun _ _ _ h => h) (Or.inl ⟨by rfl, ?_⟩) ?_ ?_
  rotate_left
  · intro w'
    go_simp
    with_reducible rfl
  rotate_left
  · simp only [Act.put, List.setIfInBounds_toArray, List.set_cons_zero, List.set_cons_succ, i64_w, i32_w]
    rfl
  refine take_ (i := 13) (N := some 19) (v := _) (a' := ?_) #[true, true, true, true, true, true, true, true, true, true, true, true, true, true, false, true, true, true, false, false, false, false] rfl rfl (by kernel_rfl) (fun _ _ _ h => h) (Or.inl ⟨by rfl, fun w2 h => h.load1 22 (.tmp 18) rfl rfl (.here _) Tryd.underlying22 rfl rfl⟩) hHeld ?_ ?_
  rotate_left
  · simp only [Act.put, List.setIfInBounds_toArray, List.set_cons_zero, List.set_cons_succ, i64_w, i32_w]
    rfl
  refine pure_ (i := 14) (N := some 20) (v := ?_) (a' := ?_) #[true, true, true, true, true, true, true, true, true, true, true, true, true, true, true, true, true, true, false, false, false, false] rfl rfl (by kernel_rfl) (fun _ _ _ h => h) (Or.inl ⟨by rfl, ?_⟩) ?_ ?_
  rotate_left
  · intro w'
    go_simp
    with_reducible rfl
  rotate_left
  · simp only [Act.put, List.setIfInBounds_toArray, List.set_cons_zero, List.set_cons_succ, i64_w, i32_w]
    rfl
  refine take_ (i := 18) (N := some 24) (v := _) (a' := ?_) #[true, true, true, true, true, true, true, true, true, true, true, true, true, true, true, true, true, true, true, false, false, false] rfl rfl (by kernel_rfl) (fun _ _ _ h => h) (Or.inl ⟨by rfl, fun w2 h => h.load1 3 (.tmp 23) rfl rfl (.here _) Tryd.underlying3 rfl rfl⟩) hHeld ?_ ?_
  rotate_left
  · simp only [Act.put, List.setIfInBounds_toArray, List.set_cons_zero, List.set_cons_succ, i64_w, i32_w]
    rfl
  refine pure_ (i := 19) (N := some 25) (v := ?_) (a' := ?_) #[true, true, true, true, true, true, true, true, true, true, true, true, true, true, true, true, true, true, true, true, false, false] rfl rfl (by kernel_rfl) (fun _ _ _ h => h) (Or.inl ⟨by rfl, ?_⟩) ?_ ?_
  rotate_left
  · intro w'
    go_simp
    with_reducible rfl
  rotate_left
  · simp only [Act.put, List.setIfInBounds_toArray, List.set_cons_zero, List.set_cons_succ, i64_w, i32_w]
    rfl
  refine pure_ (i := 20) (N := some 26) (v := ?_) (a' := ?_) #[true, true, true, true, true, true, true, true, true, true, true, true, true, true, true, true, true, true, true, true, true, false] rfl rfl (by kernel_rfl) (fun _ _ _ h => h) (Or.inl ⟨by rfl, ?_⟩) ?_ ?_
  rotate_left
  · intro w'
    go_simp
    with_reducible rfl
  rotate_left
  · simp only [Act.put, List.setIfInBounds_toArray, List.set_cons_zero, List.set_cons_succ, i64_w, i32_w]
    rfl
  refine pure_ (i := 21) (N := some 27) (v := ?_) (a' := ?_) #[true, true, true, true, true, true, true, true, true, true, true, true, true, true, true, true, true, true, true, true, true, true] rfl rfl (by kernel_rfl) (fun _ _ _ h => h) (Or.inl ⟨by rfl, ?_⟩) ?_ ?_
  rotate_left
  · intro w'
    go_simp
    with_reducible rfl
  rotate_left
  · simp only [Act.put, List.setIfInBounds_toArray, List.set_cons_zero, List.set_cons_succ, i64_w, i32_w]
    rfl
  refine done_ (by kernel_rfl) ?_
  replace H := hHeld
  go_wp2_with (first | ((with_reducible refine gate_dst (N := 32) rfl ?_); refine ev_ rfl (H.make (d := Kd.int .u8) (N := 32) rfl 22 5 (.tmp 31) (.tmp 31) rfl rfl rfl Tryd.underlying22 (.int .u8 0) 1 info5 rfl (by decide) (by decide) 0 (fun _ => rfl) (by omega) (by have := hi.out; have := hn.out; omega)) ?_; intro v5 w5 H1; simp only [Int.toNat_natCast] at H1; obtain ⟨A5, c5, rfl, -, -⟩ := H1.reads (.here _); simp only [List.length_replicate] at H1; replace H := H1))
  refine startH H (n := 11) [10] #[false, false, false, false, false, false, false, false, false, false, false] (by kernel_rfl) rfl rfl (fun hHeld => ?_)
  refine pure_ (i := 0) (N := some 33) (v := ?_) (a' := ?_) #[true, false, false, false, false, false, false, false, false, false, false] rfl rfl (by kernel_rfl) (fun _ _ _ h => h) (Or.inl ⟨by rfl, ?_⟩) ?_ ?_
  rotate_left
  · intro w'
    go_simp
    with_reducible rfl
  rotate_left
  · simp only [Act.put, List.setIfInBounds_toArray, List.set_cons_zero, List.set_cons_succ, i64_w, i32_w]
    rfl
  refine pure_ (i := 1) (N := some 34) (v := ?_) (a' := ?_) #[true, true, false, false, false, false, false, false, false, false, false] rfl rfl (by kernel_rfl) (fun _ _ _ h => h) (Or.inl ⟨by rfl, ?_⟩) ?_ ?_
  rotate_left
  · intro w'
    go_simp
    with_reducible rfl
  rotate_left
  · simp only [Act.put, List.setIfInBounds_toArray, List.set_cons_zero, List.set_cons_succ, i64_w, i32_w]
    rfl
  refine pure_ (i := 2) (N := some 35) (v := ?_) (a' := ?_) #[true, true, true, false, false, false, false, false, false, false, false] rfl rfl (by kernel_rfl) (fun _ _ _ h => h) (Or.inl ⟨by rfl, ?_⟩) ?_ ?_
  rotate_left
  · intro w'
    go_simp
    with_reducible rfl
  rotate_left
  · simp only [Act.put, List.setIfInBounds_toArray, List.set_cons_zero, List.set_cons_succ, i64_w, i32_w]
    rfl
  refine pure_ (i := 3) (N := some 36) (v := ?_) (a' := ?_) #[true, true, true, true, false, false, false, false, false, false, false] rfl rfl (by kernel_rfl) (fun _ _ _ h => h) (Or.inl ⟨by rfl, ?_⟩) ?_ ?_
  rotate_left
  · intro w'
    go_simp
    with_reducible rfl
  rotate_left
  · simp only [Act.put, List.setIfInBounds_toArray, List.set_cons_zero, List.set_cons_succ, i64_w, i32_w]
    rfl
  refine pure_ (i := 5) (N := some 38) (v := ?_) (a' := ?_) #[true, true, true, true, false, true, false, false, false, false, false] rfl rfl (by kernel_rfl) (fun _ _ _ h => h) (Or.inl ⟨by rfl, ?_⟩) ?_ ?_
  rotate_left
  · intro w'
    go_simp
    with_reducible rfl
  rotate_left
  · simp only [Act.put, List.setIfInBounds_toArray, List.set_cons_zero, List.set_cons_succ, i64_w, i32_w]
    rfl
  refine pure_ (i := 6) (N := some 39) (v := ?_) (a' := ?_) #[true, true, true, true, false, true, true, false, false, false, false] rfl rfl (by kernel_rfl) (fun _ _ _ h => h) (Or.inl ⟨by rfl, ?_⟩) ?_ ?_
  rotate_left
  · intro w'
    go_simp
    with_reducible rfl
  rotate_left
  · simp only [Act.put, List.setIfInBounds_toArray, List.set_cons_zero, List.set_cons_succ, i64_w, i32_w]
    rfl
  refine pure_ (i := 7) (N := some 40) (v := ?_) (a' := ?_) #[true, true, true, true, false, true, true, true, false, false, false] rfl rfl (by kernel_rfl) (fun _ _ _ h => h) (Or.inl ⟨by rfl, ?_⟩) ?_ ?_
  rotate_left
  · intro w'
    go_simp
    with_reducible rfl
  rotate_left
  · simp only [Act.put, List.setIfInBounds_toArray, List.set_cons_zero, List.set_cons_succ, i64_w, i32_w]
    rfl
  refine take_ (i := 4) (N := some 37) (v := _) (a' := ?_) #[true, true, true, true, true, true, true, true, false, false, false] rfl rfl (by kernel_rfl) (fun _ _ _ h => h) (Or.inl ⟨by rfl, fun w2 h => h.load1 22 (.tmp 36) rfl rfl (.there _ (.here _)) Tryd.underlying22 rfl rfl⟩) hHeld ?_ ?_
  rotate_left
  · simp only [Act.put, List.setIfInBounds_toArray, List.set_cons_zero, List.set_cons_succ, i64_w, i32_w]
    rfl
  refine take_ (i := 8) (N := some 41) (v := _) (a' := ?_) #[true, true, true, true, true, true, true, true, true, false, false] rfl rfl (by kernel_rfl) (fun _ _ _ h => h) (Or.inl ⟨by rfl, fun w2 h => h.load1 3 (.tmp 40) rfl rfl (.there _ (.here _)) Tryd.underlying3 rfl rfl⟩) hHeld ?_ ?_
  rotate_left
  · simp only [Act.put, List.setIfInBounds_toArray, List.set_cons_zero, List.set_cons_succ, i64_w, i32_w]
    rfl
  refine pure_ (i := 9) (N := some 42) (v := .slice (cutA A0 c0 i) (bs.length - i) (c0 - i)) (a' := ?_) #[true, true, true, true, true, true, true, true, true, true, false] rfl rfl (by kernel_rfl) (fun _ _ _ h => h) (Or.inl ⟨by rfl, run_cut (t := 22) (e := 5) rfl rfl rfl Tryd.underlying22 info5s (by have := hi.out; omega)⟩) ?_ ?_
  rotate_left
  · simp only [Act.put, List.setIfInBounds_toArray, List.set_cons_zero, List.set_cons_succ, i64_w, i32_w]
    rfl
  refine last_ (i := 10) (N := some 43) #[true, true, true, true, true, true, true, true, true, true, true] rfl rfl (by kernel_rfl) (by decide) (fun K hK => ?_)
  have HC4 := C_cutS (h1 := fun _ => rfl) (hHeld.reads' (.there _ (.there _ (.here _)))).2.2 i (by have := hi.out; omega) hc0.out
  refine step_ (by rfl) rfl (hHeld.copyS (.tmp 33) (.tmp 42) 22 22 rfl rfl (.here _) Tryd.underlying22 info5s rfl HC4 ?hle) ?_
  case hle => have := hi.out; simp only [List.length_replicate, Int.toNat_natCast]; omega
  rintro v6 w6 ⟨rfl, H6⟩
  refine hK.out _ _ ?_
  clear hK K
  refine norm_ (a' := ?_) ?_ ?_
  rotate_left
  · show Act.put _ (some 43) _ = _
    simp only [Act.put, List.setIfInBounds_toArray, List.set_cons_zero, List.set_cons_succ, i64_w, i32_w]
    rfl
  refine done_ (by kernel_rfl) ?_
  replace H := H6
  clear H6 hHeld HC4
  have hi2 := hi.out
  have hn2 := hn.out
  go_wp2_with (first | ((with_reducible refine gate_dst (N := 47) rfl ?_); refine Kd.event_run rfl (H.load1 3 (.tmp 46) rfl rfl (.there _ (.here _)) Tryd.underlying3 rfl rfl) ?_) | ((with_reducible refine gate_store (p := 51) rfl ?_); refine ev_ rfl (H.store 3 (.tmp 51) (.tmp 49) rfl rfl (.there _ (.here _)) rfl #[.int .i64 ((i + n : Nat) : Int)] rfl info3s (by simp [Value.oneCell']) (by simp) (cs' := #[.slice A0 bs.length c0, .int .i64 ((i + n : Nat) : Int), .bool false]) rfl) ?_; rintro _ w1 ⟨rfl, H1⟩; replace H := H1))
  go_ret
  simp only [List.length_replicate, Int.toNat_natCast] at H
  exact ⟨_, _, rfl, rfl, ((H.shut_star (.cons (.here _) (.cons (.there _ (.here _)) (.nil _)))).shut_ex _ (f := fun v => star [blk g #[v, .int .i64 ((i + n : Nat) : Int), .bool false] 87, row (Kd.int .u8) 5 v bs]) (.here _)).imp (bs := [row (Kd.int .u8) 5 _ _, reader g bs (i + n) false]) (.cons (.there _ (.here _)) (.cons (.here _) (.nil _))) (fun G h => h)⟩
set_option maxHeartbeats 1000000 in
set_option maxRecDepth 100000 in
theorem Short_calls (w : World) (g : Nat) (bs : List Int) (i : Nat) (en : Bool) (F : Nat → Prop) (hA : All [reader g bs i en] F w) (hF : ∀ k, F k → k < w.heap.size) :
    Calls Tryd.prog 24 #[.pointer (some ⟨g, 0, none⟩)] w (Ret F w fun v l => v = .bool en ∧ l = [reader g bs i en]) := by
  obtain ⟨v0, H⟩ := Hp.open_ex (Hp.start F w hA hF) (.here _)
  replace H := H.open_star (.here _)
  obtain ⟨A0, c0, rfl, hc0, HC0⟩ := H.reads (.there _ (.here _))
  clear HC0 hc0
  go_enter Tryd.func24, Tryd.ntmps24
  go_wp2_with (first | ((with_reducible refine gate_dst (N := 6) rfl ?_); refine Kd.event_run rfl (H.load1 4 (.tmp 5) rfl rfl (.here _) Tryd.underlying4 rfl rfl) ?_))
  go_ret
  exact ⟨_, _, rfl, ⟨rfl, rfl⟩, (H.shut_star (.cons (.here _) (.cons (.here _) (.nil _)))).shut_ex _ (f := fun v => star [blk g #[v, .int .i64 (i : Int), .bool en] 87, row (Kd.int .u8) 5 v bs]) (.here _)⟩
def numStep (q x : Int) : Int := bits BinOp.or .u64 (IntKind.u64.wrap (q * 256)) (IntKind.u64.wrap x)
/-- What bytes tell, the highest first. -/
def numL (l : List Int) : Int := l.foldl numStep 0
theorem numL_snoc (l : List Int) (k : Nat) (h : k < l.length) : numL (l.take (k + 1)) = numStep (numL (l.take k)) l[k] := by
  unfold numL
  rw [List.take_succ_eq_append_getElem h, List.foldl_append]
  rfl
set_option maxHeartbeats 1000000 in
set_option maxRecDepth 100000 in
theorem Num_yes (w : World) (g : Nat) (bs : List Int) (i : Nat) (n : Nat) (F : Nat → Prop) (hA : All [reader g bs i false] F w) (hF : ∀ k, F k → k < w.heap.size) (hi : i + n ≤ bs.length) (hn : bs.length ≤ 140737488351232) :
    Calls Tryd.prog 23 #[.pointer (some ⟨g, 0, none⟩), .int .i64 n] w (Ret F w fun v l => v = .int .u64 (numL ((bs.drop i).take n)) ∧ l = [reader g bs (i + n) false]) := by
  have H := Hp.start F w hA hF
  obtain ⟨ys, hys⟩ : ∃ ys, ys = (bs.drop i).take n := ⟨_, rfl⟩
  have hl : ys.length ≤ 140737488351232 := by rw [hys]; simp; omega
  rw [← hys]
  replace hi := Aside0.mk hi
  replace hn := Aside0.mk hn
  replace hl := Aside0.mk hl
  replace hys := Aside0.mk hys
  go_enter Tryd.func23, Tryd.ntmps23
  go_wp2_with (go_at_call 25; refine H.call (.cons (.here _) (.nil _)) (fun G hG hGl => Bytes_yes w g bs i n G hG hGl hi.out hn.out) ?_; rintro v l1 w1 rfl H1; rw [← hys.out] at H1; obtain ⟨A1, c1, rfl, hc1, HC1⟩ := H1.reads (.here _); replace H := H1; replace hc1 := Aside0.mk hc1; replace HC1 := Aside0.mk HC1)
  go_loop [5, 12] (fun v5 v12 => ∃ k : Nat, k ≤ ys.length ∧ v12 = .int .i64 (k : Int) ∧ v5 = .int .u64 (numL (ys.take k))) (fun _ v12 => ys.length - (intOf v12).toNat)
  case atStart => exact ⟨0, Nat.zero_le _, rfl, rfl⟩
  case round =>
    obtain ⟨k, hk, rfl, rfl⟩ := hrel
    obtain ⟨q, hq⟩ : ∃ q, numL (ys.take k) = q := ⟨_, rfl⟩
    rw [hq]
    replace hq := Aside0.mk hq
    by_cases hlt : k < ys.length
    · have hl' := hl.out
      obtain ⟨ad, rfl, hcell⟩ := C_at (h1 := fun _ => rfl) HC1.out k (ys[k]) (List.getElem?_eq_getElem hlt)
      go_wp2_with fail
      go_round
      case rel => exact ⟨k + 1, by omega, by go_num, by rw [numL_snoc ys k hlt, hq.out]; rfl⟩
      case measure => simp [intOf]; omega
    · have hl' := hl.out
      have hke : k = ys.length := by omega
      have hq' : numL ys = q := by rw [← hq.out, hke, List.take_length]
      replace hq' := Aside0.mk hq'
      replace hke := Aside0.mk hke
      have hb1 : decide (k < ys.length) = false := decide_eq_false hlt
      have hb2 : decide ((k : Int) < (ys.length : Int)) = false := decide_eq_false (by omega)
      go_wp2_with fail
      go_ret
      exact ⟨_, _, rfl, ⟨by rw [hq'.out]; rfl, rfl⟩, H.drop (.cons (.here _) (.nil _))⟩
def refStep (q x : Int) : Int := IntKind.u64.wrap (IntKind.u64.wrap (q * 256) + IntKind.u64.wrap x)
def numR (l : List Int) : Int := l.foldl refStep 0
theorem reps_one {k : IntKind} (x : Int) {F : Nat → Prop} {w : World} : Reps ((Kd.int k).M w 0 F) (Kd.int k).sz [x] (#[Value.int k x] : Array Value).toList := (Reps.none _ _).snoc (p := x) (c := [Value.int k x]) rfl rfl
/-- What bytes tell, step by step. -/
theorem numStep_eq {q x : Int} (h0 : 0 ≤ x) (h1 : x ≤ 255) : numStep q x = (q * 256 + x) % 18446744073709551616 := by
  unfold numStep
  rw [IntKind.wrap_u64, IntKind.wrap_u64, Int.emod_eq_of_lt h0 (by omega)]
  rw [Ar.join_u64 8 (r := 256) rfl (by omega) (by omega) (by omega) h0 (by omega) (by omega)]
  omega
theorem refStep_eq {q x : Int} (h0 : 0 ≤ x) (h1 : x ≤ 255) : refStep q x = (q * 256 + x) % 18446744073709551616 := by
  unfold refStep
  rw [IntKind.wrap_u64, IntKind.wrap_u64, IntKind.wrap_u64]
  omega
theorem numLR : ∀ (l : List Int) (q : Int), (∀ y ∈ l, 0 ≤ y ∧ y ≤ 255) → l.foldl numStep q = l.foldl refStep q
  | [], _, _ => rfl
  | x :: l, q, h => by
    have hx := h x List.mem_cons_self
    rw [List.foldl_cons, List.foldl_cons, numStep_eq hx.1 hx.2, refStep_eq hx.1 hx.2]
    exact numLR l _ fun y hy => h y (List.mem_cons_of_mem _ hy)
theorem numLR_drop (bs : List Int) (hby : ∀ y ∈ bs, 0 ≤ y ∧ y ≤ 255) (i m : Nat) : numL ((bs.drop i).take m) = numR ((bs.drop i).take m) :=
  numLR _ 0 fun y hy => hby y (List.mem_of_mem_drop (List.mem_of_mem_take hy))
/-- A number of few bytes is small. -/
theorem numR_range : ∀ (l : List Int) (q : Int), (∀ y ∈ l, 0 ≤ y ∧ y ≤ 255) → 0 ≤ q → (q + 1) * ((256 ^ l.length : Nat) : Int) ≤ 18446744073709551616 → 0 ≤ l.foldl refStep q ∧ l.foldl refStep q < (q + 1) * ((256 ^ l.length : Nat) : Int)
  | [], q, _, h0, _ => by simp; omega
  | x :: l, q, h, h0, h1 => by
    have hx := h x List.mem_cons_self
    rw [List.length_cons, Nat.pow_succ] at h1
    have hp : 0 < (256 ^ l.length : Nat) := Nat.pow_pos (by decide)
    simp only [List.foldl_cons, List.length_cons, Nat.pow_succ]
    generalize hP : 256 ^ l.length = p at *
    rw [Int.natCast_mul] at h1 ⊢
    have hle : (q * 256 + x + 1) * (p : Int) ≤ (q + 1) * ((p : Int) * ((256 : Nat) : Int)) := by
      rw [show (q + 1) * ((p : Int) * ((256 : Nat) : Int)) = (q * 256 + 256) * (p : Int) by rw [Int.mul_comm (p : Int), ← Int.mul_assoc]; congr 1; rw [Int.add_mul]; rfl]
      exact Int.mul_le_mul_of_nonneg_right (by omega) (by omega)
    have hone : q * 256 + x + 1 ≤ (q * 256 + x + 1) * (p : Int) := by
      have := Int.mul_le_mul_of_nonneg_left (show (1 : Int) ≤ (p : Int) by omega) (show 0 ≤ q * 256 + x + 1 by omega)
      omega
    have e : refStep q x = q * 256 + x := by rw [refStep_eq hx.1 hx.2]; omega
    rw [e]
    have ih := numR_range l (q * 256 + x) (fun y hy => h y (List.mem_cons_of_mem _ hy)) (by omega) (by rw [hP]; omega)
    rw [hP] at ih
    exact ⟨ih.1, by omega⟩
theorem numR_lt (l : List Int) (h : ∀ y ∈ l, 0 ≤ y ∧ y ≤ 255) (k : Nat) (hl : l.length ≤ k) (hk : k ≤ 8) : 0 ≤ numR l ∧ numR l < ((256 ^ k : Nat) : Int) := by
  have h8 : (256 ^ l.length : Nat) ≤ 256 ^ k := Nat.pow_le_pow_right (by decide) hl
  have h9 : (256 ^ k : Nat) ≤ 256 ^ 8 := Nat.pow_le_pow_right (by decide) hk
  have e8 : (256 ^ 8 : Nat) = 18446744073709551616 := by decide
  have := numR_range l 0 h (by decide) (by omega)
  unfold numR
  omega
theorem bytes_part {bs : List Int} (hby : ∀ y ∈ bs, 0 ≤ y ∧ y ≤ 255) (i m : Nat) : ∀ y ∈ (bs.drop i).take m, 0 ≤ y ∧ y ≤ 255 := fun y hy => hby y (List.mem_of_mem_drop (List.mem_of_mem_take hy))
attribute [irreducible] reader
end Go.Proofs.YtiikllgppmmiaaaDoor.Wire
