/- What Go functions that the law ScriptReads uses come to, and why: part 4. Made out of the kit's print by a program of this session (wip/tools/stub.py, splice.py), functions that it does not take told by hand. -/
import Derived.Test.YtiikllgppmmiaaaDoorOScriptReadsx3
namespace Go.Proofs.YtiikllgppmmiaaaDoor.OScriptReads
open Go.RowKit Go.Proofs.YtiikllgppmmiaaaDoorW.PrintWords Go.Proofs.YtiikllgppmmiaaaDoorW.PrintLast Go.Proofs.YtiikllgppmmiaaaDoorW.PrintMore
attribute [local go_sem] max2_int min2_int max_two min_two max_three min_three max_four min_four   -- for this text's walks alone
set_option linter.unusedVariables false
set_option linter.unusedSimpArgs false
private theorem setCell_drewN_ (w : World) (n : Nat) (p : Addr) (u : Value) : (w.drewN n).setCell p u = (w.setCell p u).drewN n := by
  unfold World.setCell World.drewN
  split <;> rfl

/-! ### script_reader_conf: function 29 -/
def script_reader_conf.l0 : Nat → Int → Int → List Int → Int → Int → Int → Int → Int → Int → Int → Int → List (S63) → Option (Int × Int × Int × Int × Int × Int × Int × (List (S63)) × Int)
  | 0, _, _, _, _, _, _, _, _, _, _, _, _ => none
  | k + 1, x57, x58, x1000, x1001, x131000, x131001, x131002, x131003, x131004, x131005, x131006, x131007 => if x58 < x57 then ((script_reader_next.f x1000 x1001).bind fun bt137 => (if x131007.length < 11728124029610 then (script_reader_conf.l0 k x57 (wrap64 (x58 + 1)) x1000 bt137.2 x131000 x131001 x131002 x131003 x131004 x131005 x131006 (x131007 ++ [(⟨128, (wrap64 (1 + (Int.tmod bt137.1 50))) % 4294967296, decide (bt137.1 < 230)⟩ : S63)])) else (none))) else (some (x131000, x131001, x131002, x131003, x131004, x131005, x131006, x131007, x1001))
def script_reader_conf.f (k : Nat) (s0_0 : List Int) (s0_1 : Int) (a1 : Int) : Option (Int × Int × Int × Int × Int × Int × Int × (List (S63)) × Int) := (script_address.f 1 a1).bind fun t121 => ((script_reader_next.f s0_0 s0_1).bind fun bt122 => ((script_reader_next.f s0_0 bt122.2).bind fun bt124 => ((script_reader_next.f s0_0 bt124.2).bind fun bt126 => ((script_reader_next.f s0_0 bt126.2).bind fun bt128 => ((script_reader_next.f s0_0 bt128.2).bind fun bt131 => ((script_reader_next.f s0_0 bt131.2).bind fun bt133 => ((script_reader_next.f s0_0 bt133.2).bind fun bt135 => (script_reader_conf.l0 k (wrap64 (1 + (Int.tmod bt135.1 3))) 0 s0_0 bt135.2 t121 (IntKind.u16.wrap (wrap64 ((Int.tmod bt122.1 4) * 4096))) (mx (wrap64 ((wrap64 ((wrap64 (2 * (wrap64 ((wrap64 (1 + (Int.tmod bt124.1 2))) + 1)))) + 2)) + (Int.tmod bt131.1 16))) 6) (wrap64 (1 + (Int.tmod bt124.1 2))) (mx (wrap64 ((wrap64 ((wrap64 (Int.tdiv (wrap64 ((wrap64 ((wrap64 ((wrap64 (2 * (wrap64 ((wrap64 (1 + (Int.tmod bt124.1 2))) + 1)))) + 2)) + (Int.tmod bt131.1 16))) + 1)) 2)) + 1)) + (Int.tmod bt133.1 4))) 4) (wrap64 (10 + (Int.tmod bt126.1 20))) (Int.tmod bt128.1 9) ([] : List (S63))))))))))
theorem script_reader_conf.mono_l : ∀ k, (∀ y0 y1 y2 y3 y4 y5 y6 y7 y8 y9 y10 y11, LeO (script_reader_conf.l0 k y0 y1 y2 y3 y4 y5 y6 y7 y8 y9 y10 y11) (script_reader_conf.l0 (k + 1) y0 y1 y2 y3 y4 y5 y6 y7 y8 y9 y10 y11))
  | 0 => fun _ _ _ _ _ _ _ _ _ _ _ _ r h => by simp [script_reader_conf.l0] at h
  | k + 1 => by
    have ih0 := script_reader_conf.mono_l k
    · intro y0 y1 y2 y3 y4 y5 y6 y7 y8 y9 y10 y11
      unfold script_reader_conf.l0
      repeat' first
      | (with_reducible apply ih0)
      | (with_reducible exact LeO.refl _)
      | (with_reducible exact LeO.none _)
      | (with_reducible refine LeO.ite ?_ ?_)
      | (with_reducible refine LeO.bind ?_ (fun _ => ?_))
      | apply ih0
      | exact LeO.none _
      | refine LeO.ite ?_ ?_
      | refine LeO.bind ?_ (fun _ => ?_)
theorem script_reader_conf.mono : ∀ a0 a1 a2 k, LeO (script_reader_conf.f k a0 a1 a2) (script_reader_conf.f (k + 1) a0 a1 a2) := by
  intro a0 a1 a2 k
  have ih0 := script_reader_conf.mono_l k
  unfold script_reader_conf.f
  repeat' first
      | (with_reducible apply ih0)
      | (with_reducible exact LeO.refl _)
      | (with_reducible exact LeO.none _)
      | (with_reducible refine LeO.ite ?_ ?_)
      | (with_reducible refine LeO.bind ?_ (fun _ => ?_))
      | apply ih0
      | exact LeO.none _
      | refine LeO.ite ?_ ?_
      | refine LeO.bind ?_ (fun _ => ?_)
def script_reader_conf.T2 : Bool × List (List Nat × List Nat) := (true, [([], []), ([0], [0]), ([1], [1]), ([2], [2]), ([3], [3]), ([], []), ([5], [5]), ([6], [6]), ([4, 7], [4, 7]), ([0, 1, 2, 3, 4, 5, 6, 7, 8], []), ([9, 8, 6, 0, 1, 2, 3, 4, 5, 6, 7, 8], [8, 9])])
def script_reader_conf.B2 : List Nat := [0, 1, 3, 7, 15, 0, 32, 96, 255, 511, 1023]
theorem script_reader_conf.tab2 : rtab .any (opsOf Tryd.f29 2) = script_reader_conf.T2 := by kernel_rfl
theorem script_reader_conf.bits2 : waitsOk script_reader_conf.T2.2 script_reader_conf.B2 = true := by kernel_rfl
def script_reader_conf.T3 : Bool × List (List Nat × List Nat) := (true, [([], []), ([0], [0]), ([1], [1]), ([2], [2]), ([3], [3]), ([], []), ([5], [5]), ([6], [6]), ([4, 7], [4, 7]), ([0, 1, 2, 3, 4, 5, 6, 7, 8], []), ([9, 8, 6, 0, 1, 2, 3, 4, 5, 6, 7, 8], [8, 9])])
def script_reader_conf.B3 : List Nat := [0, 1, 3, 7, 15, 0, 32, 96, 255, 511, 1023]
theorem script_reader_conf.tab3 : rtab .any (opsOf Tryd.f29 3) = script_reader_conf.T3 := by kernel_rfl
theorem script_reader_conf.bits3 : waitsOk script_reader_conf.T3.2 script_reader_conf.B3 = true := by kernel_rfl
set_option maxHeartbeats 8000000 in
set_option maxRecDepth 100000 in
theorem script_reader_conf.calls (k : Nat) (g : Nat) (s0_0 : List Int) (s0_1 : Int) (a1 : Int) (r1 : Int) (r2 : Int) (r3 : Int) (r4 : Int) (r5 : Int) (r6 : Int) (r7 : Int) (r8 : List (S63)) (r9 : Int) (w0 w : World) (hI : IsS54 w0 w g s0_0 s0_1) (hB : Below w0.heap.size w0 w) (h : script_reader_conf.f k s0_0 s0_1 a1 = some (r1, r2, r3, r4, r5, r6, r7, r8, r9)) :
  Calls Tryd.prog 29 #[.pointer (some ⟨g, 0, none⟩), .int .i64 a1] w fun e w' => ∃ v7_ : Value, e = .returned (.agg #[.int .u64 r1, .int .u16 r2, .int .i64 r3, .int .i64 r4, .int .i64 r5, .int .i64 r6, .int .i64 r7, v7_]) ∧ Kd.R k63 63 w' w.heap.size (fun _ => True) v7_ r8 ∧ IsS54 w0 w' g s0_0 r9 ∧ Below w0.heap.size w0 w' ∧ KeepBut w w' g none := by
 have hu51 := Tryd.underlying51
 have hu63 := Tryd.underlying63
 have HI0 := Aside0.mk hI
 have HK := Aside0.mk (KeepBut.refl w g none)
 have HL := Aside0.mk hB.size
 clear hI
 have HW0 := Aside0.mk hB.size
 have HB := Aside0.mk hB
 clear hB
 have H : ((script_address.f 1 a1).bind fun t121 => ((script_reader_next.f s0_0 s0_1).bind fun bt122 => ((script_reader_next.f s0_0 bt122.2).bind fun bt124 => ((script_reader_next.f s0_0 bt124.2).bind fun bt126 => ((script_reader_next.f s0_0 bt126.2).bind fun bt128 => ((script_reader_next.f s0_0 bt128.2).bind fun bt131 => ((script_reader_next.f s0_0 bt131.2).bind fun bt133 => ((script_reader_next.f s0_0 bt133.2).bind fun bt135 => (script_reader_conf.l0 k (wrap64 (1 + (Int.tmod bt135.1 3))) 0 s0_0 bt135.2 t121 (IntKind.u16.wrap (wrap64 ((Int.tmod bt122.1 4) * 4096))) (mx (wrap64 ((wrap64 ((wrap64 (2 * (wrap64 ((wrap64 (1 + (Int.tmod bt124.1 2))) + 1)))) + 2)) + (Int.tmod bt131.1 16))) 6) (wrap64 (1 + (Int.tmod bt124.1 2))) (mx (wrap64 ((wrap64 ((wrap64 (Int.tdiv (wrap64 ((wrap64 ((wrap64 ((wrap64 (2 * (wrap64 ((wrap64 (1 + (Int.tmod bt124.1 2))) + 1)))) + 2)) + (Int.tmod bt131.1 16))) + 1)) 2)) + 1)) + (Int.tmod bt133.1 4))) 4) (wrap64 (10 + (Int.tmod bt126.1 20))) (Int.tmod bt128.1 9) ([] : List (S63))))))))))) = some (r1, r2, r3, r4, r5, r6, r7, r8, r9) := h
 clear h
 replace H := Option.bind_eq_some_iff.mp H
 obtain ⟨t121, A30, H⟩ := H
 (try dsimp only at H)
 have A3 := Aside0.mk A30
 clear A30
 replace H := Option.bind_eq_some_iff.mp H
 obtain ⟨⟨t122, t123⟩, A40, H⟩ := H
 (try dsimp only at H)
 have A4 := Aside0.mk A40
 clear A40
 replace H := Option.bind_eq_some_iff.mp H
 obtain ⟨⟨t124, t125⟩, A50, H⟩ := H
 (try dsimp only at H)
 have A5 := Aside0.mk A50
 clear A50
 replace H := Option.bind_eq_some_iff.mp H
 obtain ⟨⟨t126, t127⟩, A60, H⟩ := H
 (try dsimp only at H)
 have A6 := Aside0.mk A60
 clear A60
 replace H := Option.bind_eq_some_iff.mp H
 obtain ⟨⟨t128, t129⟩, A70, H⟩ := H
 (try dsimp only at H)
 have A7 := Aside0.mk A70
 clear A70
 replace H := Option.bind_eq_some_iff.mp H
 obtain ⟨⟨t131, t132⟩, A80, H⟩ := H
 (try dsimp only at H)
 have A8 := Aside0.mk A80
 clear A80
 replace H := Option.bind_eq_some_iff.mp H
 obtain ⟨⟨t133, t134⟩, A90, H⟩ := H
 (try dsimp only at H)
 have A9 := Aside0.mk A90
 clear A90
 obtain ⟨ji10, hji10⟩ : ∃ j_ : Int, (mx (wrap64 ((wrap64 ((wrap64 (2 * (wrap64 ((wrap64 (1 + (Int.tmod t124 2))) + 1)))) + 2)) + (Int.tmod t131 16))) 6) = j_ := ⟨_, rfl⟩
 replace H : ((script_reader_next.f s0_0 t134).bind fun bt135 => (script_reader_conf.l0 k (wrap64 (1 + (Int.tmod bt135.1 3))) 0 s0_0 bt135.2 t121 (IntKind.u16.wrap (wrap64 ((Int.tmod t122 4) * 4096))) ji10 (wrap64 (1 + (Int.tmod t124 2))) (mx (wrap64 ((wrap64 ((wrap64 (Int.tdiv (wrap64 ((wrap64 ((wrap64 ((wrap64 (2 * (wrap64 ((wrap64 (1 + (Int.tmod t124 2))) + 1)))) + 2)) + (Int.tmod t131 16))) + 1)) 2)) + 1)) + (Int.tmod t133 4))) 4) (wrap64 (10 + (Int.tmod t126 20))) (Int.tmod t128 9) ([] : List (S63)))) = some (r1, r2, r3, r4, r5, r6, r7, r8, r9) := by first | (rw [hji10] at H; exact H) | (simp only [hji10] at H ⊢; exact H)
 (try rw [hji10] at A3)
 (try rw [hji10] at A4)
 (try rw [hji10] at A5)
 (try rw [hji10] at A6)
 (try rw [hji10] at A7)
 (try rw [hji10] at A8)
 (try rw [hji10] at A9)
 (try (have hji10l : 6 ≤ ji10 := by (rw [← hji10]; unfold mx; (repeat' split) <;> omega)))
 (try (have hji10m : 0 ≤ ji10 := by omega))
 have hji10_ : (if (wrap64 ((wrap64 ((wrap64 (2 * (wrap64 ((wrap64 (1 + (Int.tmod t124 2))) + 1)))) + 2)) + (Int.tmod t131 16))) < 6 then 6 else (wrap64 ((wrap64 ((wrap64 (2 * (wrap64 ((wrap64 (1 + (Int.tmod t124 2))) + 1)))) + 2)) + (Int.tmod t131 16)))) = ji10 := hji10
 obtain ⟨ji11, hji11⟩ : ∃ j_ : Int, (mx (wrap64 ((wrap64 ((wrap64 (Int.tdiv (wrap64 ((wrap64 ((wrap64 ((wrap64 (2 * (wrap64 ((wrap64 (1 + (Int.tmod t124 2))) + 1)))) + 2)) + (Int.tmod t131 16))) + 1)) 2)) + 1)) + (Int.tmod t133 4))) 4) = j_ := ⟨_, rfl⟩
 replace H : ((script_reader_next.f s0_0 t134).bind fun bt135 => (script_reader_conf.l0 k (wrap64 (1 + (Int.tmod bt135.1 3))) 0 s0_0 bt135.2 t121 (IntKind.u16.wrap (wrap64 ((Int.tmod t122 4) * 4096))) ji10 (wrap64 (1 + (Int.tmod t124 2))) ji11 (wrap64 (10 + (Int.tmod t126 20))) (Int.tmod t128 9) ([] : List (S63)))) = some (r1, r2, r3, r4, r5, r6, r7, r8, r9) := by first | (rw [hji11] at H; exact H) | (simp only [hji11] at H ⊢; exact H)
 (try rw [hji11] at A3)
 (try rw [hji11] at A4)
 (try rw [hji11] at A5)
 (try rw [hji11] at A6)
 (try rw [hji11] at A7)
 (try rw [hji11] at A8)
 (try rw [hji11] at A9)
 (try (have hji11l : 4 ≤ ji11 := by (rw [← hji11]; unfold mx; (repeat' split) <;> omega)))
 (try (have hji11m : 0 ≤ ji11 := by omega))
 have hji11_ : (if (wrap64 ((wrap64 ((wrap64 (Int.tdiv (wrap64 ((wrap64 ((wrap64 ((wrap64 (2 * (wrap64 ((wrap64 (1 + (Int.tmod t124 2))) + 1)))) + 2)) + (Int.tmod t131 16))) + 1)) 2)) + 1)) + (Int.tmod t133 4))) < 4 then 4 else (wrap64 ((wrap64 ((wrap64 (Int.tdiv (wrap64 ((wrap64 ((wrap64 ((wrap64 (2 * (wrap64 ((wrap64 (1 + (Int.tmod t124 2))) + 1)))) + 2)) + (Int.tmod t131 16))) + 1)) 2)) + 1)) + (Int.tmod t133 4)))) = ji11 := hji11
 replace H := Option.bind_eq_some_iff.mp H
 obtain ⟨⟨t135, t136⟩, A120, H⟩ := H
 (try dsimp only at H)
 have A12 := Aside0.mk A120
 clear A120
 have H' := Aside0.mk H
 clear H
 go_enter Tryd.func29, Tryd.ntmps29
 try go_wp2_with (first | ((with_reducible refine gate_dst (N := 4) rfl ?_); refine box_event ?hg (N := 4) ?hd (cs := #[.int .u64 0, .int .u16 0, .int .i64 0, .int .i64 0, .int .i64 0, .int .i64 0, .int .i64 0, .slice none 0 0]) (t := 51) ?hr ?_; (case hd => rfl); (case hg => rfl); (case hr => first | (go_simp; done) | (go_simp; rfl)); intro gb120 hg w13 hbox hb; replace HB := Aside0.mk (below_step bB hb); have BK120 := Aside0.mk (hbox); have GW120 := Aside0.mk ((by rw [hg]; exact (keep_size (w := w) (g := g) (row := none) bK) : w.heap.size ≤ gb120)); have GE120 := Aside0.mk ((Nat.le_trans HW0.out (by rw [hg]; exact (keep_size (w := w) (g := g) (row := none) bK) : w.heap.size ≤ gb120) : w0.heap.size ≤ gb120)); replace HK := Aside0.mk (KeepBut.trans bK (KeepBut.of_below hb g none) (.inl rfl)); have NB0_120 := Aside0.mk ((by rw [hg]; exact Nat.ne_of_lt (IsS54.lt (show IsS54 w0 _ g s0_0 s0_1 from by exact bI HI0.out)) : g ≠ gb120)); have NB120_0 := Aside0.mk ((by rw [hg]; exact Nat.ne_of_gt (IsS54.lt (show IsS54 w0 _ g s0_0 s0_1 from by exact bI HI0.out)) : gb120 ≠ g)); replace HI0 := Aside0.mk (IsS54.below (bI HI0.out) hb); clear hb hbox hg) | ((with_reducible refine gate_callee (f := 30) rfl ?_); refine gL (some 8) Tryd.func30 #[.int .i64 1, .int .i64 a1] ?_; (with_reducible refine (script_address.calls 1 a1 t121 _ A3.out).mono ?_); rintro e w' ⟨rfl, ⟨nd, rfl⟩⟩; refine ⟨_, rfl, ?_⟩; (try (rw [drewN_self w13]; generalize hq_ : World.drewN w13 _ = w13; replace BK120 : Aside0 (w13.heap[gb120]? = some (.cells #[.int .u64 0, .int .u16 0, .int .i64 0, .int .i64 0, .int .i64 0, .int .i64 0, .int .i64 0, .slice none 0 0] 51 (0, 0))) := ⟨by rw [← hq_]; exact (bw BK120.out)⟩; replace HI0 : Aside0 (IsS54 w0 w13 g s0_0 s0_1) := ⟨by rw [← hq_]; exact (bI HI0.out)⟩; replace HK : Aside0 (KeepBut w w13 g none) := ⟨by rw [← hq_]; exact bK⟩; replace HB : Aside0 (Below w0.heap.size w0 w13) := ⟨by rw [← hq_]; exact bB⟩; clear hq_))) | ((with_reducible refine gate_callee (f := 28) rfl ?_); refine gL (some 10) Tryd.func28 #[.pointer (some ⟨g, 0, none⟩)] ?_; (with_reducible refine (script_reader_next.calls g s0_0 s0_1 t122 t123 w0 _ ?side1 ?side2 A4.out).mono ?_); (case side1 => exact bI HI0.out); (case side2 => exact bB); rintro e w14 ⟨rfl, hi, hb, hk⟩; refine ⟨_, rfl, ?_⟩; replace BK120 := Aside0.mk (KeepBut.blk hk (g' := gb120) (o := .cells #[.int .u64 0, .int .u16 0, .int .i64 0, .int .i64 0, .int .i64 0, .int .i64 0, .int .i64 0, .slice none 0 0] 51 (0, 0)) (bw BK120.out) NB120_0.out (by simp)); replace HK := Aside0.mk (KeepBut.trans bK hk (.inl rfl)); replace HB := Aside0.mk (hb); replace HI0 := Aside0.mk (hi); (try clear hb); (try clear hb2); (try clear hk); (try clear hi)) | ((with_reducible refine gate_callee (f := 28) rfl ?_); refine gL (some 15) Tryd.func28 #[.pointer (some ⟨g, 0, none⟩)] ?_; (with_reducible refine (script_reader_next.calls g s0_0 t123 t124 t125 w0 _ ?side1 ?side2 A5.out).mono ?_); (case side1 => exact bI HI0.out); (case side2 => exact bB); rintro e w15 ⟨rfl, hi, hb, hk⟩; refine ⟨_, rfl, ?_⟩; replace BK120 := Aside0.mk (KeepBut.blk hk (g' := gb120) (o := .cells #[.int .u64 0, .int .u16 0, .int .i64 0, .int .i64 0, .int .i64 0, .int .i64 0, .int .i64 0, .slice none 0 0] 51 (0, 0)) (bw BK120.out) NB120_0.out (by simp)); replace HK := Aside0.mk (KeepBut.trans bK hk (.inl rfl)); replace HB := Aside0.mk (hb); replace HI0 := Aside0.mk (hi); (try clear hb); (try clear hb2); (try clear hk); (try clear hi)) | ((with_reducible refine gate_callee (f := 28) rfl ?_); refine gL (some 19) Tryd.func28 #[.pointer (some ⟨g, 0, none⟩)] ?_; (with_reducible refine (script_reader_next.calls g s0_0 t125 t126 t127 w0 _ ?side1 ?side2 A6.out).mono ?_); (case side1 => exact bI HI0.out); (case side2 => exact bB); rintro e w16 ⟨rfl, hi, hb, hk⟩; refine ⟨_, rfl, ?_⟩; replace BK120 := Aside0.mk (KeepBut.blk hk (g' := gb120) (o := .cells #[.int .u64 0, .int .u16 0, .int .i64 0, .int .i64 0, .int .i64 0, .int .i64 0, .int .i64 0, .slice none 0 0] 51 (0, 0)) (bw BK120.out) NB120_0.out (by simp)); replace HK := Aside0.mk (KeepBut.trans bK hk (.inl rfl)); replace HB := Aside0.mk (hb); replace HI0 := Aside0.mk (hi); (try clear hb); (try clear hb2); (try clear hk); (try clear hi)) | ((with_reducible refine gate_callee (f := 28) rfl ?_); refine gL (some 23) Tryd.func28 #[.pointer (some ⟨g, 0, none⟩)] ?_; (with_reducible refine (script_reader_next.calls g s0_0 t127 t128 t129 w0 _ ?side1 ?side2 A7.out).mono ?_); (case side1 => exact bI HI0.out); (case side2 => exact bB); rintro e w17 ⟨rfl, hi, hb, hk⟩; refine ⟨_, rfl, ?_⟩; replace BK120 := Aside0.mk (KeepBut.blk hk (g' := gb120) (o := .cells #[.int .u64 0, .int .u16 0, .int .i64 0, .int .i64 0, .int .i64 0, .int .i64 0, .int .i64 0, .slice none 0 0] 51 (0, 0)) (bw BK120.out) NB120_0.out (by simp)); replace HK := Aside0.mk (KeepBut.trans bK hk (.inl rfl)); replace HB := Aside0.mk (hb); replace HI0 := Aside0.mk (hi); (try clear hb); (try clear hb2); (try clear hk); (try clear hi)) | ((with_reducible refine gate_dst (N := 5) rfl ?_); refine box_event ?hg (N := 5) ?hd (cs := #[.int .u64 0, .int .u16 0, .int .i64 0, .int .i64 0, .int .i64 0, .int .i64 0, .int .i64 0, .slice none 0 0]) (t := 51) ?hr ?_; (case hd => rfl); (case hg => rfl); (case hr => first | (go_simp; done) | (go_simp; rfl)); intro gb130 hg w18 hbox hb; replace HB := Aside0.mk (below_step bB hb); have BK130 := Aside0.mk (hbox); have GW130 := Aside0.mk ((by rw [hg]; exact (keep_size (w := w) (g := g) (row := none) bK) : w.heap.size ≤ gb130)); have GE130 := Aside0.mk ((Nat.le_trans HW0.out (by rw [hg]; exact (keep_size (w := w) (g := g) (row := none) bK) : w.heap.size ≤ gb130) : w0.heap.size ≤ gb130)); replace HK := Aside0.mk (KeepBut.trans bK (KeepBut.of_below hb g none) (.inl rfl)); have NB120_130 := Aside0.mk (nbL (bw BK120.out) hg : gb120 ≠ gb130); have NB130_120 := Aside0.mk (nbL (bw BK120.out) hg : gb120 ≠ gb130).symm; replace BK120 := Aside0.mk (blk_below (g := gb120) (o := .cells #[.int .u64 0, .int .u16 0, .int .i64 0, .int .i64 0, .int .i64 0, .int .i64 0, .int .i64 0, .slice none 0 0] 51 (0, 0)) (bw BK120.out) hb); have NB0_130 := Aside0.mk ((by rw [hg]; exact Nat.ne_of_lt (IsS54.lt (show IsS54 w0 _ g s0_0 t129 from by exact bI HI0.out)) : g ≠ gb130)); have NB130_0 := Aside0.mk ((by rw [hg]; exact Nat.ne_of_gt (IsS54.lt (show IsS54 w0 _ g s0_0 t129 from by exact bI HI0.out)) : gb130 ≠ g)); replace HI0 := Aside0.mk (IsS54.below (bI HI0.out) hb); clear hb hbox hg; have hnb19 := NB130_120.out; have hnc19 := NB120_130.out; have hnb20 := NB130_0.out; have hnc20 := NB0_130.out; obtain ⟨hcz21_0, hcz21_1, hcz21_2, hcz21_3, hcz21_4, hcz21_5, hcz21_6, hcz21_7⟩ := cZ8 BK130.out; obtain ⟨hfz21_0, hfz21_1, hfz21_2, hfz21_3, hfz21_4, hfz21_5, hfz21_6, hfz21_7⟩ := fZ8 BK130.out))
 have n0_ : Aside0 (((((((((w18.setCell ⟨gb130, 0, none⟩ (.int .u64 t121)).setCell ⟨gb130, 1, none⟩ (.int .u16 (IntKind.u16.wrap (wrap64 ((Int.tmod t122 4) * 4096))))).setCell ⟨gb130, 2, none⟩ (.int .i64 0)).setCell ⟨gb130, 3, none⟩ (.int .i64 (wrap64 (1 + (Int.tmod t124 2))))).setCell ⟨gb130, 4, none⟩ (.int .i64 0)).setCell ⟨gb130, 5, none⟩ (.int .i64 (wrap64 (10 + (Int.tmod t126 20))))).setCell ⟨gb130, 6, none⟩ (.int .i64 (Int.tmod t128 9))).setCell ⟨gb130, 7, none⟩ (.slice none 0 0)).heap[gb120]? = some (.cells #[.int .u64 0, .int .u16 0, .int .i64 0, .int .i64 0, .int .i64 0, .int .i64 0, .int .i64 0, .slice none 0 0] 51 (0, 0))) := ⟨bw BK120.out⟩
 have n1_ : Aside0 (((((((((w18.setCell ⟨gb130, 0, none⟩ (.int .u64 t121)).setCell ⟨gb130, 1, none⟩ (.int .u16 (IntKind.u16.wrap (wrap64 ((Int.tmod t122 4) * 4096))))).setCell ⟨gb130, 2, none⟩ (.int .i64 0)).setCell ⟨gb130, 3, none⟩ (.int .i64 (wrap64 (1 + (Int.tmod t124 2))))).setCell ⟨gb130, 4, none⟩ (.int .i64 0)).setCell ⟨gb130, 5, none⟩ (.int .i64 (wrap64 (10 + (Int.tmod t126 20))))).setCell ⟨gb130, 6, none⟩ (.int .i64 (Int.tmod t128 9))).setCell ⟨gb130, 7, none⟩ (.slice none 0 0)).heap[gb130]? = some (.cells #[.int .u64 t121, .int .u16 (IntKind.u16.wrap (wrap64 ((Int.tmod t122 4) * 4096))), .int .i64 0, .int .i64 (wrap64 (1 + (Int.tmod t124 2))), .int .i64 0, .int .i64 (wrap64 (10 + (Int.tmod t126 20))), .int .i64 (Int.tmod t128 9), .slice none 0 0] 51 (0, 0))) := ⟨by exact put8 (bw BK130.out)⟩
 have n2_ : Aside0 (IsS54 w0 ((((((((w18.setCell ⟨gb130, 0, none⟩ (.int .u64 t121)).setCell ⟨gb130, 1, none⟩ (.int .u16 (IntKind.u16.wrap (wrap64 ((Int.tmod t122 4) * 4096))))).setCell ⟨gb130, 2, none⟩ (.int .i64 0)).setCell ⟨gb130, 3, none⟩ (.int .i64 (wrap64 (1 + (Int.tmod t124 2))))).setCell ⟨gb130, 4, none⟩ (.int .i64 0)).setCell ⟨gb130, 5, none⟩ (.int .i64 (wrap64 (10 + (Int.tmod t126 20))))).setCell ⟨gb130, 6, none⟩ (.int .i64 (Int.tmod t128 9))).setCell ⟨gb130, 7, none⟩ (.slice none 0 0)) g s0_0 t129) := ⟨bI HI0.out⟩
 have n3_ : Aside0 (KeepBut w ((((((((w18.setCell ⟨gb130, 0, none⟩ (.int .u64 t121)).setCell ⟨gb130, 1, none⟩ (.int .u16 (IntKind.u16.wrap (wrap64 ((Int.tmod t122 4) * 4096))))).setCell ⟨gb130, 2, none⟩ (.int .i64 0)).setCell ⟨gb130, 3, none⟩ (.int .i64 (wrap64 (1 + (Int.tmod t124 2))))).setCell ⟨gb130, 4, none⟩ (.int .i64 0)).setCell ⟨gb130, 5, none⟩ (.int .i64 (wrap64 (10 + (Int.tmod t126 20))))).setCell ⟨gb130, 6, none⟩ (.int .i64 (Int.tmod t128 9))).setCell ⟨gb130, 7, none⟩ (.slice none 0 0)) g none) := ⟨bK⟩
 have n4_ : Aside0 (Below w0.heap.size w0 ((((((((w18.setCell ⟨gb130, 0, none⟩ (.int .u64 t121)).setCell ⟨gb130, 1, none⟩ (.int .u16 (IntKind.u16.wrap (wrap64 ((Int.tmod t122 4) * 4096))))).setCell ⟨gb130, 2, none⟩ (.int .i64 0)).setCell ⟨gb130, 3, none⟩ (.int .i64 (wrap64 (1 + (Int.tmod t124 2))))).setCell ⟨gb130, 4, none⟩ (.int .i64 0)).setCell ⟨gb130, 5, none⟩ (.int .i64 (wrap64 (10 + (Int.tmod t126 20))))).setCell ⟨gb130, 6, none⟩ (.int .i64 (Int.tmod t128 9))).setCell ⟨gb130, 7, none⟩ (.slice none 0 0))) := ⟨bB⟩
 (try clear BK120)
 (try clear BK130)
 (try clear HI0)
 (try clear HK)
 (try clear HB)
 (try simp only [setCell_drewN_])
 generalize ((((((((w18.setCell ⟨gb130, 0, none⟩ (.int .u64 t121)).setCell ⟨gb130, 1, none⟩ (.int .u16 (IntKind.u16.wrap (wrap64 ((Int.tmod t122 4) * 4096))))).setCell ⟨gb130, 2, none⟩ (.int .i64 0)).setCell ⟨gb130, 3, none⟩ (.int .i64 (wrap64 (1 + (Int.tmod t124 2))))).setCell ⟨gb130, 4, none⟩ (.int .i64 0)).setCell ⟨gb130, 5, none⟩ (.int .i64 (wrap64 (10 + (Int.tmod t126 20))))).setCell ⟨gb130, 6, none⟩ (.int .i64 (Int.tmod t128 9))).setCell ⟨gb130, 7, none⟩ (.slice none 0 0)) = w22 at n0_ n1_ n2_ n3_ n4_ ⊢
 have BK120 := n0_
 have BK130 := n1_
 have HI0 := n2_
 have HK := n3_
 have HB := n4_
 clear n0_ n1_ n2_ n3_ n4_
 replace BK120 := Aside0.mk (blk_drew BK120.out)
 replace BK130 := Aside0.mk (blk_drew BK130.out)
 replace HI0 := Aside0.mk (IsS54.drew HI0.out)
 replace HK := Aside0.mk (keep_drew HK.out)
 replace HB := Aside0.mk (below_drew1 HB.out)
 refine start_ (n := 11) (S := fun w' => w'.cell? ⟨gb130, 0, none⟩ = some (.int .u64 t121) ∧ w'.cell? ⟨gb130, 1, none⟩ = some (.int .u16 (IntKind.u16.wrap (wrap64 ((Int.tmod t122 4) * 4096)))) ∧ w'.cell? ⟨gb130, 2, none⟩ = some (.int .i64 0) ∧ w'.cell? ⟨gb130, 3, none⟩ = some (.int .i64 (wrap64 (1 + (Int.tmod t124 2)))) ∧ w'.cell? ⟨gb130, 4, none⟩ = some (.int .i64 0) ∧ w'.cell? ⟨gb130, 5, none⟩ = some (.int .i64 (wrap64 (10 + (Int.tmod t126 20)))) ∧ w'.cell? ⟨gb130, 6, none⟩ = some (.int .i64 (Int.tmod t128 9)) ∧ w'.cell? ⟨gb130, 7, none⟩ = some (.slice none 0 0)) (ds := [10]) #[false, false, false, false, false, false, false, false, false, false, false] (by kernel_rfl) rfl rfl ⟨(blk_cell BK130.out 0).trans rfl, (blk_cell BK130.out 1).trans rfl, (blk_cell BK130.out 2).trans rfl, (blk_cell BK130.out 3).trans rfl, (blk_cell BK130.out 4).trans rfl, (blk_cell BK130.out 5).trans rfl, (blk_cell BK130.out 6).trans rfl, (blk_cell BK130.out 7).trans rfl⟩ (fun hHeld => ?_); refine with_tabW script_reader_conf.tab2 script_reader_conf.bits2 (fun HT_ HW_ => ?_)
 generalize w22.drew = w23 at BK120 BK130 HI0 HK HB hHeld ⊢
 refine pS 0 26 HT_ ?_
 refine pS 5 31 HT_ ?_
 refine tS 1 27 HT_ HW_ hHeld ?_
 refine pS 2 28 HT_ ?_
 refine pS 3 29 HT_ ?_
 refine pS 4 30 HT_ ?_
 refine one_ (i := 6) (N := some 32) #[true, true, true, true, true, true, true, false, false, false, false] rfl rfl (one_of HT_.out (by kernel_rfl)) (by decide) (fun K hK => ?_)
 refine goes_ Tryd.func28 (by kernel_rfl) rfl #[.pointer (some ⟨g, 0, none⟩)] (by rfl) rfl rfl (by (try simp only [List.map_toArray, List.map_cons, List.map_nil]); first | done | rfl | (simp only [List.length_drop, List.length_take]; rfl)) ?_
 with_reducible refine (script_reader_next.calls g s0_0 t129 t131 t132 w0 _ ?side1 ?side2 A8.out).mono ?_
 (case side1 => exact bI HI0.out)
 (case side2 => exact bB)
 rintro e w24 ⟨rfl, hi, hb, hk⟩
 refine ⟨_, rfl, ?_⟩
 replace BK120 := Aside0.mk (KeepBut.blk hk (g' := gb120) (o := .cells #[.int .u64 0, .int .u16 0, .int .i64 0, .int .i64 0, .int .i64 0, .int .i64 0, .int .i64 0, .slice none 0 0] 51 (0, 0)) (bw BK120.out) NB120_0.out (by simp))
 replace BK130 := Aside0.mk (KeepBut.blk hk (g' := gb130) (o := .cells #[.int .u64 t121, .int .u16 (IntKind.u16.wrap (wrap64 ((Int.tmod t122 4) * 4096))), .int .i64 0, .int .i64 (wrap64 (1 + (Int.tmod t124 2))), .int .i64 0, .int .i64 (wrap64 (10 + (Int.tmod t126 20))), .int .i64 (Int.tmod t128 9), .slice none 0 0] 51 (0, 0)) (bw BK130.out) NB130_0.out (by simp))
 replace HK := Aside0.mk (KeepBut.trans bK hk (.inl rfl))
 replace HB := Aside0.mk (hb)
 replace HI0 := Aside0.mk (hi)
 (try clear hb)
 (try clear hb2)
 (try clear hk)
 (try clear hi)
 refine hK.out _ _ ⟨(blk_cell BK130.out 0).trans rfl, (blk_cell BK130.out 1).trans rfl, (blk_cell BK130.out 2).trans rfl, (blk_cell BK130.out 3).trans rfl, (blk_cell BK130.out 4).trans rfl, (blk_cell BK130.out 5).trans rfl, (blk_cell BK130.out 6).trans rfl, (blk_cell BK130.out 7).trans rfl⟩ (fun hHeld => ?_)
 clear hK K
 refine nS 32 ?_
 refine pS 7 33 HT_ ?_
 refine pS 8 34 HT_ ?_
 refine pS 9 35 HT_ ?_
 refine last_ (i := 10) (N := none) #[true, true, true, true, true, true, true, true, true, true, true] rfl rfl (one_of HT_.out (by kernel_rfl)) (by decide) (fun K hK => ?_)
 have hs25 : w24.cell? ⟨gb130, 2, none⟩ = some (.int .i64 0) := (blk_cell BK130.out 2).trans rfl
 have hfs25 := blk_frozen BK130.out 2
 have hns25_0 := NB120_130.out
 have hms25_0 := NB130_120.out
 refine skip_ (w1 := ?_) (by rfl) rfl ?_ ?_
 rotate_left
 ·go_simp
  rfl
 refine hK.out _ _ ?_
 clear hK K
 refine done_ (done_of HT_.out (by kernel_rfl)) ?_
 try go_wp2
 have n0_ : Aside0 ((w24.setCell ⟨gb130, 2, none⟩ (.int .i64 (wrap64 ((wrap64 ((wrap64 (2 * (wrap64 ((wrap64 (1 + (Int.tmod t124 2))) + 1)))) + 2)) + (Int.tmod t131 16))))).heap[gb120]? = some (.cells #[.int .u64 0, .int .u16 0, .int .i64 0, .int .i64 0, .int .i64 0, .int .i64 0, .int .i64 0, .slice none 0 0] 51 (0, 0))) := ⟨bw BK120.out⟩
 have n1_ : Aside0 ((w24.setCell ⟨gb130, 2, none⟩ (.int .i64 (wrap64 ((wrap64 ((wrap64 (2 * (wrap64 ((wrap64 (1 + (Int.tmod t124 2))) + 1)))) + 2)) + (Int.tmod t131 16))))).heap[gb130]? = some (.cells #[.int .u64 t121, .int .u16 (IntKind.u16.wrap (wrap64 ((Int.tmod t122 4) * 4096))), .int .i64 (wrap64 ((wrap64 ((wrap64 (2 * (wrap64 ((wrap64 (1 + (Int.tmod t124 2))) + 1)))) + 2)) + (Int.tmod t131 16))), .int .i64 (wrap64 (1 + (Int.tmod t124 2))), .int .i64 0, .int .i64 (wrap64 (10 + (Int.tmod t126 20))), .int .i64 (Int.tmod t128 9), .slice none 0 0] 51 (0, 0))) := ⟨by refine bW ?_; refine blk_put (cs := #[.int .u64 t121, .int .u16 (IntKind.u16.wrap (wrap64 ((Int.tmod t122 4) * 4096))), .int .i64 0, .int .i64 (wrap64 (1 + (Int.tmod t124 2))), .int .i64 0, .int .i64 (wrap64 (10 + (Int.tmod t126 20))), .int .i64 (Int.tmod t128 9), .slice none 0 0]) ?_ 2 _ rfl; exact bw BK130.out⟩
 have n2_ : Aside0 (IsS54 w0 (w24.setCell ⟨gb130, 2, none⟩ (.int .i64 (wrap64 ((wrap64 ((wrap64 (2 * (wrap64 ((wrap64 (1 + (Int.tmod t124 2))) + 1)))) + 2)) + (Int.tmod t131 16))))) g s0_0 t132) := ⟨bI HI0.out⟩
 have n3_ : Aside0 (KeepBut w (w24.setCell ⟨gb130, 2, none⟩ (.int .i64 (wrap64 ((wrap64 ((wrap64 (2 * (wrap64 ((wrap64 (1 + (Int.tmod t124 2))) + 1)))) + 2)) + (Int.tmod t131 16))))) g none) := ⟨bK⟩
 have n4_ : Aside0 (Below w0.heap.size w0 (w24.setCell ⟨gb130, 2, none⟩ (.int .i64 (wrap64 ((wrap64 ((wrap64 (2 * (wrap64 ((wrap64 (1 + (Int.tmod t124 2))) + 1)))) + 2)) + (Int.tmod t131 16)))))) := ⟨bB⟩
 (try clear BK120)
 (try clear BK130)
 (try clear HI0)
 (try clear HK)
 (try clear HB)
 (try simp only [setCell_drewN_])
 generalize (w24.setCell ⟨gb130, 2, none⟩ (.int .i64 (wrap64 ((wrap64 ((wrap64 (2 * (wrap64 ((wrap64 (1 + (Int.tmod t124 2))) + 1)))) + 2)) + (Int.tmod t131 16))))) = w26 at n0_ n1_ n2_ n3_ n4_ ⊢
 have BK120 := n0_
 have BK130 := n1_
 have HI0 := n2_
 have HK := n3_
 have HB := n4_
 clear n0_ n1_ n2_ n3_ n4_
 replace BK120 := Aside0.mk (blk_drew BK120.out)
 replace BK130 := Aside0.mk (blk_drew BK130.out)
 replace HI0 := Aside0.mk (IsS54.drew HI0.out)
 replace HK := Aside0.mk (keep_drew HK.out)
 replace HB := Aside0.mk (below_drew1 HB.out)
 refine start_ (n := 11) (S := fun w' => w'.cell? ⟨gb130, 0, none⟩ = some (.int .u64 t121) ∧ w'.cell? ⟨gb130, 1, none⟩ = some (.int .u16 (IntKind.u16.wrap (wrap64 ((Int.tmod t122 4) * 4096)))) ∧ w'.cell? ⟨gb130, 2, none⟩ = some (.int .i64 (wrap64 ((wrap64 ((wrap64 (2 * (wrap64 ((wrap64 (1 + (Int.tmod t124 2))) + 1)))) + 2)) + (Int.tmod t131 16)))) ∧ w'.cell? ⟨gb130, 3, none⟩ = some (.int .i64 (wrap64 (1 + (Int.tmod t124 2)))) ∧ w'.cell? ⟨gb130, 4, none⟩ = some (.int .i64 0) ∧ w'.cell? ⟨gb130, 5, none⟩ = some (.int .i64 (wrap64 (10 + (Int.tmod t126 20)))) ∧ w'.cell? ⟨gb130, 6, none⟩ = some (.int .i64 (Int.tmod t128 9)) ∧ w'.cell? ⟨gb130, 7, none⟩ = some (.slice none 0 0)) (ds := [10]) #[false, false, false, false, false, false, false, false, false, false, false] (by kernel_rfl) rfl rfl ⟨(blk_cell BK130.out 0).trans rfl, (blk_cell BK130.out 1).trans rfl, (blk_cell BK130.out 2).trans rfl, (blk_cell BK130.out 3).trans rfl, (blk_cell BK130.out 4).trans rfl, (blk_cell BK130.out 5).trans rfl, (blk_cell BK130.out 6).trans rfl, (blk_cell BK130.out 7).trans rfl⟩ (fun hHeld => ?_); refine with_tabW script_reader_conf.tab3 script_reader_conf.bits3 (fun HT_ HW_ => ?_)
 generalize w26.drew = w27 at BK120 BK130 HI0 HK HB hHeld ⊢
 refine pS 0 36 HT_ ?_
 refine pS 5 41 HT_ ?_
 refine tS 1 37 HT_ HW_ hHeld ?_
 refine pS 2 38 HT_ ?_
 refine pS 3 39 HT_ ?_
 refine pS 4 40 HT_ ?_
 refine one_ (i := 6) (N := some 42) #[true, true, true, true, true, true, true, false, false, false, false] rfl rfl (one_of HT_.out (by kernel_rfl)) (by decide) (fun K hK => ?_)
 refine goes_ Tryd.func28 (by kernel_rfl) rfl #[.pointer (some ⟨g, 0, none⟩)] (by rfl) rfl rfl (by (try simp only [List.map_toArray, List.map_cons, List.map_nil]); first | done | rfl | (simp only [List.length_drop, List.length_take]; rfl)) ?_
 with_reducible refine (script_reader_next.calls g s0_0 t132 t133 t134 w0 _ ?side1 ?side2 A9.out).mono ?_
 (case side1 => exact bI HI0.out)
 (case side2 => exact bB)
 rintro e w28 ⟨rfl, hi, hb, hk⟩
 refine ⟨_, rfl, ?_⟩
 replace BK120 := Aside0.mk (KeepBut.blk hk (g' := gb120) (o := .cells #[.int .u64 0, .int .u16 0, .int .i64 0, .int .i64 0, .int .i64 0, .int .i64 0, .int .i64 0, .slice none 0 0] 51 (0, 0)) (bw BK120.out) NB120_0.out (by simp))
 replace BK130 := Aside0.mk (KeepBut.blk hk (g' := gb130) (o := .cells #[.int .u64 t121, .int .u16 (IntKind.u16.wrap (wrap64 ((Int.tmod t122 4) * 4096))), .int .i64 (wrap64 ((wrap64 ((wrap64 (2 * (wrap64 ((wrap64 (1 + (Int.tmod t124 2))) + 1)))) + 2)) + (Int.tmod t131 16))), .int .i64 (wrap64 (1 + (Int.tmod t124 2))), .int .i64 0, .int .i64 (wrap64 (10 + (Int.tmod t126 20))), .int .i64 (Int.tmod t128 9), .slice none 0 0] 51 (0, 0)) (bw BK130.out) NB130_0.out (by simp))
 replace HK := Aside0.mk (KeepBut.trans bK hk (.inl rfl))
 replace HB := Aside0.mk (hb)
 replace HI0 := Aside0.mk (hi)
 (try clear hb)
 (try clear hb2)
 (try clear hk)
 (try clear hi)
 refine hK.out _ _ ⟨(blk_cell BK130.out 0).trans rfl, (blk_cell BK130.out 1).trans rfl, (blk_cell BK130.out 2).trans rfl, (blk_cell BK130.out 3).trans rfl, (blk_cell BK130.out 4).trans rfl, (blk_cell BK130.out 5).trans rfl, (blk_cell BK130.out 6).trans rfl, (blk_cell BK130.out 7).trans rfl⟩ (fun hHeld => ?_)
 clear hK K
 refine nS 42 ?_
 refine pS 7 43 HT_ ?_
 refine pS 8 44 HT_ ?_
 refine pS 9 45 HT_ ?_
 refine last_ (i := 10) (N := none) #[true, true, true, true, true, true, true, true, true, true, true] rfl rfl (one_of HT_.out (by kernel_rfl)) (by decide) (fun K hK => ?_)
 have hs29 : w28.cell? ⟨gb130, 4, none⟩ = some (.int .i64 0) := (blk_cell BK130.out 4).trans rfl
 have hfs29 := blk_frozen BK130.out 4
 have hns29_0 := NB120_130.out
 have hms29_0 := NB130_120.out
 refine skip_ (w1 := ?_) (by rfl) rfl ?_ ?_
 rotate_left
 ·go_simp
  rfl
 refine hK.out _ _ ?_
 clear hK K
 refine done_ (done_of HT_.out (by kernel_rfl)) ?_
 have hcz30_0 : w28.cell? ⟨gb130, 0, none⟩ = some (.int .u64 t121) := (blk_cell BK130.out 0).trans rfl
 have hcz30_1 : w28.cell? ⟨gb130, 1, none⟩ = some (.int .u16 (IntKind.u16.wrap (wrap64 ((Int.tmod t122 4) * 4096)))) := (blk_cell BK130.out 1).trans rfl
 have hcz30_2 : w28.cell? ⟨gb130, 2, none⟩ = some (.int .i64 (wrap64 ((wrap64 ((wrap64 (2 * (wrap64 ((wrap64 (1 + (Int.tmod t124 2))) + 1)))) + 2)) + (Int.tmod t131 16)))) := (blk_cell BK130.out 2).trans rfl
 have hcz30_3 : w28.cell? ⟨gb130, 3, none⟩ = some (.int .i64 (wrap64 (1 + (Int.tmod t124 2)))) := (blk_cell BK130.out 3).trans rfl
 have hcz30_4 : w28.cell? ⟨gb130, 4, none⟩ = some (.int .i64 0) := (blk_cell BK130.out 4).trans rfl
 have hcz30_5 : w28.cell? ⟨gb130, 5, none⟩ = some (.int .i64 (wrap64 (10 + (Int.tmod t126 20)))) := (blk_cell BK130.out 5).trans rfl
 have hcz30_6 : w28.cell? ⟨gb130, 6, none⟩ = some (.int .i64 (Int.tmod t128 9)) := (blk_cell BK130.out 6).trans rfl
 have hcz30_7 : w28.cell? ⟨gb130, 7, none⟩ = some (.slice none 0 0) := (blk_cell BK130.out 7).trans rfl
 obtain ⟨hfz30_0, hfz30_1, hfz30_2, hfz30_3, hfz30_4, hfz30_5, hfz30_6, hfz30_7⟩ := fZ8 BK130.out
 try go_wp2_with (first | ((with_reducible refine gate_callee (f := 28) rfl ?_); refine gL (some 55) Tryd.func28 #[.pointer (some ⟨g, 0, none⟩)] ?_; (with_reducible refine (script_reader_next.calls g s0_0 t134 t135 t136 w0 _ ?side1 ?side2 A12.out).mono ?_); (case side1 => exact bI HI0.out); (case side2 => exact bB); rintro e w31 ⟨rfl, hi, hb, hk⟩; refine ⟨_, rfl, ?_⟩; replace BK120 := Aside0.mk (KeepBut.blk hk (g' := gb120) (o := .cells #[.int .u64 0, .int .u16 0, .int .i64 0, .int .i64 0, .int .i64 0, .int .i64 0, .int .i64 0, .slice none 0 0] 51 (0, 0)) (bw BK120.out) NB120_0.out (by simp)); replace BK130 := Aside0.mk (KeepBut.blk hk (g' := gb130) (o := .cells #[.int .u64 t121, .int .u16 (IntKind.u16.wrap (wrap64 ((Int.tmod t122 4) * 4096))), .int .i64 ji10, .int .i64 (wrap64 (1 + (Int.tmod t124 2))), .int .i64 ji11, .int .i64 (wrap64 (10 + (Int.tmod t126 20))), .int .i64 (Int.tmod t128 9), .slice none 0 0] 51 (0, 0)) (by refine bW ?_; refine blk_put (cs := #[.int .u64 t121, .int .u16 (IntKind.u16.wrap (wrap64 ((Int.tmod t122 4) * 4096))), .int .i64 ji10, .int .i64 (wrap64 (1 + (Int.tmod t124 2))), .int .i64 (wrap64 ((wrap64 ((wrap64 (Int.tdiv (wrap64 ((wrap64 ((wrap64 ((wrap64 (2 * (wrap64 ((wrap64 (1 + (Int.tmod t124 2))) + 1)))) + 2)) + (Int.tmod t131 16))) + 1)) 2)) + 1)) + (Int.tmod t133 4))), .int .i64 (wrap64 (10 + (Int.tmod t126 20))), .int .i64 (Int.tmod t128 9), .slice none 0 0]) ?_ 4 _ rfl; refine bW ?_; refine blk_put (cs := #[.int .u64 t121, .int .u16 (IntKind.u16.wrap (wrap64 ((Int.tmod t122 4) * 4096))), .int .i64 (wrap64 ((wrap64 ((wrap64 (2 * (wrap64 ((wrap64 (1 + (Int.tmod t124 2))) + 1)))) + 2)) + (Int.tmod t131 16))), .int .i64 (wrap64 (1 + (Int.tmod t124 2))), .int .i64 (wrap64 ((wrap64 ((wrap64 (Int.tdiv (wrap64 ((wrap64 ((wrap64 ((wrap64 (2 * (wrap64 ((wrap64 (1 + (Int.tmod t124 2))) + 1)))) + 2)) + (Int.tmod t131 16))) + 1)) 2)) + 1)) + (Int.tmod t133 4))), .int .i64 (wrap64 (10 + (Int.tmod t126 20))), .int .i64 (Int.tmod t128 9), .slice none 0 0]) ?_ 2 _ rfl; refine bW ?_; refine blk_put (cs := #[.int .u64 t121, .int .u16 (IntKind.u16.wrap (wrap64 ((Int.tmod t122 4) * 4096))), .int .i64 (wrap64 ((wrap64 ((wrap64 (2 * (wrap64 ((wrap64 (1 + (Int.tmod t124 2))) + 1)))) + 2)) + (Int.tmod t131 16))), .int .i64 (wrap64 (1 + (Int.tmod t124 2))), .int .i64 0, .int .i64 (wrap64 (10 + (Int.tmod t126 20))), .int .i64 (Int.tmod t128 9), .slice none 0 0]) ?_ 4 _ rfl; exact bw BK130.out) NB130_0.out (by simp)); replace HK := Aside0.mk (KeepBut.trans bK hk (.inl rfl)); replace HB := Aside0.mk (hb); replace HI0 := Aside0.mk (hi); (try clear hb); (try clear hb2); (try clear hk); (try clear hi)))
 go_loopg [58] k (fun kq v58 w' => ∃ (x58_1 : Int) (x1001_1 : Int) (x131007_1 : List (S63)) (u131007 : Value), v58 = .int .i64 x58_1 ∧ Aside0 (script_reader_conf.l0 kq (wrap64 (1 + (Int.tmod t135 3))) x58_1 s0_0 x1001_1 t121 (IntKind.u16.wrap (wrap64 ((Int.tmod t122 4) * 4096))) ji10 (wrap64 (1 + (Int.tmod t124 2))) ji11 (wrap64 (10 + (Int.tmod t126 20))) (Int.tmod t128 9) x131007_1 = some (r1, r2, r3, r4, r5, r6, r7, r8, r9)) ∧ Aside0 (kq ≤ k) ∧ Aside0 (Kd.R k63 63 w' w.heap.size (fun _ => True) u131007 x131007_1) ∧ Aside0 (w'.heap[gb120]? = some (.cells #[.int .u64 0, .int .u16 0, .int .i64 0, .int .i64 0, .int .i64 0, .int .i64 0, .int .i64 0, (.slice none 0 0)] 51 (0, 0))) ∧ Aside0 (w'.heap[gb130]? = some (.cells #[.int .u64 t121, .int .u16 (IntKind.u16.wrap (wrap64 ((Int.tmod t122 4) * 4096))), .int .i64 ji10, .int .i64 (wrap64 (1 + (Int.tmod t124 2))), .int .i64 ji11, .int .i64 (wrap64 (10 + (Int.tmod t126 20))), .int .i64 (Int.tmod t128 9), u131007] 51 (0, 0))) ∧ Aside0 (IsS54 w0 w' g s0_0 x1001_1) ∧ Aside0 (KeepBut w w' g none) ∧ Aside0 (Below w0.heap.size w0 w'))
 case atStart => exact ⟨(0), (t136), (([] : List (S63))), (.slice none 0 0), (by first | rfl | (simp; done) | (simp [*]; done)), H', ⟨Nat.le_refl _⟩, ⟨by first | exact Kd.R_nil _ _ _ _ _ | exact Kd.N_nil _ _ _ _ _ | exact Kd.V_nil _ _ _ _ _ | exact Kd.Q_nil _ _ _ _ _ | exact Kd.S_nil _ _ _ _ _⟩, ⟨bw BK120.out⟩, ⟨bw BK130.out⟩, ⟨bI HI0.out⟩, ⟨bK⟩, ⟨bB⟩⟩
 clear H'
 try clear p2
 try clear p6
 try clear hcz21_0
 try clear hcz21_1
 try clear hcz21_2
 try clear hcz21_3
 try clear hcz21_4
 try clear hcz21_5
 try clear hcz21_6
 try clear hcz21_7
 try clear hcz30_0
 try clear hcz30_1
 try clear hcz30_2
 try clear hcz30_3
 try clear hcz30_4
 try clear hcz30_5
 try clear hcz30_6
 try clear hcz30_7
 try clear hfz21_0
 try clear hfz21_1
 try clear hfz21_2
 try clear hfz21_3
 try clear hfz21_4
 try clear hfz21_5
 try clear hfz21_6
 try clear hfz21_7
 try clear hfz30_0
 try clear hfz30_1
 try clear hfz30_2
 try clear hfz30_3
 try clear hfz30_4
 try clear hfz30_5
 try clear hfz30_6
 try clear hfz30_7
 obtain ⟨x58_1, x1001_1, x131007_1, u131007, rfl, HA, HK1, HO_131007, BK120, BK130, HI0, HK, HB⟩ := hrel
 cases gk with
 | zero => exact absurd HA.out (by simp [script_reader_conf.l0])
 | succ k1 => ?_
 have H := HA.out
 clear HA
 simp only [script_reader_conf.l0] at H
 by_cases c32 : x58_1 < (wrap64 (1 + (Int.tmod t135 3)))
 rotate_left
 ·rw [if_neg c32] at H
  have c32b0 : decide (x58_1 < (wrap64 (1 + (Int.tmod t135 3)))) = false := decide_eq_false c32
  clear c32
  simp only [Option.some.injEq, Prod.mk.injEq] at H
  obtain ⟨rfl, rfl, rfl, rfl, rfl, rfl, rfl, rfl, rfl⟩ := H
  have hnb42 := NB130_120.out
  have hnc42 := NB120_130.out
  have hnb43 := NB130_0.out
  have hnc43 := NB0_130.out
  have hcz44_0 : wr.cell? ⟨gb130, 0, none⟩ = some (.int .u64 t121) := (blk_cell BK130.out 0).trans rfl
  have hcz44_1 : wr.cell? ⟨gb130, 1, none⟩ = some (.int .u16 (IntKind.u16.wrap (wrap64 ((Int.tmod t122 4) * 4096)))) := (blk_cell BK130.out 1).trans rfl
  have hcz44_2 : wr.cell? ⟨gb130, 2, none⟩ = some (.int .i64 ji10) := (blk_cell BK130.out 2).trans rfl
  have hcz44_3 : wr.cell? ⟨gb130, 3, none⟩ = some (.int .i64 (wrap64 (1 + (Int.tmod t124 2)))) := (blk_cell BK130.out 3).trans rfl
  have hcz44_4 : wr.cell? ⟨gb130, 4, none⟩ = some (.int .i64 ji11) := (blk_cell BK130.out 4).trans rfl
  have hcz44_5 : wr.cell? ⟨gb130, 5, none⟩ = some (.int .i64 (wrap64 (10 + (Int.tmod t126 20)))) := (blk_cell BK130.out 5).trans rfl
  have hcz44_6 : wr.cell? ⟨gb130, 6, none⟩ = some (.int .i64 (Int.tmod t128 9)) := (blk_cell BK130.out 6).trans rfl
  have hcz44_7 : wr.cell? ⟨gb130, 7, none⟩ = some (u131007) := (blk_cell BK130.out 7).trans rfl
  obtain ⟨hfz44_0, hfz44_1, hfz44_2, hfz44_3, hfz44_4, hfz44_5, hfz44_6, hfz44_7⟩ := fZ8 BK130.out
  have hnb45 := NB120_0.out
  have hnc45 := NB0_120.out
  obtain ⟨hcz46_0, hcz46_1, hcz46_2, hcz46_3, hcz46_4, hcz46_5, hcz46_6, hcz46_7⟩ := cZ8 BK120.out
  obtain ⟨hfz46_0, hfz46_1, hfz46_2, hfz46_3, hfz46_4, hfz46_5, hfz46_6, hfz46_7⟩ := fZ8 BK120.out
  obtain ⟨Ao47, co47, eo47⟩ := Kd.R_slice HO_131007.out
  subst eo47
  go_wp2
  refine bodyPost_ret (results_cell_row rfl _ _ gb120 51 #[.int .u64 t121, .int .u16 (IntKind.u16.wrap (wrap64 ((Int.tmod t122 4) * 4096))), .int .i64 ji10, .int .i64 (wrap64 (1 + (Int.tmod t124 2))), .int .i64 ji11, .int .i64 (wrap64 (10 + (Int.tmod t126 20))), .int .i64 (Int.tmod t128 9), .slice Ao47 x131007_1.length co47] (0, 0) _ rfl (by exact put8 (bw BK120.out)) Tryd.underlying51 rfl (by kernel_rfl)) rfl ?_
  exact ⟨_, by first | rfl | (simp [errW_none, errW_some] <;> rfl) | (simp only [← hji10, ← hji11]; first | rfl | (simp [errW_none, errW_some] <;> rfl)) | (simp [*, errW_none, errW_some] <;> rfl), by refine bN ?_; exact Kd.R_mono (Rfar8 (Kd.R_types HO_131007.out BK120.out (by decide)) (fun _ hk => hk.2)) (fun _ hk => trivial), by exact bI HI0.out, by exact bB, by exact bK⟩
 rw [if_pos c32] at H
 have c32b0 : decide (x58_1 < (wrap64 (1 + (Int.tmod t135 3)))) = true := decide_eq_true c32
 clear c32
 replace H := Option.bind_eq_some_iff.mp H
 obtain ⟨⟨t137, t138⟩, A330, H⟩ := H
 (try dsimp only at H)
 have A33 := Aside0.mk A330
 clear A330
 by_cases c34 : x131007_1.length < 11728124029610
 rotate_left
 ·rw [if_neg c34] at H
  exact absurd H (by simp)
 rw [if_pos c34] at H
 have LMc34 := Aside0.mk c34
 clear c34
 obtain ⟨y139, hy139⟩ : ∃ y_ : List (S63), y_ = (x131007_1 ++ [(⟨128, (wrap64 (1 + (Int.tmod t137 50))) % 4294967296, decide (t137 < 230)⟩ : S63)]) := ⟨_, rfl⟩
 replace H : (script_reader_conf.l0 k1 (wrap64 (1 + (Int.tmod t135 3))) (wrap64 (x58_1 + 1)) s0_0 t138 t121 (IntKind.u16.wrap (wrap64 ((Int.tmod t122 4) * 4096))) ji10 (wrap64 (1 + (Int.tmod t124 2))) ji11 (wrap64 (10 + (Int.tmod t126 20))) (Int.tmod t128 9) y139) = some (r1, r2, r3, r4, r5, r6, r7, r8, r9) := by first | (rw [hy139]; with_reducible exact H) | (have H2_ := (Option.bind_some _ _).symm.trans H; rw [hy139]; with_reducible exact H2_) | (have H2_ := (Option.bind_some _ _).symm.trans H; with_reducible exact H2_) | with_reducible exact H | (rw [hy139]; exact H) | exact H
 have Ny139 := Aside0.mk hy139
 clear hy139
 have H' := Aside0.mk H
 clear H
 go_wp2_with (first | ((with_reducible refine gate_callee (f := 28) rfl ?_); refine gL (some 61) Tryd.func28 #[.pointer (some ⟨g, 0, none⟩)] ?_; (with_reducible refine (script_reader_next.calls g s0_0 x1001_1 t137 t138 w0 _ ?side1 ?side2 A33.out).mono ?_); (case side1 => exact bI HI0.out); (case side2 => exact bB); rintro e w35 ⟨rfl, hi, hb, hk⟩; refine ⟨_, rfl, ?_⟩; replace HO_131007 := Aside0.mk (Kd.R_mono (Kd.R_keep (IsS54.apart (show IsS54 w0 _ g s0_0 x1001_1 from by exact bI HI0.out) (bN HO_131007.out) (by decide)) hk (fun _ h => h.2)) (fun _ h => h.1)); replace BK120 := Aside0.mk (KeepBut.blk hk (g' := gb120) (o := .cells #[.int .u64 0, .int .u16 0, .int .i64 0, .int .i64 0, .int .i64 0, .int .i64 0, .int .i64 0, .slice none 0 0] 51 (0, 0)) (bw BK120.out) NB120_0.out (by simp)); replace BK130 := Aside0.mk (KeepBut.blk hk (g' := gb130) (o := .cells #[.int .u64 t121, .int .u16 (IntKind.u16.wrap (wrap64 ((Int.tmod t122 4) * 4096))), .int .i64 ji10, .int .i64 (wrap64 (1 + (Int.tmod t124 2))), .int .i64 ji11, .int .i64 (wrap64 (10 + (Int.tmod t126 20))), .int .i64 (Int.tmod t128 9), u131007] 51 (0, 0)) (bw BK130.out) NB130_0.out (by simp)); replace HK := Aside0.mk (KeepBut.trans bK hk (.inl rfl)); replace HB := Aside0.mk (hb); replace HI0 := Aside0.mk (hi); (try clear hb); (try clear hb2); (try clear hk); (try clear hi); have hnb36 := NB130_120.out; have hnc36 := NB120_130.out; have hnb37 := NB130_0.out; have hnc37 := NB0_130.out; have hcz38_0 : w35.cell? ⟨gb130, 0, none⟩ = some (.int .u64 t121) := (blk_cell BK130.out 0).trans rfl; have hcz38_1 : w35.cell? ⟨gb130, 1, none⟩ = some (.int .u16 (IntKind.u16.wrap (wrap64 ((Int.tmod t122 4) * 4096)))) := (blk_cell BK130.out 1).trans rfl; have hcz38_2 : w35.cell? ⟨gb130, 2, none⟩ = some (.int .i64 ji10) := (blk_cell BK130.out 2).trans rfl; have hcz38_3 : w35.cell? ⟨gb130, 3, none⟩ = some (.int .i64 (wrap64 (1 + (Int.tmod t124 2)))) := (blk_cell BK130.out 3).trans rfl; have hcz38_4 : w35.cell? ⟨gb130, 4, none⟩ = some (.int .i64 ji11) := (blk_cell BK130.out 4).trans rfl; have hcz38_5 : w35.cell? ⟨gb130, 5, none⟩ = some (.int .i64 (wrap64 (10 + (Int.tmod t126 20)))) := (blk_cell BK130.out 5).trans rfl; have hcz38_6 : w35.cell? ⟨gb130, 6, none⟩ = some (.int .i64 (Int.tmod t128 9)) := (blk_cell BK130.out 6).trans rfl; have hcz38_7 : w35.cell? ⟨gb130, 7, none⟩ = some (u131007) := (blk_cell BK130.out 7).trans rfl; obtain ⟨hfz38_0, hfz38_1, hfz38_2, hfz38_3, hfz38_4, hfz38_5, hfz38_6, hfz38_7⟩ := fZ8 BK130.out) | ((with_reducible refine gate_builtin (b := .append) (xs := #[.tmp 63, .tmp 71]) rfl ?_); at_builtin; refine Kd.R_append k63 w.heap.size rfl (.tmp 63) (.tmp 71) 49 63 (.agg #[(.int .u8 0), (.int .u32 0), (.bool false)]) 12 rfl Tryd.underlying49 info63 rfl (by decide) (by omega) u131007 x131007_1 (⟨128, (wrap64 (1 + (Int.tmod t137 50))) % 4294967296, decide (t137 < 230)⟩ : S63) [.int .u8 128, .int .u32 ((wrap64 (1 + (Int.tmod t137 50))) % 4294967296), .bool (decide (t137 < 230))] (fun _ => True) (fun _ => False) rfl rfl ?aP (fun _ hk => hk.elim) ?aF ?aO (Below.refl _ _) ?aS ?aL ?_; (case aP => exact k63_mkM _ _ _ (⟨128, (wrap64 (1 + (Int.tmod t137 50))) % 4294967296, decide (t137 < 230)⟩ : S63)); (case aF => exact (fun _ _ => trivial)); (case aO => exact (bN HO_131007.out)); (case aS => exact (keep_size (w := w) (g := g) (row := none) bK)); (case aL => have := LMc34.out; omega); intro v140 w39 ho hb hg hat; rw [← Ny139.out] at ho; replace BK120 := Aside0.mk (blk_grown (g := gb120) (o := .cells #[.int .u64 0, .int .u16 0, .int .i64 0, .int .i64 0, .int .i64 0, .int .i64 0, .int .i64 0, .slice none 0 0] 51 (0, 0)) (bw BK120.out) hg (Kd.R_ne HO_131007.out BK120.out (by decide))); replace BK130 := Aside0.mk (blk_grown (g := gb130) (o := .cells #[.int .u64 t121, .int .u16 (IntKind.u16.wrap (wrap64 ((Int.tmod t122 4) * 4096))), .int .i64 ji10, .int .i64 (wrap64 (1 + (Int.tmod t124 2))), .int .i64 ji11, .int .i64 (wrap64 (10 + (Int.tmod t126 20))), .int .i64 (Int.tmod t128 9), u131007] 51 (0, 0)) (bw BK130.out) hg (Kd.R_ne HO_131007.out BK130.out (by decide))); replace HI0 := Aside0.mk (IsS54.grown (bI HI0.out) hg (IsS54.own_ne HI0.out HO_131007.out (by decide))); replace HB := Aside0.mk (below_weaken bB HL.out hb); replace HK := Aside0.mk (KeepBut.trans bK (KeepBut.of_grown hg g) (Kd.R_base2 HO_131007.out)); have HO141 := Aside0.mk (ho); clear HO_131007; clear ho hb hg hat; obtain ⟨Ao40, co40, eo40⟩ := Kd.R_slice HO141.out; subst eo40; have hcz41_0 : w39.cell? ⟨gb130, 0, none⟩ = some (.int .u64 t121) := (blk_cell BK130.out 0).trans rfl; have hcz41_1 : w39.cell? ⟨gb130, 1, none⟩ = some (.int .u16 (IntKind.u16.wrap (wrap64 ((Int.tmod t122 4) * 4096)))) := (blk_cell BK130.out 1).trans rfl; have hcz41_2 : w39.cell? ⟨gb130, 2, none⟩ = some (.int .i64 ji10) := (blk_cell BK130.out 2).trans rfl; have hcz41_3 : w39.cell? ⟨gb130, 3, none⟩ = some (.int .i64 (wrap64 (1 + (Int.tmod t124 2)))) := (blk_cell BK130.out 3).trans rfl; have hcz41_4 : w39.cell? ⟨gb130, 4, none⟩ = some (.int .i64 ji11) := (blk_cell BK130.out 4).trans rfl; have hcz41_5 : w39.cell? ⟨gb130, 5, none⟩ = some (.int .i64 (wrap64 (10 + (Int.tmod t126 20)))) := (blk_cell BK130.out 5).trans rfl; have hcz41_6 : w39.cell? ⟨gb130, 6, none⟩ = some (.int .i64 (Int.tmod t128 9)) := (blk_cell BK130.out 6).trans rfl; have hcz41_7 : w39.cell? ⟨gb130, 7, none⟩ = some (u131007) := (blk_cell BK130.out 7).trans rfl; obtain ⟨hfz41_0, hfz41_1, hfz41_2, hfz41_3, hfz41_4, hfz41_5, hfz41_6, hfz41_7⟩ := fZ8 BK130.out) | (go_at_call 28; (with_reducible refine (script_reader_next.calls g s0_0 x1001_1 t137 t138 w0 _ ?side1 ?side2 A33.out).mono ?_); (case side1 => exact bI HI0.out); (case side2 => exact bB); rintro e w35 ⟨rfl, hi, hb, hk⟩; replace HO_131007 := Aside0.mk (Kd.R_mono (Kd.R_keep (IsS54.apart (show IsS54 w0 _ g s0_0 x1001_1 from by exact bI HI0.out) (bN HO_131007.out) (by decide)) hk (fun _ h => h.2)) (fun _ h => h.1)); replace BK120 := Aside0.mk (KeepBut.blk hk (g' := gb120) (o := .cells #[.int .u64 0, .int .u16 0, .int .i64 0, .int .i64 0, .int .i64 0, .int .i64 0, .int .i64 0, .slice none 0 0] 51 (0, 0)) (bw BK120.out) NB120_0.out (by simp)); replace BK130 := Aside0.mk (KeepBut.blk hk (g' := gb130) (o := .cells #[.int .u64 t121, .int .u16 (IntKind.u16.wrap (wrap64 ((Int.tmod t122 4) * 4096))), .int .i64 ji10, .int .i64 (wrap64 (1 + (Int.tmod t124 2))), .int .i64 ji11, .int .i64 (wrap64 (10 + (Int.tmod t126 20))), .int .i64 (Int.tmod t128 9), u131007] 51 (0, 0)) (bw BK130.out) NB130_0.out (by simp)); replace HK := Aside0.mk (KeepBut.trans bK hk (.inl rfl)); replace HB := Aside0.mk (hb); replace HI0 := Aside0.mk (hi); (try clear hb); (try clear hb2); (try clear hk); (try clear hi); have hnb36 := NB130_120.out; have hnc36 := NB120_130.out; have hnb37 := NB130_0.out; have hnc37 := NB0_130.out; have hcz38_0 : w35.cell? ⟨gb130, 0, none⟩ = some (.int .u64 t121) := (blk_cell BK130.out 0).trans rfl; have hcz38_1 : w35.cell? ⟨gb130, 1, none⟩ = some (.int .u16 (IntKind.u16.wrap (wrap64 ((Int.tmod t122 4) * 4096)))) := (blk_cell BK130.out 1).trans rfl; have hcz38_2 : w35.cell? ⟨gb130, 2, none⟩ = some (.int .i64 ji10) := (blk_cell BK130.out 2).trans rfl; have hcz38_3 : w35.cell? ⟨gb130, 3, none⟩ = some (.int .i64 (wrap64 (1 + (Int.tmod t124 2)))) := (blk_cell BK130.out 3).trans rfl; have hcz38_4 : w35.cell? ⟨gb130, 4, none⟩ = some (.int .i64 ji11) := (blk_cell BK130.out 4).trans rfl; have hcz38_5 : w35.cell? ⟨gb130, 5, none⟩ = some (.int .i64 (wrap64 (10 + (Int.tmod t126 20)))) := (blk_cell BK130.out 5).trans rfl; have hcz38_6 : w35.cell? ⟨gb130, 6, none⟩ = some (.int .i64 (Int.tmod t128 9)) := (blk_cell BK130.out 6).trans rfl; have hcz38_7 : w35.cell? ⟨gb130, 7, none⟩ = some (u131007) := (blk_cell BK130.out 7).trans rfl; obtain ⟨hfz38_0, hfz38_1, hfz38_2, hfz38_3, hfz38_4, hfz38_5, hfz38_6, hfz38_7⟩ := fZ8 BK130.out))
 go_roundg k1
 case measure => have := HK1.out; omega
 case rel => exact ⟨(wrap64 (x58_1 + 1)), (t138), (y139), (.slice Ao40 y139.length co40), (by first | rfl | (simp; done) | (simp [*]; done)), H', ⟨by have := HK1.out; omega⟩, ⟨by refine bN ?_; exact Kd.R_mono (Kd.R_far (p := ⟨gb130, 7, none⟩) (Kd.R_types HO141.out BK130.out (by decide)) (fun _ hk => hk.2) (.slice Ao40 y139.length co40)) (fun _ hk => trivial)⟩, ⟨bw BK120.out⟩, ⟨by refine bW ?_; refine blk_put (cs := #[.int .u64 t121, .int .u16 (IntKind.u16.wrap (wrap64 ((Int.tmod t122 4) * 4096))), .int .i64 ji10, .int .i64 (wrap64 (1 + (Int.tmod t124 2))), .int .i64 ji11, .int .i64 (wrap64 (10 + (Int.tmod t126 20))), .int .i64 (Int.tmod t128 9), u131007]) ?_ 7 _ rfl; exact bw BK130.out⟩, ⟨bI HI0.out⟩, ⟨bK⟩, ⟨bB⟩⟩
end Go.Proofs.YtiikllgppmmiaaaDoor.OScriptReads
