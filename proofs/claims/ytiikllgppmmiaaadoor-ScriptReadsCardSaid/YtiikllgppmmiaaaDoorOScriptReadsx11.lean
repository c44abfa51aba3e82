/- What Go functions that the law ScriptReads uses come to, and why: part 11. Made out of the kit's print by a program of this session (wip/tools/stub.py, splice.py), functions that it does not take told by hand. -/
import Derived.Test.YtiikllgppmmiaaaDoorOScriptReadsx10
namespace Go.Proofs.YtiikllgppmmiaaaDoor.OScriptReads
open Go.RowKit Go.Proofs.YtiikllgppmmiaaaDoorW.PrintWords Go.Proofs.YtiikllgppmmiaaaDoorW.PrintLast Go.Proofs.YtiikllgppmmiaaaDoorW.PrintMore
attribute [local go_sem] max2_int min2_int max_two min_two max_three min_three max_four min_four   -- for this text's walks alone
set_option linter.unusedVariables false
set_option linter.unusedSimpArgs false
private theorem setCell_drewN_ (w : World) (n : Nat) (p : Addr) (u : Value) : (w.drewN n).setCell p u = (w.setCell p u).drewN n := by
  unfold World.setCell World.drewN
  split <;> rfl

/-! ### script_reader_op: function 17 -/
mutual
def script_reader_op.j0 : Nat → Int → Int → Bool → List Int → Int → Int → List (S51) → List (List Int) → List (S66) → Int → Int → Int → Bool → Int → Option (Int × Int × Int × Bool × Int × List Int × Int)
  | 0, _, _, _, _, _, _, _, _, _, _, _, _, _, _ => none
  | k + 1, x5, x13, x14, x1000, x1001, x235000, x235001, x235002, x235003, x239000, x239001, x239002, x239003, x239004 => if x14 = true then ((script_reader_next.f x1000 x1001).bind fun bt239 => (if (x235001.length : Int) = 0 then (none) else (some (x239000, Int.tmod bt239.1 (x235001.length : Int), x239002, x239003, x239004, ([] : List Int), bt239.2)))) else (if x13 = 5 then ((script_reader_next.f x1000 x1001).bind fun bt241 => (if (x235001.length : Int) = 0 then (none) else ((script_reader_next.f x1000 bt241.2).bind fun bt243 => (some (x239000, Int.tmod bt241.1 (x235001.length : Int), Int.tmod bt243.1 3, decide (x5 < 128), x239004, ([] : List Int), bt243.2))))) else (if x13 = 1 then (script_reader_op.j1 k x5 x13 (x13 == 1) x1000 x1001 x235000 x235001 x235002 x235003 x239000 x239001 x239002 x239003 x239004) else (script_reader_op.j1 k x5 x13 (x13 == 2) x1000 x1001 x235000 x235001 x235002 x235003 x239000 x239001 x239002 x239003 x239004)))
def script_reader_op.j1 : Nat → Int → Int → Bool → List Int → Int → Int → List (S51) → List (List Int) → List (S66) → Int → Int → Int → Bool → Int → Option (Int × Int × Int × Bool × Int × List Int × Int)
  | 0, _, _, _, _, _, _, _, _, _, _, _, _, _, _ => none
  | k + 1, x5, x13, x40, x1000, x1001, x235000, x235001, x235002, x235003, x239000, x239001, x239002, x239003, x239004 => if x40 = true then ((script_reader_next.f x1000 x1001).bind fun bt245 => (if x235000 = 0 then (none) else ((script_reader_next.f x1000 bt245.2).bind fun bt247 => (some (x239000, Int.tmod bt245.1 x235000, bt247.1, x239003, x239004, ([] : List Int), bt247.2))))) else (if x13 = 3 then ((script_reader_next.f x1000 x1001).bind fun bt249 => (if x235000 = 0 then (none) else ((script_reader_next.f x1000 bt249.2).bind fun bt251 => ((script_reader_some.f k x1000 bt251.2 (Int.tmod bt251.1 60)).bind fun bt253 => (if x5 < 128 then ((script_address.f 3 0).bind fun t257 => ((frame_Wrap.f t257 bt253.1).bind fun bt258 => ((frame_Put.f k bt258.1 bt258.2.1 bt258.2.2.1 bt258.2.2.2).bind fun bt264 => (some (x239000, Int.tmod bt249.1 x235000, x239002, x239003, x239004, bt264.1, bt253.2))))) else (some (x239000, Int.tmod bt249.1 x235000, x239002, x239003, x239004, bt253.1, bt253.2))))))) else (if x13 = 6 then ((script_reader_next.f x1000 x1001).bind fun bt268 => ((script_reader_next.f x1000 bt268.2).bind fun bt270 => ((script_to.f bt270.1).bind fun t272 => ((script_reader_next.f x1000 bt270.2).bind fun bt273 => ((script_reader_some.f k x1000 bt273.2 (Int.tmod bt273.1 3)).bind fun bt275 => (some (x239000, Int.tmod bt268.1 4, x239002, x239003, t272, bt275.1, bt275.2))))))) else (some (x239000, x239001, x239002, x239003, x239004, ([] : List Int), x1001))))
end
def script_reader_op.f (k : Nat) (s0_0 : List Int) (s0_1 : Int) (a1_0 : Int) (l1_1 : List (S51)) (l1_2 : List (List Int)) (l1_3 : List (S66)) : Option (Int × Int × Int × Bool × Int × List Int × Int) := (script_reader_next.f s0_0 s0_1).bind fun bt236 => (if (Int.tmod bt236.1 7) = 0 then (script_reader_op.j0 k bt236.1 (Int.tmod bt236.1 7) ((Int.tmod bt236.1 7) == 0) s0_0 bt236.2 a1_0 l1_1 l1_2 l1_3 (Int.tmod bt236.1 7) 0 0 false 0) else (script_reader_op.j0 k bt236.1 (Int.tmod bt236.1 7) ((Int.tmod bt236.1 7) == 4) s0_0 bt236.2 a1_0 l1_1 l1_2 l1_3 (Int.tmod bt236.1 7) 0 0 false 0))
theorem script_reader_op.mono_l : ∀ k, (∀ y0 y1 y2 y3 y4 y5 y6 y7 y8 y9 y10 y11 y12 y13, LeO (script_reader_op.j0 k y0 y1 y2 y3 y4 y5 y6 y7 y8 y9 y10 y11 y12 y13) (script_reader_op.j0 (k + 1) y0 y1 y2 y3 y4 y5 y6 y7 y8 y9 y10 y11 y12 y13)) ∧ (∀ y0 y1 y2 y3 y4 y5 y6 y7 y8 y9 y10 y11 y12 y13, LeO (script_reader_op.j1 k y0 y1 y2 y3 y4 y5 y6 y7 y8 y9 y10 y11 y12 y13) (script_reader_op.j1 (k + 1) y0 y1 y2 y3 y4 y5 y6 y7 y8 y9 y10 y11 y12 y13))
  | 0 => ⟨fun _ _ _ _ _ _ _ _ _ _ _ _ _ _ r h => by simp [script_reader_op.j0] at h, fun _ _ _ _ _ _ _ _ _ _ _ _ _ _ r h => by simp [script_reader_op.j1] at h⟩
  | k + 1 => by
    obtain ⟨ih0, ih1⟩ := script_reader_op.mono_l k
    refine ⟨?_, ?_⟩
    · intro y0 y1 y2 y3 y4 y5 y6 y7 y8 y9 y10 y11 y12 y13
      unfold script_reader_op.j0
      repeat' first
      | (with_reducible apply ih0)
      | (with_reducible apply ih1)
      | (with_reducible apply frame_Put.mono)
      | (with_reducible apply script_reader_some.mono)
      | (with_reducible exact LeO.refl _)
      | (with_reducible exact LeO.none _)
      | (with_reducible refine LeO.ite ?_ ?_)
      | (with_reducible refine LeO.bind ?_ (fun _ => ?_))
      | apply ih0
      | apply ih1
      | exact frame_Put.mono _ _ _ _ _
      | exact script_reader_some.mono _ _ _ _
      | exact LeO.none _
      | refine LeO.ite ?_ ?_
      | refine LeO.bind ?_ (fun _ => ?_)
    · intro y0 y1 y2 y3 y4 y5 y6 y7 y8 y9 y10 y11 y12 y13
      unfold script_reader_op.j1
      repeat' first
      | (with_reducible apply ih0)
      | (with_reducible apply ih1)
      | (with_reducible apply frame_Put.mono)
      | (with_reducible apply script_reader_some.mono)
      | (with_reducible exact LeO.refl _)
      | (with_reducible exact LeO.none _)
      | (with_reducible refine LeO.ite ?_ ?_)
      | (with_reducible refine LeO.bind ?_ (fun _ => ?_))
      | apply ih0
      | apply ih1
      | exact frame_Put.mono _ _ _ _ _
      | exact script_reader_some.mono _ _ _ _
      | exact LeO.none _
      | refine LeO.ite ?_ ?_
      | refine LeO.bind ?_ (fun _ => ?_)
theorem script_reader_op.mono : ∀ a0 a1 a2 a3 a4 a5 k, LeO (script_reader_op.f k a0 a1 a2 a3 a4 a5) (script_reader_op.f (k + 1) a0 a1 a2 a3 a4 a5) := by
  intro a0 a1 a2 a3 a4 a5 k
  obtain ⟨ih0, ih1⟩ := script_reader_op.mono_l k
  unfold script_reader_op.f
  repeat' first
      | (with_reducible apply ih0)
      | (with_reducible apply ih1)
      | (with_reducible apply frame_Put.mono)
      | (with_reducible apply script_reader_some.mono)
      | (with_reducible exact LeO.refl _)
      | (with_reducible exact LeO.none _)
      | (with_reducible refine LeO.ite ?_ ?_)
      | (with_reducible refine LeO.bind ?_ (fun _ => ?_))
      | apply ih0
      | apply ih1
      | exact frame_Put.mono _ _ _ _ _
      | exact script_reader_some.mono _ _ _ _
      | exact LeO.none _
      | refine LeO.ite ?_ ?_
      | refine LeO.bind ?_ (fun _ => ?_)
def script_reader_op.T6 : Bool × List (List Nat × List Nat) := (true, [([], []), ([0], [0]), ([], []), ([2], [2]), ([3], [3]), ([1, 4], [1, 4]), ([0, 1, 2, 3, 4, 5], []), ([6, 5, 1, 0, 1, 2, 3, 4, 5], [5, 6])])
def script_reader_op.B6 : List Nat := [0, 1, 0, 4, 12, 31, 63, 127]
theorem script_reader_op.tab6 : rtab .any (opsOf Tryd.f17 6) = script_reader_op.T6 := by kernel_rfl
theorem script_reader_op.bits6 : waitsOk script_reader_op.T6.2 script_reader_op.B6 = true := by kernel_rfl
def script_reader_op.T8 : Bool × List (List Nat × List Nat) := (true, [([], []), ([0], [0]), ([], []), ([2], [2]), ([3], [3]), ([1, 4], [1, 4]), ([0, 1, 2, 3, 4, 5], []), ([6, 5, 1, 0, 1, 2, 3, 4, 5], [5, 6])])
def script_reader_op.B8 : List Nat := [0, 1, 0, 4, 12, 31, 63, 127]
theorem script_reader_op.tab8 : rtab .any (opsOf Tryd.f17 8) = script_reader_op.T8 := by kernel_rfl
theorem script_reader_op.bits8 : waitsOk script_reader_op.T8.2 script_reader_op.B8 = true := by kernel_rfl
def script_reader_op.T12 : Bool × List (List Nat × List Nat) := (true, [([], []), ([0], [0]), ([], []), ([2], [2]), ([1, 3], [1, 3]), ([], []), ([5, 1], [5]), ([0, 1, 2, 3, 4], []), ([7, 4, 6, 0, 1, 2, 3, 4], [4, 7]), ([0, 1, 2, 3, 4, 5, 6, 7, 8], []), ([9, 6, 8, 0, 1, 2, 3, 4, 5, 6, 7, 8], [6, 9])])
def script_reader_op.B12 : List Nat := [0, 1, 0, 4, 15, 0, 35, 31, 255, 511, 1023]
theorem script_reader_op.tab12 : rtab .any (opsOf Tryd.f17 12) = script_reader_op.T12 := by kernel_rfl
theorem script_reader_op.bits12 : waitsOk script_reader_op.T12.2 script_reader_op.B12 = true := by kernel_rfl
def script_reader_op.T17 : Bool × List (List Nat × List Nat) := (true, [([], []), ([], []), ([1], [1]), ([0, 2, 0], [0, 2]), ([3, 3], [3]), ([4], [4]), ([5], [5]), ([5], [5]), ([0, 1, 2, 3, 4, 5, 6], []), ([8, 6, 4, 0, 1, 2, 3, 4, 5, 6], [6, 8])])
def script_reader_op.B17 : List Nat := [0, 0, 2, 7, 15, 31, 63, 63, 127, 383]
theorem script_reader_op.tab17 : rtab .any (opsOf Tryd.f17 17) = script_reader_op.T17 := by kernel_rfl
theorem script_reader_op.bits17 : waitsOk script_reader_op.T17.2 script_reader_op.B17 = true := by kernel_rfl
set_option maxHeartbeats 8000000 in
set_option maxRecDepth 100000 in
theorem script_reader_op.calls (k : Nat) (g : Nat) (s0_0 : List Int) (s0_1 : Int) (a1_0 : Int) (A1_1 : Option Addr) (c1_1 : Nat) (l1_1 : List (S51)) (A1_2 : Option Addr) (c1_2 : Nat) (l1_2 : List (List Int)) (A1_3 : Option Addr) (c1_3 : Nat) (l1_3 : List (S66)) (r1 : Int) (r2 : Int) (r3 : Int) (r4 : Bool) (r5 : Int) (r6 : List Int) (r7 : Int) (w0 w : World) (hI : IsS54 w0 w g s0_0 s0_1) (hB : Below w0.heap.size w0 w) (hr1_1 : ∀ W_, KeepBut w W_ g none → Kd.C k51 W_ A1_1 l1_1.length l1_1) (hc1_1 : l1_1.length ≤ c1_1) (hr1_2 : ∀ W_, KeepBut w W_ g none → Kd.C (Kd.slice 3 (Kd.int .i64)) W_ A1_2 l1_2.length l1_2) (hc1_2 : l1_2.length ≤ c1_2) (hr1_3 : ∀ W_, KeepBut w W_ g none → Kd.C k66 W_ A1_3 l1_3.length l1_3) (hc1_3 : l1_3.length ≤ c1_3) (h : script_reader_op.f k s0_0 s0_1 a1_0 l1_1 l1_2 l1_3 = some (r1, r2, r3, r4, r5, r6, r7)) (HG : Aside0 (Llc.Glob w0)) :
  Calls Tryd.prog 17 #[.pointer (some ⟨g, 0, none⟩), .agg #[.int .i64 a1_0, .slice A1_1 l1_1.length c1_1, .slice A1_2 l1_2.length c1_2, .slice A1_3 l1_3.length c1_3]] w fun e w' => ∃ v5_ : Value, e = .returned (.agg #[.int .i64 r1, .int .i64 r2, .int .i64 r3, .bool r4, .int .u64 r5, v5_]) ∧ Kd.R (Kd.int .u8) 5 w' w.heap.size (fun _ => True) v5_ r6 ∧ IsS54 w0 w' g s0_0 r7 ∧ Below w0.heap.size w0 w' ∧ KeepBut w w' g none := by
 have hu28 := Tryd.underlying28
 have hu39 := Tryd.underlying39
 have HR1_1 := Aside0.mk hr1_1
 have HC1_1 := Aside0.mk hc1_1
 clear hr1_1 hc1_1
 have HR1_2 := Aside0.mk hr1_2
 have HC1_2 := Aside0.mk hc1_2
 clear hr1_2 hc1_2
 have HR1_3 := Aside0.mk hr1_3
 have HC1_3 := Aside0.mk hc1_3
 clear hr1_3 hc1_3
 have HI0 := Aside0.mk hI
 have HK := Aside0.mk (KeepBut.refl w g none)
 have HL := Aside0.mk hB.size
 clear hI
 have HW0 := Aside0.mk hB.size
 have HB := Aside0.mk hB
 clear hB
 have H : ((script_reader_next.f s0_0 s0_1).bind fun bt236 => (if (Int.tmod bt236.1 7) = 0 then (script_reader_op.j0 k bt236.1 (Int.tmod bt236.1 7) ((Int.tmod bt236.1 7) == 0) s0_0 bt236.2 a1_0 l1_1 l1_2 l1_3 (Int.tmod bt236.1 7) 0 0 false 0) else (script_reader_op.j0 k bt236.1 (Int.tmod bt236.1 7) ((Int.tmod bt236.1 7) == 4) s0_0 bt236.2 a1_0 l1_1 l1_2 l1_3 (Int.tmod bt236.1 7) 0 0 false 0))) = some (r1, r2, r3, r4, r5, r6, r7) := h
 clear h
 replace H := Option.bind_eq_some_iff.mp H
 obtain ⟨⟨t236, t237⟩, A30, H⟩ := H
 (try dsimp only at H)
 have A3 := Aside0.mk A30
 clear A30
 have HC4 := Aside0.mk H
 clear H
 go_enter Tryd.func17, Tryd.ntmps17
 go_upto_if 14 with (first | ((with_reducible refine gate_dst (N := 3) rfl ?_); refine box_event ?hg (N := 3) ?hd (cs := #[.int .i64 a1_0, .slice A1_1 l1_1.length c1_1, .slice A1_2 l1_2.length c1_2, .slice A1_3 l1_3.length c1_3]) (t := 28) ?hr ?_; (case hd => rfl); (case hg => rfl); (case hr => first | (go_simp; done) | (go_simp; rfl)); intro gb234 hg w5 hbox hb; replace HB := Aside0.mk (below_step bB hb); have BK234 := Aside0.mk (hbox); have GW234 := Aside0.mk ((by rw [hg]; exact (keep_size (w := w) (g := g) (row := none) bK) : w.heap.size ≤ gb234)); have GE234 := Aside0.mk ((Nat.le_trans HW0.out (by rw [hg]; exact (keep_size (w := w) (g := g) (row := none) bK) : w.heap.size ≤ gb234) : w0.heap.size ≤ gb234)); replace HK := Aside0.mk (KeepBut.trans bK (KeepBut.of_below hb g none) (.inl rfl)); have NB0_234 := Aside0.mk ((by rw [hg]; exact Nat.ne_of_lt (IsS54.lt (show IsS54 w0 _ g s0_0 s0_1 from by exact bI HI0.out)) : g ≠ gb234)); have NB234_0 := Aside0.mk ((by rw [hg]; exact Nat.ne_of_gt (IsS54.lt (show IsS54 w0 _ g s0_0 s0_1 from by exact bI HI0.out)) : gb234 ≠ g)); replace HI0 := Aside0.mk (IsS54.below (bI HI0.out) hb); clear hb hbox hg) | ((with_reducible refine gate_dst (N := 4) rfl ?_); refine box_event ?hg (N := 4) ?hd (cs := #[.int .i64 0, .int .i64 0, .int .i64 0, .bool false, .int .u64 0, .slice none 0 0]) (t := 39) ?hr ?_; (case hd => rfl); (case hg => rfl); (case hr => first | (go_simp; done) | (go_simp; rfl)); intro gb235 hg w6 hbox hb; replace HB := Aside0.mk (below_step bB hb); have BK235 := Aside0.mk (hbox); have GW235 := Aside0.mk ((by rw [hg]; exact (keep_size (w := w) (g := g) (row := none) bK) : w.heap.size ≤ gb235)); have GE235 := Aside0.mk ((Nat.le_trans HW0.out (by rw [hg]; exact (keep_size (w := w) (g := g) (row := none) bK) : w.heap.size ≤ gb235) : w0.heap.size ≤ gb235)); replace HK := Aside0.mk (KeepBut.trans bK (KeepBut.of_below hb g none) (.inl rfl)); have NB234_235 := Aside0.mk (nbL (bw BK234.out) hg : gb234 ≠ gb235); have NB235_234 := Aside0.mk (nbL (bw BK234.out) hg : gb234 ≠ gb235).symm; replace BK234 := Aside0.mk (blk_below (g := gb234) (o := .cells #[.int .i64 a1_0, .slice A1_1 l1_1.length c1_1, .slice A1_2 l1_2.length c1_2, .slice A1_3 l1_3.length c1_3] 28 (0, 0)) (bw BK234.out) hb); have NB0_235 := Aside0.mk ((by rw [hg]; exact Nat.ne_of_lt (IsS54.lt (show IsS54 w0 _ g s0_0 s0_1 from by exact bI HI0.out)) : g ≠ gb235)); have NB235_0 := Aside0.mk ((by rw [hg]; exact Nat.ne_of_gt (IsS54.lt (show IsS54 w0 _ g s0_0 s0_1 from by exact bI HI0.out)) : gb235 ≠ g)); replace HI0 := Aside0.mk (IsS54.below (bI HI0.out) hb); clear hb hbox hg) | ((with_reducible refine gate_callee (f := 28) rfl ?_); refine gL (some 8) Tryd.func28 #[.pointer (some ⟨g, 0, none⟩)] ?_; (with_reducible refine (script_reader_next.calls g s0_0 s0_1 t236 t237 w0 _ ?side1 ?side2 A3.out).mono ?_); (case side1 => exact bI HI0.out); (case side2 => exact bB); rintro e w7 ⟨rfl, hi, hb, hk⟩; refine ⟨_, rfl, ?_⟩; replace BK234 := Aside0.mk (KeepBut.blk hk (g' := gb234) (o := .cells #[.int .i64 a1_0, .slice A1_1 l1_1.length c1_1, .slice A1_2 l1_2.length c1_2, .slice A1_3 l1_3.length c1_3] 28 (0, 0)) (bw BK234.out) NB234_0.out (by simp)); replace BK235 := Aside0.mk (KeepBut.blk hk (g' := gb235) (o := .cells #[.int .i64 0, .int .i64 0, .int .i64 0, .bool false, .int .u64 0, .slice none 0 0] 39 (0, 0)) (bw BK235.out) NB235_0.out (by simp)); replace HK := Aside0.mk (KeepBut.trans bK hk (.inl rfl)); replace HB := Aside0.mk (hb); replace HI0 := Aside0.mk (hi); (try clear hb); (try clear hb2); (try clear hk); (try clear hi)) | ((with_reducible refine gate_dst (N := 6) rfl ?_); refine box_event ?hg (N := 6) ?hd (cs := #[.int .i64 0, .int .i64 0, .int .i64 0, .bool false, .int .u64 0, .slice none 0 0]) (t := 39) ?hr ?_; (case hd => rfl); (case hg => rfl); (case hr => first | (go_simp; done) | (go_simp; rfl)); intro gb238 hg w8 hbox hb; replace HB := Aside0.mk (below_step bB hb); have BK238 := Aside0.mk (hbox); have GW238 := Aside0.mk ((by rw [hg]; exact (keep_size (w := w) (g := g) (row := none) bK) : w.heap.size ≤ gb238)); have GE238 := Aside0.mk ((Nat.le_trans HW0.out (by rw [hg]; exact (keep_size (w := w) (g := g) (row := none) bK) : w.heap.size ≤ gb238) : w0.heap.size ≤ gb238)); replace HK := Aside0.mk (KeepBut.trans bK (KeepBut.of_below hb g none) (.inl rfl)); have NB234_238 := Aside0.mk (nbL (bw BK234.out) hg : gb234 ≠ gb238); have NB238_234 := Aside0.mk (nbL (bw BK234.out) hg : gb234 ≠ gb238).symm; replace BK234 := Aside0.mk (blk_below (g := gb234) (o := .cells #[.int .i64 a1_0, .slice A1_1 l1_1.length c1_1, .slice A1_2 l1_2.length c1_2, .slice A1_3 l1_3.length c1_3] 28 (0, 0)) (bw BK234.out) hb); have NB235_238 := Aside0.mk (nbL (bw BK235.out) hg : gb235 ≠ gb238); have NB238_235 := Aside0.mk (nbL (bw BK235.out) hg : gb235 ≠ gb238).symm; replace BK235 := Aside0.mk (blk_below (g := gb235) (o := .cells #[.int .i64 0, .int .i64 0, .int .i64 0, .bool false, .int .u64 0, .slice none 0 0] 39 (0, 0)) (bw BK235.out) hb); have NB0_238 := Aside0.mk ((by rw [hg]; exact Nat.ne_of_lt (IsS54.lt (show IsS54 w0 _ g s0_0 t237 from by exact bI HI0.out)) : g ≠ gb238)); have NB238_0 := Aside0.mk ((by rw [hg]; exact Nat.ne_of_gt (IsS54.lt (show IsS54 w0 _ g s0_0 t237 from by exact bI HI0.out)) : gb238 ≠ g)); replace HI0 := Aside0.mk (IsS54.below (bI HI0.out) hb); clear hb hbox hg; have hnb9 := NB238_234.out; have hnc9 := NB234_238.out; have hnb10 := NB238_235.out; have hnc10 := NB235_238.out; have hnb11 := NB238_0.out; have hnc11 := NB0_238.out; obtain ⟨hcz12_0, hcz12_1, hcz12_2, hcz12_3, hcz12_4, hcz12_5⟩ := cZ6 BK238.out; obtain ⟨hfz12_0, hfz12_1, hfz12_2, hfz12_3, hfz12_4, hfz12_5⟩ := fZ6 BK238.out))
 (try simp only [Act.put, List.setIfInBounds_toArray, List.set_cons_zero, List.set_cons_succ])
 go_cut [14] (fun v14 wc => ∃ (kq : Nat) (x14_3 : Bool), v14 = .bool x14_3 ∧ Aside0 (script_reader_op.j0 kq t236 (Int.tmod t236 7) x14_3 s0_0 t237 a1_0 l1_1 l1_2 l1_3 (Int.tmod t236 7) 0 0 false 0 = some (r1, r2, r3, r4, r5, r6, r7)) ∧ Aside0 (kq ≤ k) ∧ Aside0 (wc.heap[gb234]? = some (.cells #[.int .i64 a1_0, (.slice A1_1 l1_1.length c1_1), (.slice A1_2 l1_2.length c1_2), (.slice A1_3 l1_3.length c1_3)] 28 (0, 0))) ∧ Aside0 (wc.heap[gb235]? = some (.cells #[.int .i64 0, .int .i64 0, .int .i64 0, .bool false, .int .u64 0, (.slice none 0 0)] 39 (0, 0))) ∧ Aside0 (wc.heap[gb238]? = some (.cells #[.int .i64 (Int.tmod t236 7), .int .i64 0, .int .i64 0, .bool false, .int .u64 0, (.slice none 0 0)] 39 (0, 0))) ∧ Aside0 (IsS54 w0 wc g s0_0 t237) ∧ Aside0 (KeepBut w wc g none) ∧ Aside0 (Below w0.heap.size w0 wc))
 case first =>
  have H := HC4.out
  clear HC4
  by_cases c13 : (Int.tmod t236 7) = 0
  rotate_left
  ·rw [if_neg c13] at H
   have c13b0 : ((Int.tmod t236 7) == 0) = false := beq_eq_false_iff_ne.mpr c13
   have c13b1 : ((Int.tmod t236 7) != 0) = true := bne_iff_ne.mpr c13
   (first | rw [c13b0] | (simp only [i64_w, i32_w]; rw [c13b0]) | skip)
   have H' := Aside0.mk H
   clear H
   go_wp2
   go_meet
   case rel => exact ⟨_, (((Int.tmod t236 7) == 4)), (by first | rfl | (simp; done) | (simp [*]; done)), H', ⟨by first | omega | exact Nat.le_refl _⟩, ⟨bw BK234.out⟩, ⟨bw BK235.out⟩, ⟨by exact put6 (bw BK238.out)⟩, ⟨bI HI0.out⟩, ⟨bK⟩, ⟨bB⟩⟩
  rw [if_pos c13] at H
  have c13b0 : ((Int.tmod t236 7) == 0) = true := beq_iff_eq.mpr c13
  have c13b1 : ((Int.tmod t236 7) != 0) = false := bne_eq_false_iff_eq.mpr c13
  clear c13
  (first | rw [c13b0] | (simp only [i64_w, i32_w]; rw [c13b0]) | skip)
  have H' := Aside0.mk H
  clear H
  go_wp2
  go_meet
  case rel => exact ⟨_, (((Int.tmod t236 7) == 0)), (by first | rfl | (simp; done) | (simp [*]; done)), H', ⟨by first | omega | exact Nat.le_refl _⟩, ⟨bw BK234.out⟩, ⟨bw BK235.out⟩, ⟨by exact put6 (bw BK238.out)⟩, ⟨bI HI0.out⟩, ⟨bK⟩, ⟨bB⟩⟩
 clear HC4
 try clear p2
 try clear c13
 try clear c13b0
 try clear c13b1
 try clear hcz12_0
 try clear hcz12_1
 try clear hcz12_2
 try clear hcz12_3
 try clear hcz12_4
 try clear hcz12_5
 try clear hfz12_0
 try clear hfz12_1
 try clear hfz12_2
 try clear hfz12_3
 try clear hfz12_4
 try clear hfz12_5
 obtain ⟨kq, x14_3, rfl, HA, HJ3, BK234, BK235, BK238, HI0, HK, HB⟩ := hcut
 cases kq with
 | zero => exact absurd HA.out (by simp [script_reader_op.j0])
 | succ kj3 => ?_
 have H := HA.out
 clear HA
 simp only [script_reader_op.j0] at H
 by_cases c14 : x14_3 = true
 ·subst c14
  rw [if_pos rfl] at H
  replace H := Option.bind_eq_some_iff.mp H
  obtain ⟨⟨t239, t240⟩, A150, H⟩ := H
  (try dsimp only at H)
  have A15 := Aside0.mk A150
  clear A150
  by_cases c16 : (l1_1.length : Int) = 0
  ·rw [if_pos c16] at H
   exact absurd H (by simp)
  rw [if_neg c16] at H
  have c16b0 : ((l1_1.length : Int) == 0) = false := beq_eq_false_iff_ne.mpr c16
  have c16b1 : ((l1_1.length : Int) != 0) = true := bne_iff_ne.mpr c16
  have c16b2 : ¬ (l1_1 = []) := fun h_ => c16 (by rw [h_]; rfl)
  simp only [Option.some.injEq, Prod.mk.injEq] at H
  obtain ⟨rfl, rfl, rfl, rfl, rfl, rfl, rfl⟩ := H
  try go_wp2
  replace BK234 := Aside0.mk (blk_drew BK234.out)
  replace BK235 := Aside0.mk (blk_drew BK235.out)
  replace BK238 := Aside0.mk (blk_drew BK238.out)
  replace HI0 := Aside0.mk (IsS54.drew HI0.out)
  replace HK := Aside0.mk (keep_drew HK.out)
  replace HB := Aside0.mk (below_drew1 HB.out)
  refine start_ (n := 8) (S := fun w' => w'.cell? ⟨gb234, 0, none⟩ = some (.int .i64 a1_0) ∧ w'.cell? ⟨gb234, 1, none⟩ = some (.slice A1_1 l1_1.length c1_1) ∧ w'.cell? ⟨gb234, 2, none⟩ = some (.slice A1_2 l1_2.length c1_2) ∧ w'.cell? ⟨gb234, 3, none⟩ = some (.slice A1_3 l1_3.length c1_3)) (ds := []) #[false, false, false, false, false, false, false, false] (by kernel_rfl) rfl rfl ⟨(blk_cell BK234.out 0).trans rfl, (blk_cell BK234.out 1).trans rfl, (blk_cell BK234.out 2).trans rfl, (blk_cell BK234.out 3).trans rfl⟩ (fun hHeld => ?_); refine with_tabW script_reader_op.tab6 script_reader_op.bits6 (fun HT_ HW_ => ?_)
  generalize wc.drew = w17 at BK234 BK235 BK238 HI0 HK HB hHeld ⊢
  refine pS 0 17 HT_ ?_
  refine pS 2 19 HT_ ?_
  refine tS 3 20 HT_ HW_ hHeld ?_
  refine pS 4 21 HT_ ?_
  refine one_ (i := 1) (N := some 18) #[true, true, true, true, true, false, false, false] rfl rfl (one_of HT_.out (by kernel_rfl)) (by decide) (fun K hK => ?_)
  refine goes_ Tryd.func28 (by kernel_rfl) rfl #[.pointer (some ⟨g, 0, none⟩)] (by rfl) rfl rfl (by (try simp only [List.map_toArray, List.map_cons, List.map_nil]); first | done | rfl | (simp only [List.length_drop, List.length_take]; rfl)) ?_
  with_reducible refine (script_reader_next.calls g s0_0 t237 t239 t240 w0 _ ?side1 ?side2 A15.out).mono ?_
  (case side1 => exact bI HI0.out)
  (case side2 => exact bB)
  rintro e w18 ⟨rfl, hi, hb, hk⟩
  refine ⟨_, rfl, ?_⟩
  replace BK234 := Aside0.mk (KeepBut.blk hk (g' := gb234) (o := .cells #[.int .i64 a1_0, .slice A1_1 l1_1.length c1_1, .slice A1_2 l1_2.length c1_2, .slice A1_3 l1_3.length c1_3] 28 (0, 0)) (bw BK234.out) NB234_0.out (by simp))
  replace BK235 := Aside0.mk (KeepBut.blk hk (g' := gb235) (o := .cells #[.int .i64 0, .int .i64 0, .int .i64 0, .bool false, .int .u64 0, .slice none 0 0] 39 (0, 0)) (bw BK235.out) NB235_0.out (by simp))
  replace BK238 := Aside0.mk (KeepBut.blk hk (g' := gb238) (o := .cells #[.int .i64 (Int.tmod t236 7), .int .i64 0, .int .i64 0, .bool false, .int .u64 0, .slice none 0 0] 39 (0, 0)) (bw BK238.out) NB238_0.out (by simp))
  replace HK := Aside0.mk (KeepBut.trans bK hk (.inl rfl))
  replace HB := Aside0.mk (hb)
  replace HI0 := Aside0.mk (hi)
  (try clear hb)
  (try clear hb2)
  (try clear hk)
  (try clear hi)
  refine hK.out _ _ ⟨(blk_cell BK234.out 0).trans rfl, (blk_cell BK234.out 1).trans rfl, (blk_cell BK234.out 2).trans rfl, (blk_cell BK234.out 3).trans rfl⟩ (fun hHeld => ?_)
  clear hK K
  refine nS 18 ?_
  refine pS 5 22 HT_ ?_
  refine pS 6 23 HT_ ?_
  refine one_ (i := 7) (N := none) #[true, true, true, true, true, true, true, true] rfl rfl (one_of HT_.out (by kernel_rfl)) (by decide) (fun K hK => ?_)
  have hs19 : w18.cell? ⟨gb238, 1, none⟩ = some (.int .i64 0) := (blk_cell BK238.out 1).trans rfl
  have hfs19 := blk_frozen BK238.out 1
  have hns19_0 := NB234_238.out
  have hns19_1 := NB235_238.out
  have hms19_0 := NB238_234.out
  have hms19_1 := NB238_235.out
  refine skip_ (w1 := ?_) (by rfl) rfl ?_ ?_
  rotate_left
  ·go_simp
   rfl
  refine hK.out _ _ ⟨((cell_far (p := ⟨gb238, _, none⟩) NB234_238.out _).trans (hHeld.1)), ((cell_far (p := ⟨gb238, _, none⟩) NB234_238.out _).trans (hHeld.2.1)), ((cell_far (p := ⟨gb238, _, none⟩) NB234_238.out _).trans (hHeld.2.2.1)), ((cell_far (p := ⟨gb238, _, none⟩) NB234_238.out _).trans (hHeld.2.2.2))⟩ (fun hHeld => ?_)
  clear hK K
  refine done_ (done_of HT_.out (by kernel_rfl)) ?_
  have hnb20 := NB238_234.out
  have hnc20 := NB234_238.out
  have hnb21 := NB238_235.out
  have hnc21 := NB235_238.out
  have hnb22 := NB238_0.out
  have hnc22 := NB0_238.out
  obtain ⟨hcz23_0, hcz23_1, hcz23_2, hcz23_3, hcz23_4, hcz23_5⟩ := cZ6 BK238.out
  obtain ⟨hfz23_0, hfz23_1, hfz23_2, hfz23_3, hfz23_4, hfz23_5⟩ := fZ6 BK238.out
  have hnb24 := NB235_234.out
  have hnc24 := NB234_235.out
  have hnb25 := NB235_0.out
  have hnc25 := NB0_235.out
  obtain ⟨hcz26_0, hcz26_1, hcz26_2, hcz26_3, hcz26_4, hcz26_5⟩ := cZ6 BK235.out
  obtain ⟨hfz26_0, hfz26_1, hfz26_2, hfz26_3, hfz26_4, hfz26_5⟩ := fZ6 BK235.out
  try go_wp2
  refine bodyPost_ret (results_cell_row rfl _ _ gb235 39 #[.int .i64 (Int.tmod t236 7), .int .i64 (Int.tmod t239 (l1_1.length : Int)), .int .i64 0, .bool false, .int .u64 0, .slice none 0 0] (0, 0) _ rfl (by refine bW ?_; refine blk_put (cs := #[.int .i64 (Int.tmod t236 7), .int .i64 (Int.tmod t239 (l1_1.length : Int)), .int .i64 0, .bool false, .int .u64 0, .slice none 0 0]) ?_ 5 _ rfl; refine bW ?_; refine blk_put (cs := #[.int .i64 (Int.tmod t236 7), .int .i64 (Int.tmod t239 (l1_1.length : Int)), .int .i64 0, .bool false, .int .u64 0, .slice none 0 0]) ?_ 4 _ rfl; refine bW ?_; refine blk_put (cs := #[.int .i64 (Int.tmod t236 7), .int .i64 (Int.tmod t239 (l1_1.length : Int)), .int .i64 0, .bool false, .int .u64 0, .slice none 0 0]) ?_ 3 _ rfl; refine bW ?_; refine blk_put (cs := #[.int .i64 (Int.tmod t236 7), .int .i64 (Int.tmod t239 (l1_1.length : Int)), .int .i64 0, .bool false, .int .u64 0, .slice none 0 0]) ?_ 2 _ rfl; refine bW ?_; refine blk_put (cs := #[.int .i64 (Int.tmod t236 7), .int .i64 0, .int .i64 0, .bool false, .int .u64 0, .slice none 0 0]) ?_ 1 _ rfl; refine bW ?_; refine blk_put (cs := #[.int .i64 0, .int .i64 0, .int .i64 0, .bool false, .int .u64 0, .slice none 0 0]) ?_ 0 _ rfl; refine bW ?_; refine blk_far ?_ NB235_238.out _; exact bw BK235.out) Tryd.underlying39 rfl (by kernel_rfl)) rfl ?_
  exact ⟨_, by first | rfl | (simp [errW_none, errW_some] <;> rfl) | (simp [*, errW_none, errW_some] <;> rfl), by first | exact Kd.R_nil _ _ _ _ _ | exact Kd.N_nil _ _ _ _ _ | exact Kd.V_nil _ _ _ _ _ | exact Kd.Q_nil _ _ _ _ _ | exact Kd.S_nil _ _ _ _ _, by exact bI HI0.out, by exact bB, by exact bK⟩
 replace c14 := Bool.eq_false_iff.mpr c14
 subst c14
 rw [if_neg (show ¬ (false = true) by decide)] at H
 by_cases c27 : (Int.tmod t236 7) = 5
 ·rw [if_pos c27] at H
  have c27b0 : ((Int.tmod t236 7) == 5) = true := beq_iff_eq.mpr c27
  have c27b1 : ((Int.tmod t236 7) != 5) = false := bne_eq_false_iff_eq.mpr c27
  clear c27
  replace H := Option.bind_eq_some_iff.mp H
  obtain ⟨⟨t241, t242⟩, A280, H⟩ := H
  (try dsimp only at H)
  have A28 := Aside0.mk A280
  clear A280
  by_cases c29 : (l1_1.length : Int) = 0
  ·rw [if_pos c29] at H
   exact absurd H (by simp)
  rw [if_neg c29] at H
  have c29b0 : ((l1_1.length : Int) == 0) = false := beq_eq_false_iff_ne.mpr c29
  have c29b1 : ((l1_1.length : Int) != 0) = true := bne_iff_ne.mpr c29
  have c29b2 : ¬ (l1_1 = []) := fun h_ => c29 (by rw [h_]; rfl)
  replace H := Option.bind_eq_some_iff.mp H
  obtain ⟨⟨t243, t244⟩, A300, H⟩ := H
  (try dsimp only at H)
  have A30 := Aside0.mk A300
  clear A300
  simp only [Option.some.injEq, Prod.mk.injEq] at H
  obtain ⟨rfl, rfl, rfl, rfl, rfl, rfl, rfl⟩ := H
  try go_wp2
  replace BK234 := Aside0.mk (blk_drew BK234.out)
  replace BK235 := Aside0.mk (blk_drew BK235.out)
  replace BK238 := Aside0.mk (blk_drew BK238.out)
  replace HI0 := Aside0.mk (IsS54.drew HI0.out)
  replace HK := Aside0.mk (keep_drew HK.out)
  replace HB := Aside0.mk (below_drew1 HB.out)
  refine start_ (n := 8) (S := fun w' => w'.cell? ⟨gb234, 0, none⟩ = some (.int .i64 a1_0) ∧ w'.cell? ⟨gb234, 1, none⟩ = some (.slice A1_1 l1_1.length c1_1) ∧ w'.cell? ⟨gb234, 2, none⟩ = some (.slice A1_2 l1_2.length c1_2) ∧ w'.cell? ⟨gb234, 3, none⟩ = some (.slice A1_3 l1_3.length c1_3)) (ds := []) #[false, false, false, false, false, false, false, false] (by kernel_rfl) rfl rfl ⟨(blk_cell BK234.out 0).trans rfl, (blk_cell BK234.out 1).trans rfl, (blk_cell BK234.out 2).trans rfl, (blk_cell BK234.out 3).trans rfl⟩ (fun hHeld => ?_); refine with_tabW script_reader_op.tab8 script_reader_op.bits8 (fun HT_ HW_ => ?_)
  generalize wc.drew = w31 at BK234 BK235 BK238 HI0 HK HB hHeld ⊢
  refine pS 0 26 HT_ ?_
  refine pS 2 28 HT_ ?_
  refine tS 3 29 HT_ HW_ hHeld ?_
  refine pS 4 30 HT_ ?_
  refine one_ (i := 1) (N := some 27) #[true, true, true, true, true, false, false, false] rfl rfl (one_of HT_.out (by kernel_rfl)) (by decide) (fun K hK => ?_)
  refine goes_ Tryd.func28 (by kernel_rfl) rfl #[.pointer (some ⟨g, 0, none⟩)] (by rfl) rfl rfl (by (try simp only [List.map_toArray, List.map_cons, List.map_nil]); first | done | rfl | (simp only [List.length_drop, List.length_take]; rfl)) ?_
  with_reducible refine (script_reader_next.calls g s0_0 t237 t241 t242 w0 _ ?side1 ?side2 A28.out).mono ?_
  (case side1 => exact bI HI0.out)
  (case side2 => exact bB)
  rintro e w32 ⟨rfl, hi, hb, hk⟩
  refine ⟨_, rfl, ?_⟩
  replace BK234 := Aside0.mk (KeepBut.blk hk (g' := gb234) (o := .cells #[.int .i64 a1_0, .slice A1_1 l1_1.length c1_1, .slice A1_2 l1_2.length c1_2, .slice A1_3 l1_3.length c1_3] 28 (0, 0)) (bw BK234.out) NB234_0.out (by simp))
  replace BK235 := Aside0.mk (KeepBut.blk hk (g' := gb235) (o := .cells #[.int .i64 0, .int .i64 0, .int .i64 0, .bool false, .int .u64 0, .slice none 0 0] 39 (0, 0)) (bw BK235.out) NB235_0.out (by simp))
  replace BK238 := Aside0.mk (KeepBut.blk hk (g' := gb238) (o := .cells #[.int .i64 (Int.tmod t236 7), .int .i64 0, .int .i64 0, .bool false, .int .u64 0, .slice none 0 0] 39 (0, 0)) (bw BK238.out) NB238_0.out (by simp))
  replace HK := Aside0.mk (KeepBut.trans bK hk (.inl rfl))
  replace HB := Aside0.mk (hb)
  replace HI0 := Aside0.mk (hi)
  (try clear hb)
  (try clear hb2)
  (try clear hk)
  (try clear hi)
  refine hK.out _ _ ⟨(blk_cell BK234.out 0).trans rfl, (blk_cell BK234.out 1).trans rfl, (blk_cell BK234.out 2).trans rfl, (blk_cell BK234.out 3).trans rfl⟩ (fun hHeld => ?_)
  clear hK K
  refine nS 27 ?_
  refine pS 5 31 HT_ ?_
  refine pS 6 32 HT_ ?_
  refine one_ (i := 7) (N := none) #[true, true, true, true, true, true, true, true] rfl rfl (one_of HT_.out (by kernel_rfl)) (by decide) (fun K hK => ?_)
  have hs33 : w32.cell? ⟨gb238, 1, none⟩ = some (.int .i64 0) := (blk_cell BK238.out 1).trans rfl
  have hfs33 := blk_frozen BK238.out 1
  have hns33_0 := NB234_238.out
  have hns33_1 := NB235_238.out
  have hms33_0 := NB238_234.out
  have hms33_1 := NB238_235.out
  refine skip_ (w1 := ?_) (by rfl) rfl ?_ ?_
  rotate_left
  ·go_simp
   rfl
  refine hK.out _ _ ⟨((cell_far (p := ⟨gb238, _, none⟩) NB234_238.out _).trans (hHeld.1)), ((cell_far (p := ⟨gb238, _, none⟩) NB234_238.out _).trans (hHeld.2.1)), ((cell_far (p := ⟨gb238, _, none⟩) NB234_238.out _).trans (hHeld.2.2.1)), ((cell_far (p := ⟨gb238, _, none⟩) NB234_238.out _).trans (hHeld.2.2.2))⟩ (fun hHeld => ?_)
  clear hK K
  refine done_ (done_of HT_.out (by kernel_rfl)) ?_
  try go_wp2_with (first | ((with_reducible refine gate_callee (f := 28) rfl ?_); refine gL (some 34) Tryd.func28 #[.pointer (some ⟨g, 0, none⟩)] ?_; (with_reducible refine (script_reader_next.calls g s0_0 t242 t243 t244 w0 _ ?side1 ?side2 A30.out).mono ?_); (case side1 => exact bI HI0.out); (case side2 => exact bB); rintro e w34 ⟨rfl, hi, hb, hk⟩; refine ⟨_, rfl, ?_⟩; replace BK234 := Aside0.mk (KeepBut.blk hk (g' := gb234) (o := .cells #[.int .i64 a1_0, .slice A1_1 l1_1.length c1_1, .slice A1_2 l1_2.length c1_2, .slice A1_3 l1_3.length c1_3] 28 (0, 0)) (bw BK234.out) NB234_0.out (by simp)); replace BK235 := Aside0.mk (KeepBut.blk hk (g' := gb235) (o := .cells #[.int .i64 0, .int .i64 0, .int .i64 0, .bool false, .int .u64 0, .slice none 0 0] 39 (0, 0)) (bw BK235.out) NB235_0.out (by simp)); replace BK238 := Aside0.mk (KeepBut.blk hk (g' := gb238) (o := .cells #[.int .i64 (Int.tmod t236 7), .int .i64 (Int.tmod t241 (l1_1.length : Int)), .int .i64 0, .bool false, .int .u64 0, .slice none 0 0] 39 (0, 0)) (by refine bW ?_; refine blk_put (cs := #[.int .i64 (Int.tmod t236 7), .int .i64 0, .int .i64 0, .bool false, .int .u64 0, .slice none 0 0]) ?_ 1 _ rfl; exact bw BK238.out) NB238_0.out (by simp)); replace HK := Aside0.mk (KeepBut.trans bK hk (.inl rfl)); replace HB := Aside0.mk (hb); replace HI0 := Aside0.mk (hi); (try clear hb); (try clear hb2); (try clear hk); (try clear hi); have hnb35 := NB238_234.out; have hnc35 := NB234_238.out; have hnb36 := NB238_235.out; have hnc36 := NB235_238.out; have hnb37 := NB238_0.out; have hnc37 := NB0_238.out; obtain ⟨hcz38_0, hcz38_1, hcz38_2, hcz38_3, hcz38_4, hcz38_5⟩ := cZ6 BK238.out; obtain ⟨hfz38_0, hfz38_1, hfz38_2, hfz38_3, hfz38_4, hfz38_5⟩ := fZ6 BK238.out; have hnb39 := NB235_234.out; have hnc39 := NB234_235.out; have hnb40 := NB235_0.out; have hnc40 := NB0_235.out; obtain ⟨hcz41_0, hcz41_1, hcz41_2, hcz41_3, hcz41_4, hcz41_5⟩ := cZ6 BK235.out; obtain ⟨hfz41_0, hfz41_1, hfz41_2, hfz41_3, hfz41_4, hfz41_5⟩ := fZ6 BK235.out))
  refine bodyPost_ret (results_cell_row rfl _ _ gb235 39 #[.int .i64 (Int.tmod t236 7), .int .i64 (Int.tmod t241 (l1_1.length : Int)), .int .i64 (Int.tmod t243 3), .bool (decide (t236 < 128)), .int .u64 0, .slice none 0 0] (0, 0) _ rfl (by refine bW ?_; refine blk_put (cs := #[.int .i64 (Int.tmod t236 7), .int .i64 (Int.tmod t241 (l1_1.length : Int)), .int .i64 (Int.tmod t243 3), .bool (decide (t236 < 128)), .int .u64 0, .slice none 0 0]) ?_ 5 _ rfl; refine bW ?_; refine blk_put (cs := #[.int .i64 (Int.tmod t236 7), .int .i64 (Int.tmod t241 (l1_1.length : Int)), .int .i64 (Int.tmod t243 3), .bool (decide (t236 < 128)), .int .u64 0, .slice none 0 0]) ?_ 4 _ rfl; refine bW ?_; refine blk_put (cs := #[.int .i64 (Int.tmod t236 7), .int .i64 (Int.tmod t241 (l1_1.length : Int)), .int .i64 (Int.tmod t243 3), .bool false, .int .u64 0, .slice none 0 0]) ?_ 3 _ rfl; refine bW ?_; refine blk_put (cs := #[.int .i64 (Int.tmod t236 7), .int .i64 (Int.tmod t241 (l1_1.length : Int)), .int .i64 0, .bool false, .int .u64 0, .slice none 0 0]) ?_ 2 _ rfl; refine bW ?_; refine blk_put (cs := #[.int .i64 (Int.tmod t236 7), .int .i64 0, .int .i64 0, .bool false, .int .u64 0, .slice none 0 0]) ?_ 1 _ rfl; refine bW ?_; refine blk_put (cs := #[.int .i64 0, .int .i64 0, .int .i64 0, .bool false, .int .u64 0, .slice none 0 0]) ?_ 0 _ rfl; (iterate 2 (refine bW ?_; refine blk_far ?_ NB235_238.out _)); exact bw BK235.out) Tryd.underlying39 rfl (by kernel_rfl)) rfl ?_
  exact ⟨_, by first | rfl | (simp [errW_none, errW_some] <;> rfl) | (simp [*, errW_none, errW_some] <;> rfl), by first | exact Kd.R_nil _ _ _ _ _ | exact Kd.N_nil _ _ _ _ _ | exact Kd.V_nil _ _ _ _ _ | exact Kd.Q_nil _ _ _ _ _ | exact Kd.S_nil _ _ _ _ _, by exact bI HI0.out, by exact bB, by exact bK⟩
 rw [if_neg c27] at H
 have c27b0 : ((Int.tmod t236 7) == 5) = false := beq_eq_false_iff_ne.mpr c27
 have c27b1 : ((Int.tmod t236 7) != 5) = true := bne_iff_ne.mpr c27
 have HC42 := Aside0.mk H
 clear H
 go_upto_if 40 with (fail)
 go_cut [40] (fun v40 wc => ∃ (kq : Nat) (x40_41 : Bool), v40 = .bool x40_41 ∧ Aside0 (script_reader_op.j1 kq t236 (Int.tmod t236 7) x40_41 s0_0 t237 a1_0 l1_1 l1_2 l1_3 (Int.tmod t236 7) 0 0 false 0 = some (r1, r2, r3, r4, r5, r6, r7)) ∧ Aside0 (kq ≤ kj3) ∧ Aside0 (wc.heap[gb234]? = some (.cells #[.int .i64 a1_0, (.slice A1_1 l1_1.length c1_1), (.slice A1_2 l1_2.length c1_2), (.slice A1_3 l1_3.length c1_3)] 28 (0, 0))) ∧ Aside0 (wc.heap[gb235]? = some (.cells #[.int .i64 0, .int .i64 0, .int .i64 0, .bool false, .int .u64 0, (.slice none 0 0)] 39 (0, 0))) ∧ Aside0 (wc.heap[gb238]? = some (.cells #[.int .i64 (Int.tmod t236 7), .int .i64 0, .int .i64 0, .bool false, .int .u64 0, (.slice none 0 0)] 39 (0, 0))) ∧ Aside0 (IsS54 w0 wc g s0_0 t237) ∧ Aside0 (KeepBut w wc g none) ∧ Aside0 (Below w0.heap.size w0 wc))
 case first =>
  have H := HC42.out
  clear HC42
  by_cases c43 : (Int.tmod t236 7) = 1
  rotate_left
  ·rw [if_neg c43] at H
   have c43b0 : ((Int.tmod t236 7) == 1) = false := beq_eq_false_iff_ne.mpr c43
   have c43b1 : ((Int.tmod t236 7) != 1) = true := bne_iff_ne.mpr c43
   (first | rw [c43b0] | (simp only [i64_w, i32_w]; rw [c43b0]) | skip)
   have H' := Aside0.mk H
   clear H
   go_wp2
   go_meet
   case rel => exact ⟨_, (((Int.tmod t236 7) == 2)), (by first | rfl | (simp; done) | (simp [*]; done)), H', ⟨by have := HJ3.out; first | omega | exact Nat.le_refl _⟩, ⟨bw BK234.out⟩, ⟨bw BK235.out⟩, ⟨bw BK238.out⟩, ⟨bI HI0.out⟩, ⟨bK⟩, ⟨bB⟩⟩
  rw [if_pos c43] at H
  have c43b0 : ((Int.tmod t236 7) == 1) = true := beq_iff_eq.mpr c43
  have c43b1 : ((Int.tmod t236 7) != 1) = false := bne_eq_false_iff_eq.mpr c43
  clear c43
  (first | rw [c43b0] | (simp only [i64_w, i32_w]; rw [c43b0]) | skip)
  have H' := Aside0.mk H
  clear H
  go_wp2
  go_meet
  case rel => exact ⟨_, (((Int.tmod t236 7) == 1)), (by first | rfl | (simp; done) | (simp [*]; done)), H', ⟨by have := HJ3.out; first | omega | exact Nat.le_refl _⟩, ⟨bw BK234.out⟩, ⟨bw BK235.out⟩, ⟨bw BK238.out⟩, ⟨bI HI0.out⟩, ⟨bK⟩, ⟨bB⟩⟩
 clear HC42
 try clear p2
 try clear c13b0
 try clear c13b1
 try clear c14
 try clear c16b0
 try clear c16b1
 try clear c16b2
 try clear c27
 try clear c27b0
 try clear c27b1
 try clear c29
 try clear c29b0
 try clear c29b1
 try clear c29b2
 try clear c43
 try clear c43b0
 try clear c43b1
 try clear p2
 obtain ⟨kq, x40_41, rfl, HA, HJ41, BK234, BK235, BK238, HI0, HK, HB⟩ := hcut
 cases kq with
 | zero => exact absurd HA.out (by simp [script_reader_op.j1])
 | succ kj41 => ?_
 have H := HA.out
 clear HA
 simp only [script_reader_op.j1] at H
 by_cases c44 : x40_41 = true
 ·subst c44
  rw [if_pos rfl] at H
  replace H := Option.bind_eq_some_iff.mp H
  obtain ⟨⟨t245, t246⟩, A450, H⟩ := H
  (try dsimp only at H)
  have A45 := Aside0.mk A450
  clear A450
  by_cases c46 : a1_0 = 0
  ·rw [if_pos c46] at H
   exact absurd H (by simp)
  rw [if_neg c46] at H
  have c46b0 : (a1_0 == 0) = false := beq_eq_false_iff_ne.mpr c46
  have c46b1 : (a1_0 != 0) = true := bne_iff_ne.mpr c46
  replace H := Option.bind_eq_some_iff.mp H
  obtain ⟨⟨t247, t248⟩, A470, H⟩ := H
  (try dsimp only at H)
  have A47 := Aside0.mk A470
  clear A470
  simp only [Option.some.injEq, Prod.mk.injEq] at H
  obtain ⟨rfl, rfl, rfl, rfl, rfl, rfl, rfl⟩ := H
  try go_wp2
  replace BK234 := Aside0.mk (blk_drew BK234.out)
  replace BK235 := Aside0.mk (blk_drew BK235.out)
  replace BK238 := Aside0.mk (blk_drew BK238.out)
  replace HI0 := Aside0.mk (IsS54.drew HI0.out)
  replace HK := Aside0.mk (keep_drew HK.out)
  replace HB := Aside0.mk (below_drew1 HB.out)
  refine start_ (n := 11) (S := fun w' => w'.cell? ⟨gb234, 0, none⟩ = some (.int .i64 a1_0) ∧ w'.cell? ⟨gb234, 1, none⟩ = some (.slice A1_1 l1_1.length c1_1) ∧ w'.cell? ⟨gb234, 2, none⟩ = some (.slice A1_2 l1_2.length c1_2) ∧ w'.cell? ⟨gb234, 3, none⟩ = some (.slice A1_3 l1_3.length c1_3)) (ds := []) #[false, false, false, false, false, false, false, false, false, false, false] (by kernel_rfl) rfl rfl ⟨(blk_cell BK234.out 0).trans rfl, (blk_cell BK234.out 1).trans rfl, (blk_cell BK234.out 2).trans rfl, (blk_cell BK234.out 3).trans rfl⟩ (fun hHeld => ?_); refine with_tabW script_reader_op.tab12 script_reader_op.bits12 (fun HT_ HW_ => ?_)
  generalize wc.drew = w48 at BK234 BK235 BK238 HI0 HK HB hHeld ⊢
  refine pS 0 43 HT_ ?_
  refine pS 2 45 HT_ ?_
  refine pS 5 48 HT_ ?_
  refine tS 3 46 HT_ HW_ hHeld ?_
  refine one_ (i := 1) (N := some 44) #[true, true, true, true, false, true, false, false, false, false, false] rfl rfl (one_of HT_.out (by kernel_rfl)) (by decide) (fun K hK => ?_)
  refine goes_ Tryd.func28 (by kernel_rfl) rfl #[.pointer (some ⟨g, 0, none⟩)] (by rfl) rfl rfl (by (try simp only [List.map_toArray, List.map_cons, List.map_nil]); first | done | rfl | (simp only [List.length_drop, List.length_take]; rfl)) ?_
  with_reducible refine (script_reader_next.calls g s0_0 t237 t245 t246 w0 _ ?side1 ?side2 A45.out).mono ?_
  (case side1 => exact bI HI0.out)
  (case side2 => exact bB)
  rintro e w49 ⟨rfl, hi, hb, hk⟩
  refine ⟨_, rfl, ?_⟩
  replace BK234 := Aside0.mk (KeepBut.blk hk (g' := gb234) (o := .cells #[.int .i64 a1_0, .slice A1_1 l1_1.length c1_1, .slice A1_2 l1_2.length c1_2, .slice A1_3 l1_3.length c1_3] 28 (0, 0)) (bw BK234.out) NB234_0.out (by simp))
  replace BK235 := Aside0.mk (KeepBut.blk hk (g' := gb235) (o := .cells #[.int .i64 0, .int .i64 0, .int .i64 0, .bool false, .int .u64 0, .slice none 0 0] 39 (0, 0)) (bw BK235.out) NB235_0.out (by simp))
  replace BK238 := Aside0.mk (KeepBut.blk hk (g' := gb238) (o := .cells #[.int .i64 (Int.tmod t236 7), .int .i64 0, .int .i64 0, .bool false, .int .u64 0, .slice none 0 0] 39 (0, 0)) (bw BK238.out) NB238_0.out (by simp))
  replace HK := Aside0.mk (KeepBut.trans bK hk (.inl rfl))
  replace HB := Aside0.mk (hb)
  replace HI0 := Aside0.mk (hi)
  (try clear hb)
  (try clear hb2)
  (try clear hk)
  (try clear hi)
  refine hK.out _ _ ⟨(blk_cell BK234.out 0).trans rfl, (blk_cell BK234.out 1).trans rfl, (blk_cell BK234.out 2).trans rfl, (blk_cell BK234.out 3).trans rfl⟩ (fun hHeld => ?_)
  clear hK K
  refine nS 44 ?_
  refine pS 4 47 HT_ ?_
  refine pS 7 50 HT_ ?_
  refine one_ (i := 6) (N := some 49) #[true, true, true, true, true, true, true, true, false, false, false] rfl rfl (one_of HT_.out (by kernel_rfl)) (by decide) (fun K hK => ?_)
  refine goes_ Tryd.func28 (by kernel_rfl) rfl #[.pointer (some ⟨g, 0, none⟩)] (by rfl) rfl rfl (by (try simp only [List.map_toArray, List.map_cons, List.map_nil]); first | done | rfl | (simp only [List.length_drop, List.length_take]; rfl)) ?_
  with_reducible refine (script_reader_next.calls g s0_0 t246 t247 t248 w0 _ ?side1 ?side2 A47.out).mono ?_
  (case side1 => exact bI HI0.out)
  (case side2 => exact bB)
  rintro e w50 ⟨rfl, hi, hb, hk⟩
  refine ⟨_, rfl, ?_⟩
  replace BK234 := Aside0.mk (KeepBut.blk hk (g' := gb234) (o := .cells #[.int .i64 a1_0, .slice A1_1 l1_1.length c1_1, .slice A1_2 l1_2.length c1_2, .slice A1_3 l1_3.length c1_3] 28 (0, 0)) (bw BK234.out) NB234_0.out (by simp))
  replace BK235 := Aside0.mk (KeepBut.blk hk (g' := gb235) (o := .cells #[.int .i64 0, .int .i64 0, .int .i64 0, .bool false, .int .u64 0, .slice none 0 0] 39 (0, 0)) (bw BK235.out) NB235_0.out (by simp))
  replace BK238 := Aside0.mk (KeepBut.blk hk (g' := gb238) (o := .cells #[.int .i64 (Int.tmod t236 7), .int .i64 0, .int .i64 0, .bool false, .int .u64 0, .slice none 0 0] 39 (0, 0)) (bw BK238.out) NB238_0.out (by simp))
  replace HK := Aside0.mk (KeepBut.trans bK hk (.inl rfl))
  replace HB := Aside0.mk (hb)
  replace HI0 := Aside0.mk (hi)
  (try clear hb)
  (try clear hb2)
  (try clear hk)
  (try clear hi)
  refine hK.out _ _ ⟨(blk_cell BK234.out 0).trans rfl, (blk_cell BK234.out 1).trans rfl, (blk_cell BK234.out 2).trans rfl, (blk_cell BK234.out 3).trans rfl⟩ (fun hHeld => ?_)
  clear hK K
  refine nS 49 ?_
  refine one_ (i := 8) (N := none) #[true, true, true, true, true, true, true, true, true, false, false] rfl rfl (one_of HT_.out (by kernel_rfl)) (by decide) (fun K hK => ?_)
  have hs51 : w50.cell? ⟨gb238, 1, none⟩ = some (.int .i64 0) := (blk_cell BK238.out 1).trans rfl
  have hfs51 := blk_frozen BK238.out 1
  have hns51_0 := NB234_238.out
  have hns51_1 := NB235_238.out
  have hms51_0 := NB238_234.out
  have hms51_1 := NB238_235.out
  refine skip_ (w1 := ?_) (by rfl) rfl ?_ ?_
  rotate_left
  ·go_simp
   rfl
  refine hK.out _ _ ⟨((cell_far (p := ⟨gb238, _, none⟩) NB234_238.out _).trans (hHeld.1)), ((cell_far (p := ⟨gb238, _, none⟩) NB234_238.out _).trans (hHeld.2.1)), ((cell_far (p := ⟨gb238, _, none⟩) NB234_238.out _).trans (hHeld.2.2.1)), ((cell_far (p := ⟨gb238, _, none⟩) NB234_238.out _).trans (hHeld.2.2.2))⟩ (fun hHeld => ?_)
  clear hK K
  refine pS 9 51 HT_ ?_
  refine one_ (i := 10) (N := none) #[true, true, true, true, true, true, true, true, true, true, true] rfl rfl (one_of HT_.out (by kernel_rfl)) (by decide) (fun K hK => ?_)
  have hs52 : w50.cell? ⟨gb238, 2, none⟩ = some (.int .i64 0) := (blk_cell BK238.out 2).trans rfl
  have hfs52 := blk_frozen BK238.out 2
  have hns52_0 := NB234_238.out
  have hns52_1 := NB235_238.out
  have hms52_0 := NB238_234.out
  have hms52_1 := NB238_235.out
  refine skip_ (w1 := ?_) (by rfl) rfl ?_ ?_
  rotate_left
  ·go_simp
   rfl
  refine hK.out _ _ ⟨((cell_far (p := ⟨gb238, _, none⟩) NB234_238.out _).trans (hHeld.1)), ((cell_far (p := ⟨gb238, _, none⟩) NB234_238.out _).trans (hHeld.2.1)), ((cell_far (p := ⟨gb238, _, none⟩) NB234_238.out _).trans (hHeld.2.2.1)), ((cell_far (p := ⟨gb238, _, none⟩) NB234_238.out _).trans (hHeld.2.2.2))⟩ (fun hHeld => ?_)
  clear hK K
  refine done_ (done_of HT_.out (by kernel_rfl)) ?_
  have hnb53 := NB238_234.out
  have hnc53 := NB234_238.out
  have hnb54 := NB238_235.out
  have hnc54 := NB235_238.out
  have hnb55 := NB238_0.out
  have hnc55 := NB0_238.out
  obtain ⟨hcz56_0, hcz56_1, hcz56_2, hcz56_3, hcz56_4, hcz56_5⟩ := cZ6 BK238.out
  obtain ⟨hfz56_0, hfz56_1, hfz56_2, hfz56_3, hfz56_4, hfz56_5⟩ := fZ6 BK238.out
  have hnb57 := NB235_234.out
  have hnc57 := NB234_235.out
  have hnb58 := NB235_0.out
  have hnc58 := NB0_235.out
  obtain ⟨hcz59_0, hcz59_1, hcz59_2, hcz59_3, hcz59_4, hcz59_5⟩ := cZ6 BK235.out
  obtain ⟨hfz59_0, hfz59_1, hfz59_2, hfz59_3, hfz59_4, hfz59_5⟩ := fZ6 BK235.out
  try go_wp2
  refine bodyPost_ret (results_cell_row rfl _ _ gb235 39 #[.int .i64 (Int.tmod t236 7), .int .i64 (Int.tmod t245 a1_0), .int .i64 t247, .bool false, .int .u64 0, .slice none 0 0] (0, 0) _ rfl (by refine bW ?_; refine blk_put (cs := #[.int .i64 (Int.tmod t236 7), .int .i64 (Int.tmod t245 a1_0), .int .i64 t247, .bool false, .int .u64 0, .slice none 0 0]) ?_ 5 _ rfl; refine bW ?_; refine blk_put (cs := #[.int .i64 (Int.tmod t236 7), .int .i64 (Int.tmod t245 a1_0), .int .i64 t247, .bool false, .int .u64 0, .slice none 0 0]) ?_ 4 _ rfl; refine bW ?_; refine blk_put (cs := #[.int .i64 (Int.tmod t236 7), .int .i64 (Int.tmod t245 a1_0), .int .i64 t247, .bool false, .int .u64 0, .slice none 0 0]) ?_ 3 _ rfl; refine bW ?_; refine blk_put (cs := #[.int .i64 (Int.tmod t236 7), .int .i64 (Int.tmod t245 a1_0), .int .i64 0, .bool false, .int .u64 0, .slice none 0 0]) ?_ 2 _ rfl; refine bW ?_; refine blk_put (cs := #[.int .i64 (Int.tmod t236 7), .int .i64 0, .int .i64 0, .bool false, .int .u64 0, .slice none 0 0]) ?_ 1 _ rfl; refine bW ?_; refine blk_put (cs := #[.int .i64 0, .int .i64 0, .int .i64 0, .bool false, .int .u64 0, .slice none 0 0]) ?_ 0 _ rfl; (iterate 2 (refine bW ?_; refine blk_far ?_ NB235_238.out _)); exact bw BK235.out) Tryd.underlying39 rfl (by kernel_rfl)) rfl ?_
  exact ⟨_, by first | rfl | (simp [errW_none, errW_some] <;> rfl) | (simp [*, errW_none, errW_some] <;> rfl), by first | exact Kd.R_nil _ _ _ _ _ | exact Kd.N_nil _ _ _ _ _ | exact Kd.V_nil _ _ _ _ _ | exact Kd.Q_nil _ _ _ _ _ | exact Kd.S_nil _ _ _ _ _, by exact bI HI0.out, by exact bB, by exact bK⟩
 replace c44 := Bool.eq_false_iff.mpr c44
 subst c44
 rw [if_neg (show ¬ (false = true) by decide)] at H
 by_cases c60 : (Int.tmod t236 7) = 3
 rotate_left
 ·rw [if_neg c60] at H
  have c60b0 : ((Int.tmod t236 7) == 3) = false := beq_eq_false_iff_ne.mpr c60
  have c60b1 : ((Int.tmod t236 7) != 3) = true := bne_iff_ne.mpr c60
  by_cases c103 : (Int.tmod t236 7) = 6
  rotate_left
  ·rw [if_neg c103] at H
   have c103b0 : ((Int.tmod t236 7) == 6) = false := beq_eq_false_iff_ne.mpr c103
   have c103b1 : ((Int.tmod t236 7) != 6) = true := bne_iff_ne.mpr c103
   simp only [Option.some.injEq, Prod.mk.injEq] at H
   obtain ⟨rfl, rfl, rfl, rfl, rfl, rfl, rfl⟩ := H
   have hnb122 := NB238_234.out
   have hnc122 := NB234_238.out
   have hnb123 := NB238_235.out
   have hnc123 := NB235_238.out
   have hnb124 := NB238_0.out
   have hnc124 := NB0_238.out
   obtain ⟨hcz125_0, hcz125_1, hcz125_2, hcz125_3, hcz125_4, hcz125_5⟩ := cZ6 BK238.out
   obtain ⟨hfz125_0, hfz125_1, hfz125_2, hfz125_3, hfz125_4, hfz125_5⟩ := fZ6 BK238.out
   have hnb126 := NB235_234.out
   have hnc126 := NB234_235.out
   have hnb127 := NB235_0.out
   have hnc127 := NB0_235.out
   obtain ⟨hcz128_0, hcz128_1, hcz128_2, hcz128_3, hcz128_4, hcz128_5⟩ := cZ6 BK235.out
   obtain ⟨hfz128_0, hfz128_1, hfz128_2, hfz128_3, hfz128_4, hfz128_5⟩ := fZ6 BK235.out
   go_wp2
   refine bodyPost_ret (results_cell_row rfl _ _ gb235 39 #[.int .i64 (Int.tmod t236 7), .int .i64 0, .int .i64 0, .bool false, .int .u64 0, .slice none 0 0] (0, 0) _ rfl (by exact put6 (bw BK235.out)) Tryd.underlying39 rfl (by kernel_rfl)) rfl ?_
   exact ⟨_, by first | rfl | (simp [errW_none, errW_some] <;> rfl) | (simp [*, errW_none, errW_some] <;> rfl), by first | exact Kd.R_nil _ _ _ _ _ | exact Kd.N_nil _ _ _ _ _ | exact Kd.V_nil _ _ _ _ _ | exact Kd.Q_nil _ _ _ _ _ | exact Kd.S_nil _ _ _ _ _, by exact bI HI0.out, by exact bB, by exact bK⟩
  rw [if_pos c103] at H
  have c103b0 : ((Int.tmod t236 7) == 6) = true := beq_iff_eq.mpr c103
  have c103b1 : ((Int.tmod t236 7) != 6) = false := bne_eq_false_iff_eq.mpr c103
  clear c103
  replace H := Option.bind_eq_some_iff.mp H
  obtain ⟨⟨t268, t269⟩, A1040, H⟩ := H
  (try dsimp only at H)
  have A104 := Aside0.mk A1040
  clear A1040
  replace H := Option.bind_eq_some_iff.mp H
  obtain ⟨⟨t270, t271⟩, A1050, H⟩ := H
  (try dsimp only at H)
  have A105 := Aside0.mk A1050
  clear A1050
  replace H := Option.bind_eq_some_iff.mp H
  obtain ⟨t272, A1060, H⟩ := H
  (try dsimp only at H)
  have A106 := Aside0.mk A1060
  clear A1060
  replace H := Option.bind_eq_some_iff.mp H
  obtain ⟨⟨t273, t274⟩, A1070, H⟩ := H
  (try dsimp only at H)
  have A107 := Aside0.mk A1070
  clear A1070
  replace H := Option.bind_eq_some_iff.mp H
  obtain ⟨⟨t275, t278⟩, A1080, H⟩ := H
  (try dsimp only at H)
  have A108 := Aside0.mk A1080
  clear A1080
  simp only [Option.some.injEq, Prod.mk.injEq] at H
  obtain ⟨rfl, rfl, rfl, rfl, rfl, rfl, rfl⟩ := H
  go_wp2_with (first | ((with_reducible refine gate_callee (f := 28) rfl ?_); refine gL (some 80) Tryd.func28 #[.pointer (some ⟨g, 0, none⟩)] ?_; (with_reducible refine (script_reader_next.calls g s0_0 t237 t268 t269 w0 _ ?side1 ?side2 A104.out).mono ?_); (case side1 => exact bI HI0.out); (case side2 => exact bB); rintro e w109 ⟨rfl, hi, hb, hk⟩; refine ⟨_, rfl, ?_⟩; replace BK234 := Aside0.mk (KeepBut.blk hk (g' := gb234) (o := .cells #[.int .i64 a1_0, .slice A1_1 l1_1.length c1_1, .slice A1_2 l1_2.length c1_2, .slice A1_3 l1_3.length c1_3] 28 (0, 0)) (bw BK234.out) NB234_0.out (by simp)); replace BK235 := Aside0.mk (KeepBut.blk hk (g' := gb235) (o := .cells #[.int .i64 0, .int .i64 0, .int .i64 0, .bool false, .int .u64 0, .slice none 0 0] 39 (0, 0)) (bw BK235.out) NB235_0.out (by simp)); replace BK238 := Aside0.mk (KeepBut.blk hk (g' := gb238) (o := .cells #[.int .i64 (Int.tmod t236 7), .int .i64 0, .int .i64 0, .bool false, .int .u64 0, .slice none 0 0] 39 (0, 0)) (bw BK238.out) NB238_0.out (by simp)); replace HK := Aside0.mk (KeepBut.trans bK hk (.inl rfl)); replace HB := Aside0.mk (hb); replace HI0 := Aside0.mk (hi); (try clear hb); (try clear hb2); (try clear hk); (try clear hi)) | ((with_reducible refine gate_callee (f := 28) rfl ?_); refine gL (some 83) Tryd.func28 #[.pointer (some ⟨g, 0, none⟩)] ?_; (with_reducible refine (script_reader_next.calls g s0_0 t269 t270 t271 w0 _ ?side1 ?side2 A105.out).mono ?_); (case side1 => exact bI HI0.out); (case side2 => exact bB); rintro e w110 ⟨rfl, hi, hb, hk⟩; refine ⟨_, rfl, ?_⟩; replace BK234 := Aside0.mk (KeepBut.blk hk (g' := gb234) (o := .cells #[.int .i64 a1_0, .slice A1_1 l1_1.length c1_1, .slice A1_2 l1_2.length c1_2, .slice A1_3 l1_3.length c1_3] 28 (0, 0)) (bw BK234.out) NB234_0.out (by simp)); replace BK235 := Aside0.mk (KeepBut.blk hk (g' := gb235) (o := .cells #[.int .i64 0, .int .i64 0, .int .i64 0, .bool false, .int .u64 0, .slice none 0 0] 39 (0, 0)) (bw BK235.out) NB235_0.out (by simp)); replace BK238 := Aside0.mk (KeepBut.blk hk (g' := gb238) (o := .cells #[.int .i64 (Int.tmod t236 7), .int .i64 0, .int .i64 0, .bool false, .int .u64 0, .slice none 0 0] 39 (0, 0)) (bw BK238.out) NB238_0.out (by simp)); replace HK := Aside0.mk (KeepBut.trans bK hk (.inl rfl)); replace HB := Aside0.mk (hb); replace HI0 := Aside0.mk (hi); (try clear hb); (try clear hb2); (try clear hk); (try clear hi)) | ((with_reducible refine gate_callee (f := 34) rfl ?_); refine gL (some 84) Tryd.func34 #[.int .i64 t270] ?_; (with_reducible refine (script_to.calls t270 t272 _ A106.out).mono ?_); rintro e w' ⟨rfl, ⟨nd, rfl⟩⟩; refine ⟨_, rfl, ?_⟩; (try (rw [drewN_self w110]; generalize hq_ : World.drewN w110 _ = w110; replace BK234 : Aside0 (w110.heap[gb234]? = some (.cells #[.int .i64 a1_0, .slice A1_1 l1_1.length c1_1, .slice A1_2 l1_2.length c1_2, .slice A1_3 l1_3.length c1_3] 28 (0, 0))) := ⟨by rw [← hq_]; exact (bw BK234.out)⟩; replace BK235 : Aside0 (w110.heap[gb235]? = some (.cells #[.int .i64 0, .int .i64 0, .int .i64 0, .bool false, .int .u64 0, .slice none 0 0] 39 (0, 0))) := ⟨by rw [← hq_]; exact (bw BK235.out)⟩; replace BK238 : Aside0 (w110.heap[gb238]? = some (.cells #[.int .i64 (Int.tmod t236 7), .int .i64 0, .int .i64 0, .bool false, .int .u64 0, .slice none 0 0] 39 (0, 0))) := ⟨by rw [← hq_]; exact (bw BK238.out)⟩; replace HI0 : Aside0 (IsS54 w0 w110 g s0_0 t271) := ⟨by rw [← hq_]; exact (bI HI0.out)⟩; replace HK : Aside0 (KeepBut w w110 g none) := ⟨by rw [← hq_]; exact bK⟩; replace HB : Aside0 (Below w0.heap.size w0 w110) := ⟨by rw [← hq_]; exact bB⟩; clear hq_)); have hnb111 := NB238_234.out; have hnc111 := NB234_238.out; have hnb112 := NB238_235.out; have hnc112 := NB235_238.out; have hnb113 := NB238_0.out; have hnc113 := NB0_238.out; obtain ⟨hcz114_0, hcz114_1, hcz114_2, hcz114_3, hcz114_4, hcz114_5⟩ := cZ6 BK238.out; obtain ⟨hfz114_0, hfz114_1, hfz114_2, hfz114_3, hfz114_4, hfz114_5⟩ := fZ6 BK238.out) | ((with_reducible refine gate_callee (f := 28) rfl ?_); refine gL (some 89) Tryd.func28 #[.pointer (some ⟨g, 0, none⟩)] ?_; (with_reducible refine (script_reader_next.calls g s0_0 t271 t273 t274 w0 _ ?side1 ?side2 A107.out).mono ?_); (case side1 => exact bI HI0.out); (case side2 => exact bB); rintro e w115 ⟨rfl, hi, hb, hk⟩; refine ⟨_, rfl, ?_⟩; replace BK234 := Aside0.mk (KeepBut.blk hk (g' := gb234) (o := .cells #[.int .i64 a1_0, .slice A1_1 l1_1.length c1_1, .slice A1_2 l1_2.length c1_2, .slice A1_3 l1_3.length c1_3] 28 (0, 0)) (bw BK234.out) NB234_0.out (by simp)); replace BK235 := Aside0.mk (KeepBut.blk hk (g' := gb235) (o := .cells #[.int .i64 0, .int .i64 0, .int .i64 0, .bool false, .int .u64 0, .slice none 0 0] 39 (0, 0)) (bw BK235.out) NB235_0.out (by simp)); replace BK238 := Aside0.mk (KeepBut.blk hk (g' := gb238) (o := .cells #[.int .i64 (Int.tmod t236 7), .int .i64 (Int.tmod t268 4), .int .i64 0, .bool false, .int .u64 t272, .slice none 0 0] 39 (0, 0)) (by refine bW ?_; refine blk_put (cs := #[.int .i64 (Int.tmod t236 7), .int .i64 (Int.tmod t268 4), .int .i64 0, .bool false, .int .u64 0, .slice none 0 0]) ?_ 4 _ rfl; refine bW ?_; refine blk_put (cs := #[.int .i64 (Int.tmod t236 7), .int .i64 0, .int .i64 0, .bool false, .int .u64 0, .slice none 0 0]) ?_ 1 _ rfl; exact bw BK238.out) NB238_0.out (by simp)); replace HK := Aside0.mk (KeepBut.trans bK hk (.inl rfl)); replace HB := Aside0.mk (hb); replace HI0 := Aside0.mk (hi); (try clear hb); (try clear hb2); (try clear hk); (try clear hi)) | ((with_reducible refine gate_callee (f := 31) rfl ?_); refine gL (some 91) Tryd.func31 #[.pointer (some ⟨g, 0, none⟩), .int .i64 (Int.tmod t273 3)] ?_; (with_reducible refine (script_reader_some.calls kj41 g s0_0 t274 (Int.tmod t273 3) t275 t278 w0 _ ?side1 ?side2 A108.out).mono ?_); (case side1 => exact bI HI0.out); (case side2 => exact bB); rintro e w116 ⟨v276, rfl, ho0, hi, hb, hk⟩; refine ⟨_, rfl, ?_⟩; replace BK234 := Aside0.mk (KeepBut.blk hk (g' := gb234) (o := .cells #[.int .i64 a1_0, .slice A1_1 l1_1.length c1_1, .slice A1_2 l1_2.length c1_2, .slice A1_3 l1_3.length c1_3] 28 (0, 0)) (bw BK234.out) NB234_0.out (by simp)); replace BK235 := Aside0.mk (KeepBut.blk hk (g' := gb235) (o := .cells #[.int .i64 0, .int .i64 0, .int .i64 0, .bool false, .int .u64 0, .slice none 0 0] 39 (0, 0)) (bw BK235.out) NB235_0.out (by simp)); replace BK238 := Aside0.mk (KeepBut.blk hk (g' := gb238) (o := .cells #[.int .i64 (Int.tmod t236 7), .int .i64 (Int.tmod t268 4), .int .i64 0, .bool false, .int .u64 t272, .slice none 0 0] 39 (0, 0)) (bw BK238.out) NB238_0.out (by simp)); have HO277 := Aside0.mk (Kd.R_lower ho0 (keep_size (w := w) (g := g) (row := none) bK)); replace HK := Aside0.mk (KeepBut.trans bK hk (.inl rfl)); replace HB := Aside0.mk (hb); replace HI0 := Aside0.mk (hi); (try clear hb); (try clear hb2); (try clear hk); (try clear hi); (try clear ho0); obtain ⟨Ao117, co117, eo117⟩ := Kd.R_slice HO277.out; subst eo117; obtain ⟨hcz118_0, hcz118_1, hcz118_2, hcz118_3, hcz118_4, hcz118_5⟩ := cZ6 BK238.out; obtain ⟨hfz118_0, hfz118_1, hfz118_2, hfz118_3, hfz118_4, hfz118_5⟩ := fZ6 BK238.out; have hnb119 := NB235_234.out; have hnc119 := NB234_235.out; have hnb120 := NB235_0.out; have hnc120 := NB0_235.out; obtain ⟨hcz121_0, hcz121_1, hcz121_2, hcz121_3, hcz121_4, hcz121_5⟩ := cZ6 BK235.out; obtain ⟨hfz121_0, hfz121_1, hfz121_2, hfz121_3, hfz121_4, hfz121_5⟩ := fZ6 BK235.out) | (go_at_call 28; (with_reducible refine (script_reader_next.calls g s0_0 t237 t268 t269 w0 _ ?side1 ?side2 A104.out).mono ?_); (case side1 => exact bI HI0.out); (case side2 => exact bB); rintro e w109 ⟨rfl, hi, hb, hk⟩; replace BK234 := Aside0.mk (KeepBut.blk hk (g' := gb234) (o := .cells #[.int .i64 a1_0, .slice A1_1 l1_1.length c1_1, .slice A1_2 l1_2.length c1_2, .slice A1_3 l1_3.length c1_3] 28 (0, 0)) (bw BK234.out) NB234_0.out (by simp)); replace BK235 := Aside0.mk (KeepBut.blk hk (g' := gb235) (o := .cells #[.int .i64 0, .int .i64 0, .int .i64 0, .bool false, .int .u64 0, .slice none 0 0] 39 (0, 0)) (bw BK235.out) NB235_0.out (by simp)); replace BK238 := Aside0.mk (KeepBut.blk hk (g' := gb238) (o := .cells #[.int .i64 (Int.tmod t236 7), .int .i64 0, .int .i64 0, .bool false, .int .u64 0, .slice none 0 0] 39 (0, 0)) (bw BK238.out) NB238_0.out (by simp)); replace HK := Aside0.mk (KeepBut.trans bK hk (.inl rfl)); replace HB := Aside0.mk (hb); replace HI0 := Aside0.mk (hi); (try clear hb); (try clear hb2); (try clear hk); (try clear hi)) | (go_at_call 28; (with_reducible refine (script_reader_next.calls g s0_0 t269 t270 t271 w0 _ ?side1 ?side2 A105.out).mono ?_); (case side1 => exact bI HI0.out); (case side2 => exact bB); rintro e w110 ⟨rfl, hi, hb, hk⟩; replace BK234 := Aside0.mk (KeepBut.blk hk (g' := gb234) (o := .cells #[.int .i64 a1_0, .slice A1_1 l1_1.length c1_1, .slice A1_2 l1_2.length c1_2, .slice A1_3 l1_3.length c1_3] 28 (0, 0)) (bw BK234.out) NB234_0.out (by simp)); replace BK235 := Aside0.mk (KeepBut.blk hk (g' := gb235) (o := .cells #[.int .i64 0, .int .i64 0, .int .i64 0, .bool false, .int .u64 0, .slice none 0 0] 39 (0, 0)) (bw BK235.out) NB235_0.out (by simp)); replace BK238 := Aside0.mk (KeepBut.blk hk (g' := gb238) (o := .cells #[.int .i64 (Int.tmod t236 7), .int .i64 0, .int .i64 0, .bool false, .int .u64 0, .slice none 0 0] 39 (0, 0)) (bw BK238.out) NB238_0.out (by simp)); replace HK := Aside0.mk (KeepBut.trans bK hk (.inl rfl)); replace HB := Aside0.mk (hb); replace HI0 := Aside0.mk (hi); (try clear hb); (try clear hb2); (try clear hk); (try clear hi)) | (go_at_call 34; (with_reducible refine (script_to.calls t270 t272 _ A106.out).mono ?_); rintro e w' ⟨rfl, ⟨nd, rfl⟩⟩; (try (rw [drewN_self w110]; generalize hq_ : World.drewN w110 _ = w110; replace BK234 : Aside0 (w110.heap[gb234]? = some (.cells #[.int .i64 a1_0, .slice A1_1 l1_1.length c1_1, .slice A1_2 l1_2.length c1_2, .slice A1_3 l1_3.length c1_3] 28 (0, 0))) := ⟨by rw [← hq_]; exact (bw BK234.out)⟩; replace BK235 : Aside0 (w110.heap[gb235]? = some (.cells #[.int .i64 0, .int .i64 0, .int .i64 0, .bool false, .int .u64 0, .slice none 0 0] 39 (0, 0))) := ⟨by rw [← hq_]; exact (bw BK235.out)⟩; replace BK238 : Aside0 (w110.heap[gb238]? = some (.cells #[.int .i64 (Int.tmod t236 7), .int .i64 0, .int .i64 0, .bool false, .int .u64 0, .slice none 0 0] 39 (0, 0))) := ⟨by rw [← hq_]; exact (bw BK238.out)⟩; replace HI0 : Aside0 (IsS54 w0 w110 g s0_0 t271) := ⟨by rw [← hq_]; exact (bI HI0.out)⟩; replace HK : Aside0 (KeepBut w w110 g none) := ⟨by rw [← hq_]; exact bK⟩; replace HB : Aside0 (Below w0.heap.size w0 w110) := ⟨by rw [← hq_]; exact bB⟩; clear hq_)); have hnb111 := NB238_234.out; have hnc111 := NB234_238.out; have hnb112 := NB238_235.out; have hnc112 := NB235_238.out; have hnb113 := NB238_0.out; have hnc113 := NB0_238.out; obtain ⟨hcz114_0, hcz114_1, hcz114_2, hcz114_3, hcz114_4, hcz114_5⟩ := cZ6 BK238.out; obtain ⟨hfz114_0, hfz114_1, hfz114_2, hfz114_3, hfz114_4, hfz114_5⟩ := fZ6 BK238.out) | (go_at_call 28; (with_reducible refine (script_reader_next.calls g s0_0 t271 t273 t274 w0 _ ?side1 ?side2 A107.out).mono ?_); (case side1 => exact bI HI0.out); (case side2 => exact bB); rintro e w115 ⟨rfl, hi, hb, hk⟩; replace BK234 := Aside0.mk (KeepBut.blk hk (g' := gb234) (o := .cells #[.int .i64 a1_0, .slice A1_1 l1_1.length c1_1, .slice A1_2 l1_2.length c1_2, .slice A1_3 l1_3.length c1_3] 28 (0, 0)) (bw BK234.out) NB234_0.out (by simp)); replace BK235 := Aside0.mk (KeepBut.blk hk (g' := gb235) (o := .cells #[.int .i64 0, .int .i64 0, .int .i64 0, .bool false, .int .u64 0, .slice none 0 0] 39 (0, 0)) (bw BK235.out) NB235_0.out (by simp)); replace BK238 := Aside0.mk (KeepBut.blk hk (g' := gb238) (o := .cells #[.int .i64 (Int.tmod t236 7), .int .i64 (Int.tmod t268 4), .int .i64 0, .bool false, .int .u64 t272, .slice none 0 0] 39 (0, 0)) (by refine bW ?_; refine blk_put (cs := #[.int .i64 (Int.tmod t236 7), .int .i64 (Int.tmod t268 4), .int .i64 0, .bool false, .int .u64 0, .slice none 0 0]) ?_ 4 _ rfl; refine bW ?_; refine blk_put (cs := #[.int .i64 (Int.tmod t236 7), .int .i64 0, .int .i64 0, .bool false, .int .u64 0, .slice none 0 0]) ?_ 1 _ rfl; exact bw BK238.out) NB238_0.out (by simp)); replace HK := Aside0.mk (KeepBut.trans bK hk (.inl rfl)); replace HB := Aside0.mk (hb); replace HI0 := Aside0.mk (hi); (try clear hb); (try clear hb2); (try clear hk); (try clear hi)) | (go_at_call 31; (with_reducible refine (script_reader_some.calls kj41 g s0_0 t274 (Int.tmod t273 3) t275 t278 w0 _ ?side1 ?side2 A108.out).mono ?_); (case side1 => exact bI HI0.out); (case side2 => exact bB); rintro e w116 ⟨v276, rfl, ho0, hi, hb, hk⟩; replace BK234 := Aside0.mk (KeepBut.blk hk (g' := gb234) (o := .cells #[.int .i64 a1_0, .slice A1_1 l1_1.length c1_1, .slice A1_2 l1_2.length c1_2, .slice A1_3 l1_3.length c1_3] 28 (0, 0)) (bw BK234.out) NB234_0.out (by simp)); replace BK235 := Aside0.mk (KeepBut.blk hk (g' := gb235) (o := .cells #[.int .i64 0, .int .i64 0, .int .i64 0, .bool false, .int .u64 0, .slice none 0 0] 39 (0, 0)) (bw BK235.out) NB235_0.out (by simp)); replace BK238 := Aside0.mk (KeepBut.blk hk (g' := gb238) (o := .cells #[.int .i64 (Int.tmod t236 7), .int .i64 (Int.tmod t268 4), .int .i64 0, .bool false, .int .u64 t272, .slice none 0 0] 39 (0, 0)) (bw BK238.out) NB238_0.out (by simp)); have HO277 := Aside0.mk (Kd.R_lower ho0 (keep_size (w := w) (g := g) (row := none) bK)); replace HK := Aside0.mk (KeepBut.trans bK hk (.inl rfl)); replace HB := Aside0.mk (hb); replace HI0 := Aside0.mk (hi); (try clear hb); (try clear hb2); (try clear hk); (try clear hi); (try clear ho0); obtain ⟨Ao117, co117, eo117⟩ := Kd.R_slice HO277.out; subst eo117; obtain ⟨hcz118_0, hcz118_1, hcz118_2, hcz118_3, hcz118_4, hcz118_5⟩ := cZ6 BK238.out; obtain ⟨hfz118_0, hfz118_1, hfz118_2, hfz118_3, hfz118_4, hfz118_5⟩ := fZ6 BK238.out; have hnb119 := NB235_234.out; have hnc119 := NB234_235.out; have hnb120 := NB235_0.out; have hnc120 := NB0_235.out; obtain ⟨hcz121_0, hcz121_1, hcz121_2, hcz121_3, hcz121_4, hcz121_5⟩ := cZ6 BK235.out; obtain ⟨hfz121_0, hfz121_1, hfz121_2, hfz121_3, hfz121_4, hfz121_5⟩ := fZ6 BK235.out))
  refine bodyPost_ret (results_cell_row rfl _ _ gb235 39 #[.int .i64 (Int.tmod t236 7), .int .i64 (Int.tmod t268 4), .int .i64 0, .bool false, .int .u64 t272, .slice Ao117 t275.length co117] (0, 0) _ rfl (by refine bW ?_; refine blk_put (cs := #[.int .i64 (Int.tmod t236 7), .int .i64 (Int.tmod t268 4), .int .i64 0, .bool false, .int .u64 t272, .slice none 0 0]) ?_ 5 _ rfl; refine bW ?_; refine blk_put (cs := #[.int .i64 (Int.tmod t236 7), .int .i64 (Int.tmod t268 4), .int .i64 0, .bool false, .int .u64 0, .slice none 0 0]) ?_ 4 _ rfl; refine bW ?_; refine blk_put (cs := #[.int .i64 (Int.tmod t236 7), .int .i64 (Int.tmod t268 4), .int .i64 0, .bool false, .int .u64 0, .slice none 0 0]) ?_ 3 _ rfl; refine bW ?_; refine blk_put (cs := #[.int .i64 (Int.tmod t236 7), .int .i64 (Int.tmod t268 4), .int .i64 0, .bool false, .int .u64 0, .slice none 0 0]) ?_ 2 _ rfl; refine bW ?_; refine blk_put (cs := #[.int .i64 (Int.tmod t236 7), .int .i64 0, .int .i64 0, .bool false, .int .u64 0, .slice none 0 0]) ?_ 1 _ rfl; refine bW ?_; refine blk_put (cs := #[.int .i64 0, .int .i64 0, .int .i64 0, .bool false, .int .u64 0, .slice none 0 0]) ?_ 0 _ rfl; refine bW ?_; refine blk_far ?_ NB235_238.out _; exact bw BK235.out) Tryd.underlying39 rfl (by kernel_rfl)) rfl ?_
  exact ⟨_, by first | rfl | (simp [errW_none, errW_some] <;> rfl) | (simp [*, errW_none, errW_some] <;> rfl), by refine bN ?_; exact Kd.R_mono (Rfar6 (Kd.R_far (p := ⟨gb238, 5, none⟩) (Kd.R_types (Kd.R_types HO277.out BK238.out (by decide)) BK235.out (by decide)) (fun _ hk => hk.1.2) (.slice Ao117 t275.length co117)) (fun _ hk => hk.2)) (fun _ hk => trivial), by exact bI HI0.out, by exact bB, by exact bK⟩
 rw [if_pos c60] at H
 have c60b0 : ((Int.tmod t236 7) == 3) = true := beq_iff_eq.mpr c60
 have c60b1 : ((Int.tmod t236 7) != 3) = false := bne_eq_false_iff_eq.mpr c60
 clear c60
 replace H := Option.bind_eq_some_iff.mp H
 obtain ⟨⟨t249, t250⟩, A610, H⟩ := H
 (try dsimp only at H)
 have A61 := Aside0.mk A610
 clear A610
 by_cases c62 : a1_0 = 0
 ·rw [if_pos c62] at H
  exact absurd H (by simp)
 rw [if_neg c62] at H
 have c62b0 : (a1_0 == 0) = false := beq_eq_false_iff_ne.mpr c62
 have c62b1 : (a1_0 != 0) = true := bne_iff_ne.mpr c62
 replace H := Option.bind_eq_some_iff.mp H
 obtain ⟨⟨t251, t252⟩, A630, H⟩ := H
 (try dsimp only at H)
 have A63 := Aside0.mk A630
 clear A630
 replace H := Option.bind_eq_some_iff.mp H
 obtain ⟨⟨t253, t256⟩, A640, H⟩ := H
 (try dsimp only at H)
 have A64 := Aside0.mk A640
 clear A640
 by_cases c65 : t236 < 128
 rotate_left
 ·rw [if_neg c65] at H
  have c65b0 : decide (t236 < 128) = false := decide_eq_false c65
  clear c65
  simp only [Option.some.injEq, Prod.mk.injEq] at H
  obtain ⟨rfl, rfl, rfl, rfl, rfl, rfl, rfl⟩ := H
  try go_wp2
  replace BK234 := Aside0.mk (blk_drew BK234.out)
  replace BK235 := Aside0.mk (blk_drew BK235.out)
  replace BK238 := Aside0.mk (blk_drew BK238.out)
  replace HI0 := Aside0.mk (IsS54.drew HI0.out)
  replace HK := Aside0.mk (keep_drew HK.out)
  replace HB := Aside0.mk (below_drew1 HB.out)
  refine start_ (n := 7) (S := fun w' => w'.cell? ⟨gb234, 0, none⟩ = some (.int .i64 a1_0) ∧ w'.cell? ⟨gb234, 1, none⟩ = some (.slice A1_1 l1_1.length c1_1) ∧ w'.cell? ⟨gb234, 2, none⟩ = some (.slice A1_2 l1_2.length c1_2) ∧ w'.cell? ⟨gb234, 3, none⟩ = some (.slice A1_3 l1_3.length c1_3)) (ds := []) #[false, false, false, false, false, false, false] (by kernel_rfl) rfl rfl ⟨(blk_cell BK234.out 0).trans rfl, (blk_cell BK234.out 1).trans rfl, (blk_cell BK234.out 2).trans rfl, (blk_cell BK234.out 3).trans rfl⟩ (fun hHeld => ?_)
  generalize wc.drew = w90 at BK234 BK235 BK238 HI0 HK HB hHeld ⊢
  refine pure_ (i := 0) (N := some 54) (v := ?_) (a' := ?_) #[true, false, false, false, false, false, false] rfl rfl (by kernel_rfl) (fun _ _ _ h => h) (Or.inl ⟨by rfl, ?_⟩) ?_ ?_
  rotate_left
  ·intro w'
   go_simp
   with_reducible rfl
  rotate_left
  ·simp only [Act.put, List.setIfInBounds_toArray, List.set_cons_zero, List.set_cons_succ, i64_w, i32_w]
   rfl
  refine pure_ (i := 2) (N := some 56) (v := ?_) (a' := ?_) #[true, false, true, false, false, false, false] rfl rfl (by kernel_rfl) (fun _ _ _ h => h) (Or.inl ⟨by rfl, ?_⟩) ?_ ?_
  rotate_left
  ·intro w'
   go_simp
   with_reducible rfl
  rotate_left
  ·simp only [Act.put, List.setIfInBounds_toArray, List.set_cons_zero, List.set_cons_succ, i64_w, i32_w]
   rfl
  refine take_ (i := 3) (N := some 57) (v := ?_) (a' := ?_) #[true, false, true, true, false, false, false] rfl rfl (by kernel_rfl) (fun _ _ _ h => h) (Or.inl ⟨by rfl, ?_⟩) hHeld ?_ ?_
  rotate_left
  ·rintro w' ⟨s0, s1, s2, s3⟩
   go_simp
   with_reducible rfl
  rotate_left
  ·simp only [Act.put, List.setIfInBounds_toArray, List.set_cons_zero, List.set_cons_succ, i64_w, i32_w]
   rfl
  refine one_ (i := 1) (N := some 55) #[true, true, true, true, false, false, false] rfl rfl (by kernel_rfl) (by decide) (fun K hK => ?_)
  refine goes_ Tryd.func28 (by kernel_rfl) rfl #[.pointer (some ⟨g, 0, none⟩)] (by rfl) rfl rfl (by (try simp only [List.map_toArray, List.map_cons, List.map_nil]); first | done | rfl | (simp only [List.length_drop, List.length_take]; rfl)) ?_
  with_reducible refine (script_reader_next.calls g s0_0 t237 t249 t250 w0 _ ?side1 ?side2 A61.out).mono ?_
  (case side1 => exact bI HI0.out)
  (case side2 => exact bB)
  rintro e w91 ⟨rfl, hi, hb, hk⟩
  refine ⟨_, rfl, ?_⟩
  replace BK234 := Aside0.mk (KeepBut.blk hk (g' := gb234) (o := .cells #[.int .i64 a1_0, .slice A1_1 l1_1.length c1_1, .slice A1_2 l1_2.length c1_2, .slice A1_3 l1_3.length c1_3] 28 (0, 0)) (bw BK234.out) NB234_0.out (by simp))
  replace BK235 := Aside0.mk (KeepBut.blk hk (g' := gb235) (o := .cells #[.int .i64 0, .int .i64 0, .int .i64 0, .bool false, .int .u64 0, .slice none 0 0] 39 (0, 0)) (bw BK235.out) NB235_0.out (by simp))
  replace BK238 := Aside0.mk (KeepBut.blk hk (g' := gb238) (o := .cells #[.int .i64 (Int.tmod t236 7), .int .i64 0, .int .i64 0, .bool false, .int .u64 0, .slice none 0 0] 39 (0, 0)) (bw BK238.out) NB238_0.out (by simp))
  replace HK := Aside0.mk (KeepBut.trans bK hk (.inl rfl))
  replace HB := Aside0.mk (hb)
  replace HI0 := Aside0.mk (hi)
  (try clear hb)
  (try clear hb2)
  (try clear hk)
  (try clear hi)
  refine hK.out _ _ ⟨(blk_cell BK234.out 0).trans rfl, (blk_cell BK234.out 1).trans rfl, (blk_cell BK234.out 2).trans rfl, (blk_cell BK234.out 3).trans rfl⟩ (fun hHeld => ?_)
  clear hK K
  refine nS 55 ?_
  refine pure_ (i := 4) (N := some 58) (v := ?_) (a' := ?_) #[true, true, true, true, true, false, false] rfl rfl (by kernel_rfl) (fun _ _ _ h => h) (Or.inl ⟨by rfl, ?_⟩) ?_ ?_
  rotate_left
  ·intro w'
   go_simp
   with_reducible rfl
  rotate_left
  ·simp only [Act.put, List.setIfInBounds_toArray, List.set_cons_zero, List.set_cons_succ, i64_w, i32_w]
   rfl
  refine pure_ (i := 5) (N := some 59) (v := ?_) (a' := ?_) #[true, true, true, true, true, true, false] rfl rfl (by kernel_rfl) (fun _ _ _ h => h) (Or.inl ⟨by rfl, ?_⟩) ?_ ?_
  rotate_left
  ·intro w'
   go_simp
   with_reducible rfl
  rotate_left
  ·simp only [Act.put, List.setIfInBounds_toArray, List.set_cons_zero, List.set_cons_succ, i64_w, i32_w]
   rfl
  refine one_ (i := 6) (N := none) #[true, true, true, true, true, true, true] rfl rfl (by kernel_rfl) (by decide) (fun K hK => ?_)
  have hs92 : w91.cell? ⟨gb238, 1, none⟩ = some (.int .i64 0) := (blk_cell BK238.out 1).trans rfl
  have hfs92 := blk_frozen BK238.out 1
  have hns92_0 := NB234_238.out
  have hns92_1 := NB235_238.out
  have hms92_0 := NB238_234.out
  have hms92_1 := NB238_235.out
  refine skip_ (w1 := ?_) (by rfl) rfl ?_ ?_
  rotate_left
  ·go_simp
   rfl
  refine hK.out _ _ ⟨((cell_far (p := ⟨gb238, _, none⟩) NB234_238.out _).trans (hHeld.1)), ((cell_far (p := ⟨gb238, _, none⟩) NB234_238.out _).trans (hHeld.2.1)), ((cell_far (p := ⟨gb238, _, none⟩) NB234_238.out _).trans (hHeld.2.2.1)), ((cell_far (p := ⟨gb238, _, none⟩) NB234_238.out _).trans (hHeld.2.2.2))⟩ (fun hHeld => ?_)
  clear hK K
  refine done_ (by kernel_rfl) ?_
  try go_wp2_with (first | ((with_reducible refine gate_callee (f := 28) rfl ?_); refine gL (some 62) Tryd.func28 #[.pointer (some ⟨g, 0, none⟩)] ?_; (with_reducible refine (script_reader_next.calls g s0_0 t250 t251 t252 w0 _ ?side1 ?side2 A63.out).mono ?_); (case side1 => exact bI HI0.out); (case side2 => exact bB); rintro e w93 ⟨rfl, hi, hb, hk⟩; refine ⟨_, rfl, ?_⟩; replace BK234 := Aside0.mk (KeepBut.blk hk (g' := gb234) (o := .cells #[.int .i64 a1_0, .slice A1_1 l1_1.length c1_1, .slice A1_2 l1_2.length c1_2, .slice A1_3 l1_3.length c1_3] 28 (0, 0)) (bw BK234.out) NB234_0.out (by simp)); replace BK235 := Aside0.mk (KeepBut.blk hk (g' := gb235) (o := .cells #[.int .i64 0, .int .i64 0, .int .i64 0, .bool false, .int .u64 0, .slice none 0 0] 39 (0, 0)) (bw BK235.out) NB235_0.out (by simp)); replace BK238 := Aside0.mk (KeepBut.blk hk (g' := gb238) (o := .cells #[.int .i64 (Int.tmod t236 7), .int .i64 (Int.tmod t249 a1_0), .int .i64 0, .bool false, .int .u64 0, .slice none 0 0] 39 (0, 0)) (by refine bW ?_; refine blk_put (cs := #[.int .i64 (Int.tmod t236 7), .int .i64 0, .int .i64 0, .bool false, .int .u64 0, .slice none 0 0]) ?_ 1 _ rfl; exact bw BK238.out) NB238_0.out (by simp)); replace HK := Aside0.mk (KeepBut.trans bK hk (.inl rfl)); replace HB := Aside0.mk (hb); replace HI0 := Aside0.mk (hi); (try clear hb); (try clear hb2); (try clear hk); (try clear hi)) | ((with_reducible refine gate_callee (f := 31) rfl ?_); refine gL (some 64) Tryd.func31 #[.pointer (some ⟨g, 0, none⟩), .int .i64 (Int.tmod t251 60)] ?_; (with_reducible refine (script_reader_some.calls kj41 g s0_0 t252 (Int.tmod t251 60) t253 t256 w0 _ ?side1 ?side2 A64.out).mono ?_); (case side1 => exact bI HI0.out); (case side2 => exact bB); rintro e w94 ⟨v254, rfl, ho0, hi, hb, hk⟩; refine ⟨_, rfl, ?_⟩; replace BK234 := Aside0.mk (KeepBut.blk hk (g' := gb234) (o := .cells #[.int .i64 a1_0, .slice A1_1 l1_1.length c1_1, .slice A1_2 l1_2.length c1_2, .slice A1_3 l1_3.length c1_3] 28 (0, 0)) (bw BK234.out) NB234_0.out (by simp)); replace BK235 := Aside0.mk (KeepBut.blk hk (g' := gb235) (o := .cells #[.int .i64 0, .int .i64 0, .int .i64 0, .bool false, .int .u64 0, .slice none 0 0] 39 (0, 0)) (bw BK235.out) NB235_0.out (by simp)); replace BK238 := Aside0.mk (KeepBut.blk hk (g' := gb238) (o := .cells #[.int .i64 (Int.tmod t236 7), .int .i64 (Int.tmod t249 a1_0), .int .i64 0, .bool false, .int .u64 0, .slice none 0 0] 39 (0, 0)) (bw BK238.out) NB238_0.out (by simp)); have HO255 := Aside0.mk (Kd.R_lower ho0 (keep_size (w := w) (g := g) (row := none) bK)); replace HK := Aside0.mk (KeepBut.trans bK hk (.inl rfl)); replace HB := Aside0.mk (hb); replace HI0 := Aside0.mk (hi); (try clear hb); (try clear hb2); (try clear hk); (try clear hi); (try clear ho0); obtain ⟨Ao95, co95, eo95⟩ := Kd.R_slice HO255.out; subst eo95; have hnb96 := NB238_234.out; have hnc96 := NB234_238.out; have hnb97 := NB238_235.out; have hnc97 := NB235_238.out; have hnb98 := NB238_0.out; have hnc98 := NB0_238.out; obtain ⟨hcz99_0, hcz99_1, hcz99_2, hcz99_3, hcz99_4, hcz99_5⟩ := cZ6 BK238.out; obtain ⟨hfz99_0, hfz99_1, hfz99_2, hfz99_3, hfz99_4, hfz99_5⟩ := fZ6 BK238.out; have hnb100 := NB235_234.out; have hnc100 := NB234_235.out; have hnb101 := NB235_0.out; have hnc101 := NB0_235.out; obtain ⟨hcz102_0, hcz102_1, hcz102_2, hcz102_3, hcz102_4, hcz102_5⟩ := cZ6 BK235.out; obtain ⟨hfz102_0, hfz102_1, hfz102_2, hfz102_3, hfz102_4, hfz102_5⟩ := fZ6 BK235.out))
  refine bodyPost_ret (results_cell_row rfl _ _ gb235 39 #[.int .i64 (Int.tmod t236 7), .int .i64 (Int.tmod t249 a1_0), .int .i64 0, .bool false, .int .u64 0, .slice Ao95 t253.length co95] (0, 0) _ rfl (by refine bW ?_; refine blk_put (cs := #[.int .i64 (Int.tmod t236 7), .int .i64 (Int.tmod t249 a1_0), .int .i64 0, .bool false, .int .u64 0, .slice none 0 0]) ?_ 5 _ rfl; refine bW ?_; refine blk_put (cs := #[.int .i64 (Int.tmod t236 7), .int .i64 (Int.tmod t249 a1_0), .int .i64 0, .bool false, .int .u64 0, .slice none 0 0]) ?_ 4 _ rfl; refine bW ?_; refine blk_put (cs := #[.int .i64 (Int.tmod t236 7), .int .i64 (Int.tmod t249 a1_0), .int .i64 0, .bool false, .int .u64 0, .slice none 0 0]) ?_ 3 _ rfl; refine bW ?_; refine blk_put (cs := #[.int .i64 (Int.tmod t236 7), .int .i64 (Int.tmod t249 a1_0), .int .i64 0, .bool false, .int .u64 0, .slice none 0 0]) ?_ 2 _ rfl; refine bW ?_; refine blk_put (cs := #[.int .i64 (Int.tmod t236 7), .int .i64 0, .int .i64 0, .bool false, .int .u64 0, .slice none 0 0]) ?_ 1 _ rfl; refine bW ?_; refine blk_put (cs := #[.int .i64 0, .int .i64 0, .int .i64 0, .bool false, .int .u64 0, .slice none 0 0]) ?_ 0 _ rfl; refine bW ?_; refine blk_far ?_ NB235_238.out _; exact bw BK235.out) Tryd.underlying39 rfl (by kernel_rfl)) rfl ?_
  exact ⟨_, by first | rfl | (simp [errW_none, errW_some] <;> rfl) | (simp [*, errW_none, errW_some] <;> rfl), by refine bN ?_; exact Kd.R_mono (Rfar6 (Kd.R_far (p := ⟨gb238, 5, none⟩) (Kd.R_types (Kd.R_types HO255.out BK238.out (by decide)) BK235.out (by decide)) (fun _ hk => hk.1.2) (.slice Ao95 t253.length co95)) (fun _ hk => hk.2)) (fun _ hk => trivial), by exact bI HI0.out, by exact bB, by exact bK⟩
 rw [if_pos c65] at H
 have c65b0 : decide (t236 < 128) = true := decide_eq_true c65
 clear c65
 replace H := Option.bind_eq_some_iff.mp H
 obtain ⟨t257, A660, H⟩ := H
 (try dsimp only at H)
 have A66 := Aside0.mk A660
 clear A660
 replace H := Option.bind_eq_some_iff.mp H
 obtain ⟨⟨t258, t259, t260, t261⟩, A670, H⟩ := H
 (try dsimp only at H)
 have A67 := Aside0.mk A670
 clear A670
 replace H := Option.bind_eq_some_iff.mp H
 obtain ⟨⟨t264, t267⟩, A680, H⟩ := H
 (try dsimp only at H)
 have A68 := Aside0.mk A680
 clear A680
 simp only [Option.some.injEq, Prod.mk.injEq] at H
 obtain ⟨rfl, rfl, rfl, rfl, rfl, rfl, rfl⟩ := H
 try go_wp2
 replace BK234 := Aside0.mk (blk_drew BK234.out)
 replace BK235 := Aside0.mk (blk_drew BK235.out)
 replace BK238 := Aside0.mk (blk_drew BK238.out)
 replace HI0 := Aside0.mk (IsS54.drew HI0.out)
 replace HK := Aside0.mk (keep_drew HK.out)
 replace HB := Aside0.mk (below_drew1 HB.out)
 refine start_ (n := 7) (S := fun w' => w'.cell? ⟨gb234, 0, none⟩ = some (.int .i64 a1_0) ∧ w'.cell? ⟨gb234, 1, none⟩ = some (.slice A1_1 l1_1.length c1_1) ∧ w'.cell? ⟨gb234, 2, none⟩ = some (.slice A1_2 l1_2.length c1_2) ∧ w'.cell? ⟨gb234, 3, none⟩ = some (.slice A1_3 l1_3.length c1_3)) (ds := []) #[false, false, false, false, false, false, false] (by kernel_rfl) rfl rfl ⟨(blk_cell BK234.out 0).trans rfl, (blk_cell BK234.out 1).trans rfl, (blk_cell BK234.out 2).trans rfl, (blk_cell BK234.out 3).trans rfl⟩ (fun hHeld => ?_)
 generalize wc.drew = w69 at BK234 BK235 BK238 HI0 HK HB hHeld ⊢
 refine pure_ (i := 0) (N := some 54) (v := ?_) (a' := ?_) #[true, false, false, false, false, false, false] rfl rfl (by kernel_rfl) (fun _ _ _ h => h) (Or.inl ⟨by rfl, ?_⟩) ?_ ?_
 rotate_left
 ·intro w'
  go_simp
  with_reducible rfl
 rotate_left
 ·simp only [Act.put, List.setIfInBounds_toArray, List.set_cons_zero, List.set_cons_succ, i64_w, i32_w]
  rfl
 refine pure_ (i := 2) (N := some 56) (v := ?_) (a' := ?_) #[true, false, true, false, false, false, false] rfl rfl (by kernel_rfl) (fun _ _ _ h => h) (Or.inl ⟨by rfl, ?_⟩) ?_ ?_
 rotate_left
 ·intro w'
  go_simp
  with_reducible rfl
 rotate_left
 ·simp only [Act.put, List.setIfInBounds_toArray, List.set_cons_zero, List.set_cons_succ, i64_w, i32_w]
  rfl
 refine take_ (i := 3) (N := some 57) (v := ?_) (a' := ?_) #[true, false, true, true, false, false, false] rfl rfl (by kernel_rfl) (fun _ _ _ h => h) (Or.inl ⟨by rfl, ?_⟩) hHeld ?_ ?_
 rotate_left
 ·rintro w' ⟨s0, s1, s2, s3⟩
  go_simp
  with_reducible rfl
 rotate_left
 ·simp only [Act.put, List.setIfInBounds_toArray, List.set_cons_zero, List.set_cons_succ, i64_w, i32_w]
  rfl
 refine one_ (i := 1) (N := some 55) #[true, true, true, true, false, false, false] rfl rfl (by kernel_rfl) (by decide) (fun K hK => ?_)
 refine goes_ Tryd.func28 (by kernel_rfl) rfl #[.pointer (some ⟨g, 0, none⟩)] (by rfl) rfl rfl (by (try simp only [List.map_toArray, List.map_cons, List.map_nil]); first | done | rfl | (simp only [List.length_drop, List.length_take]; rfl)) ?_
 with_reducible refine (script_reader_next.calls g s0_0 t237 t249 t250 w0 _ ?side1 ?side2 A61.out).mono ?_
 (case side1 => exact bI HI0.out)
 (case side2 => exact bB)
 rintro e w70 ⟨rfl, hi, hb, hk⟩
 refine ⟨_, rfl, ?_⟩
 replace BK234 := Aside0.mk (KeepBut.blk hk (g' := gb234) (o := .cells #[.int .i64 a1_0, .slice A1_1 l1_1.length c1_1, .slice A1_2 l1_2.length c1_2, .slice A1_3 l1_3.length c1_3] 28 (0, 0)) (bw BK234.out) NB234_0.out (by simp))
 replace BK235 := Aside0.mk (KeepBut.blk hk (g' := gb235) (o := .cells #[.int .i64 0, .int .i64 0, .int .i64 0, .bool false, .int .u64 0, .slice none 0 0] 39 (0, 0)) (bw BK235.out) NB235_0.out (by simp))
 replace BK238 := Aside0.mk (KeepBut.blk hk (g' := gb238) (o := .cells #[.int .i64 (Int.tmod t236 7), .int .i64 0, .int .i64 0, .bool false, .int .u64 0, .slice none 0 0] 39 (0, 0)) (bw BK238.out) NB238_0.out (by simp))
 replace HK := Aside0.mk (KeepBut.trans bK hk (.inl rfl))
 replace HB := Aside0.mk (hb)
 replace HI0 := Aside0.mk (hi)
 (try clear hb)
 (try clear hb2)
 (try clear hk)
 (try clear hi)
 refine hK.out _ _ ⟨(blk_cell BK234.out 0).trans rfl, (blk_cell BK234.out 1).trans rfl, (blk_cell BK234.out 2).trans rfl, (blk_cell BK234.out 3).trans rfl⟩ (fun hHeld => ?_)
 clear hK K
 refine nS 55 ?_
 refine pure_ (i := 4) (N := some 58) (v := ?_) (a' := ?_) #[true, true, true, true, true, false, false] rfl rfl (by kernel_rfl) (fun _ _ _ h => h) (Or.inl ⟨by rfl, ?_⟩) ?_ ?_
 rotate_left
 ·intro w'
  go_simp
  with_reducible rfl
 rotate_left
 ·simp only [Act.put, List.setIfInBounds_toArray, List.set_cons_zero, List.set_cons_succ, i64_w, i32_w]
  rfl
 refine pure_ (i := 5) (N := some 59) (v := ?_) (a' := ?_) #[true, true, true, true, true, true, false] rfl rfl (by kernel_rfl) (fun _ _ _ h => h) (Or.inl ⟨by rfl, ?_⟩) ?_ ?_
 rotate_left
 ·intro w'
  go_simp
  with_reducible rfl
 rotate_left
 ·simp only [Act.put, List.setIfInBounds_toArray, List.set_cons_zero, List.set_cons_succ, i64_w, i32_w]
  rfl
 refine one_ (i := 6) (N := none) #[true, true, true, true, true, true, true] rfl rfl (by kernel_rfl) (by decide) (fun K hK => ?_)
 have hs71 : w70.cell? ⟨gb238, 1, none⟩ = some (.int .i64 0) := (blk_cell BK238.out 1).trans rfl
 have hfs71 := blk_frozen BK238.out 1
 have hns71_0 := NB234_238.out
 have hns71_1 := NB235_238.out
 have hms71_0 := NB238_234.out
 have hms71_1 := NB238_235.out
 refine skip_ (w1 := ?_) (by rfl) rfl ?_ ?_
 rotate_left
 ·go_simp
  rfl
 refine hK.out _ _ ⟨((cell_far (p := ⟨gb238, _, none⟩) NB234_238.out _).trans (hHeld.1)), ((cell_far (p := ⟨gb238, _, none⟩) NB234_238.out _).trans (hHeld.2.1)), ((cell_far (p := ⟨gb238, _, none⟩) NB234_238.out _).trans (hHeld.2.2.1)), ((cell_far (p := ⟨gb238, _, none⟩) NB234_238.out _).trans (hHeld.2.2.2))⟩ (fun hHeld => ?_)
 clear hK K
 refine done_ (by kernel_rfl) ?_
 try go_wp2_with (first | ((with_reducible refine gate_callee (f := 28) rfl ?_); refine gL (some 62) Tryd.func28 #[.pointer (some ⟨g, 0, none⟩)] ?_; (with_reducible refine (script_reader_next.calls g s0_0 t250 t251 t252 w0 _ ?side1 ?side2 A63.out).mono ?_); (case side1 => exact bI HI0.out); (case side2 => exact bB); rintro e w72 ⟨rfl, hi, hb, hk⟩; refine ⟨_, rfl, ?_⟩; replace BK234 := Aside0.mk (KeepBut.blk hk (g' := gb234) (o := .cells #[.int .i64 a1_0, .slice A1_1 l1_1.length c1_1, .slice A1_2 l1_2.length c1_2, .slice A1_3 l1_3.length c1_3] 28 (0, 0)) (bw BK234.out) NB234_0.out (by simp)); replace BK235 := Aside0.mk (KeepBut.blk hk (g' := gb235) (o := .cells #[.int .i64 0, .int .i64 0, .int .i64 0, .bool false, .int .u64 0, .slice none 0 0] 39 (0, 0)) (bw BK235.out) NB235_0.out (by simp)); replace BK238 := Aside0.mk (KeepBut.blk hk (g' := gb238) (o := .cells #[.int .i64 (Int.tmod t236 7), .int .i64 (Int.tmod t249 a1_0), .int .i64 0, .bool false, .int .u64 0, .slice none 0 0] 39 (0, 0)) (by refine bW ?_; refine blk_put (cs := #[.int .i64 (Int.tmod t236 7), .int .i64 0, .int .i64 0, .bool false, .int .u64 0, .slice none 0 0]) ?_ 1 _ rfl; exact bw BK238.out) NB238_0.out (by simp)); replace HK := Aside0.mk (KeepBut.trans bK hk (.inl rfl)); replace HB := Aside0.mk (hb); replace HI0 := Aside0.mk (hi); (try clear hb); (try clear hb2); (try clear hk); (try clear hi)) | ((with_reducible refine gate_callee (f := 31) rfl ?_); refine gL (some 64) Tryd.func31 #[.pointer (some ⟨g, 0, none⟩), .int .i64 (Int.tmod t251 60)] ?_; (with_reducible refine (script_reader_some.calls kj41 g s0_0 t252 (Int.tmod t251 60) t253 t256 w0 _ ?side1 ?side2 A64.out).mono ?_); (case side1 => exact bI HI0.out); (case side2 => exact bB); rintro e w73 ⟨v254, rfl, ho0, hi, hb, hk⟩; refine ⟨_, rfl, ?_⟩; replace BK234 := Aside0.mk (KeepBut.blk hk (g' := gb234) (o := .cells #[.int .i64 a1_0, .slice A1_1 l1_1.length c1_1, .slice A1_2 l1_2.length c1_2, .slice A1_3 l1_3.length c1_3] 28 (0, 0)) (bw BK234.out) NB234_0.out (by simp)); replace BK235 := Aside0.mk (KeepBut.blk hk (g' := gb235) (o := .cells #[.int .i64 0, .int .i64 0, .int .i64 0, .bool false, .int .u64 0, .slice none 0 0] 39 (0, 0)) (bw BK235.out) NB235_0.out (by simp)); replace BK238 := Aside0.mk (KeepBut.blk hk (g' := gb238) (o := .cells #[.int .i64 (Int.tmod t236 7), .int .i64 (Int.tmod t249 a1_0), .int .i64 0, .bool false, .int .u64 0, .slice none 0 0] 39 (0, 0)) (bw BK238.out) NB238_0.out (by simp)); have HO255 := Aside0.mk (Kd.R_lower ho0 (keep_size (w := w) (g := g) (row := none) bK)); replace HK := Aside0.mk (KeepBut.trans bK hk (.inl rfl)); replace HB := Aside0.mk (hb); replace HI0 := Aside0.mk (hi); (try clear hb); (try clear hb2); (try clear hk); (try clear hi); (try clear ho0); obtain ⟨Ao74, co74, eo74⟩ := Kd.R_slice HO255.out; subst eo74; have hnb75 := NB238_234.out; have hnc75 := NB234_238.out; have hnb76 := NB238_235.out; have hnc76 := NB235_238.out; have hnb77 := NB238_0.out; have hnc77 := NB0_238.out; obtain ⟨hcz78_0, hcz78_1, hcz78_2, hcz78_3, hcz78_4, hcz78_5⟩ := cZ6 BK238.out; obtain ⟨hfz78_0, hfz78_1, hfz78_2, hfz78_3, hfz78_4, hfz78_5⟩ := fZ6 BK238.out))
 have n0_ : Aside0 (Kd.R (Kd.int .u8) 5 (w73.setCell ⟨gb238, 5, none⟩ (.slice Ao74 t253.length co74)) w.heap.size (fun _ => True) (.slice Ao74 t253.length co74) t253) := ⟨by refine bN ?_; exact Kd.R_mono (Kd.R_far (p := ⟨gb238, 5, none⟩) (Kd.R_types HO255.out BK238.out (by decide)) (fun _ hk => hk.2) (.slice Ao74 t253.length co74)) (fun _ hk => trivial)⟩
 have n1_ : Aside0 ((w73.setCell ⟨gb238, 5, none⟩ (.slice Ao74 t253.length co74)).heap[gb234]? = some (.cells #[.int .i64 a1_0, .slice A1_1 l1_1.length c1_1, .slice A1_2 l1_2.length c1_2, .slice A1_3 l1_3.length c1_3] 28 (0, 0))) := ⟨bw BK234.out⟩
 have n2_ : Aside0 ((w73.setCell ⟨gb238, 5, none⟩ (.slice Ao74 t253.length co74)).heap[gb235]? = some (.cells #[.int .i64 0, .int .i64 0, .int .i64 0, .bool false, .int .u64 0, .slice none 0 0] 39 (0, 0))) := ⟨bw BK235.out⟩
 have n3_ : Aside0 ((w73.setCell ⟨gb238, 5, none⟩ (.slice Ao74 t253.length co74)).heap[gb238]? = some (.cells #[.int .i64 (Int.tmod t236 7), .int .i64 (Int.tmod t249 a1_0), .int .i64 0, .bool false, .int .u64 0, .slice Ao74 t253.length co74] 39 (0, 0))) := ⟨by refine bW ?_; refine blk_put (cs := #[.int .i64 (Int.tmod t236 7), .int .i64 (Int.tmod t249 a1_0), .int .i64 0, .bool false, .int .u64 0, .slice none 0 0]) ?_ 5 _ rfl; exact bw BK238.out⟩
 have n4_ : Aside0 (IsS54 w0 (w73.setCell ⟨gb238, 5, none⟩ (.slice Ao74 t253.length co74)) g s0_0 t256) := ⟨bI HI0.out⟩
 have n5_ : Aside0 (KeepBut w (w73.setCell ⟨gb238, 5, none⟩ (.slice Ao74 t253.length co74)) g none) := ⟨bK⟩
 have n6_ : Aside0 (Below w0.heap.size w0 (w73.setCell ⟨gb238, 5, none⟩ (.slice Ao74 t253.length co74))) := ⟨bB⟩
 (try clear HO255)
 (try clear BK234)
 (try clear BK235)
 (try clear BK238)
 (try clear HI0)
 (try clear HK)
 (try clear HB)
 (try simp only [setCell_drewN_])
 generalize (w73.setCell ⟨gb238, 5, none⟩ (.slice Ao74 t253.length co74)) = w79 at n0_ n1_ n2_ n3_ n4_ n5_ n6_ ⊢
 have HO255 := n0_
 have BK234 := n1_
 have BK235 := n2_
 have BK238 := n3_
 have HI0 := n4_
 have HK := n5_
 have HB := n6_
 clear n0_ n1_ n2_ n3_ n4_ n5_ n6_
 replace HO255 := Aside0.mk (Kd.R_drew HO255.out)
 replace BK234 := Aside0.mk (blk_drew BK234.out)
 replace BK235 := Aside0.mk (blk_drew BK235.out)
 replace BK238 := Aside0.mk (blk_drew BK238.out)
 replace HI0 := Aside0.mk (IsS54.drew HI0.out)
 replace HK := Aside0.mk (keep_drew HK.out)
 replace HB := Aside0.mk (below_drew1 HB.out)
 refine start_ (n := 10) (S := fun w' => w'.cell? ⟨gb238, 0, none⟩ = some (.int .i64 (Int.tmod t236 7)) ∧ w'.cell? ⟨gb238, 1, none⟩ = some (.int .i64 (Int.tmod t249 a1_0)) ∧ w'.cell? ⟨gb238, 2, none⟩ = some (.int .i64 0) ∧ w'.cell? ⟨gb238, 3, none⟩ = some (.bool false) ∧ w'.cell? ⟨gb238, 4, none⟩ = some (.int .u64 0) ∧ w'.cell? ⟨gb238, 5, none⟩ = some (.slice Ao74 t253.length co74)) (ds := [9]) #[false, false, false, false, false, false, false, false, false, false] (by kernel_rfl) rfl rfl ⟨(blk_cell BK238.out 0).trans rfl, (blk_cell BK238.out 1).trans rfl, (blk_cell BK238.out 2).trans rfl, (blk_cell BK238.out 3).trans rfl, (blk_cell BK238.out 4).trans rfl, (blk_cell BK238.out 5).trans rfl⟩ (fun hHeld => ?_); refine with_tabW script_reader_op.tab17 script_reader_op.bits17 (fun HT_ HW_ => ?_)
 generalize w79.drew = w80 at HO255 BK234 BK235 BK238 HI0 HK HB hHeld ⊢
 refine pS 1 70 HT_ ?_
 refine tS 2 71 HT_ HW_ hHeld ?_
 refine one_ (i := 0) (N := some 69) #[true, true, true, false, false, false, false, false, false, false] rfl rfl (one_of HT_.out (by kernel_rfl)) (by decide) (fun K hK => ?_)
 refine goes_ Tryd.func30 (by kernel_rfl) rfl #[.int .i64 3, .int .i64 0] (by rfl) rfl rfl (by (try simp only [List.map_toArray, List.map_cons, List.map_nil]); first | done | rfl | (simp only [List.length_drop, List.length_take]; rfl)) ?_
 with_reducible refine (script_address.calls 3 0 t257 _ A66.out).mono ?_
 rintro e w' ⟨rfl, ⟨nd, rfl⟩⟩
 refine ⟨_, rfl, ?_⟩
 refine hK.out _ _ ⟨(blk_cell BK238.out 0).trans rfl, (blk_cell BK238.out 1).trans rfl, (blk_cell BK238.out 2).trans rfl, (blk_cell BK238.out 3).trans rfl, (blk_cell BK238.out 4).trans rfl, (blk_cell BK238.out 5).trans rfl⟩ (fun hHeld => ?_)
 clear hK K
 refine nS 69 ?_
 refine one_ (i := 3) (N := some 72) #[true, true, true, true, false, false, false, false, false, false] rfl rfl (one_of HT_.out (by kernel_rfl)) (by decide) (fun K hK => ?_)
 refine goes_ Tryd.func33 (by kernel_rfl) rfl #[.int .u64 t257, .slice Ao74 t253.length co74] (by rfl) rfl rfl (by (try simp only [List.map_toArray, List.map_cons, List.map_nil]); first | done | rfl | (simp only [List.length_drop, List.length_take]; rfl)) ?_
 with_reducible refine (frame_Wrap.calls t257 _ _ t253 t258 t259 t260 t261 _ ?side1 ?side2 A67.out ?sideG).mono ?_
 (case sideG => first | exact HG | exact ⟨HG.out.below bB⟩)
 (case side1 => repeat (first | exact (Kd.R_reads' HO255.out).2.2 | (with_reducible refine Kd.C_alloc ?_ _) | (with_reducible refine Kd.C_drewN ?_ _) | (with_reducible refine Kd.C_drew ?_)))
 (case side2 => exact (Kd.R_reads' HO255.out).2.1)
 rintro e w81 ⟨v262, rfl, ho0, hb⟩
 refine ⟨_, rfl, ?_⟩
 have HO263 := Aside0.mk (Kd.R_lower (Kd.R_new' ho0 (Kd.R_lt (bN HO255.out))) (keep_size (w := w) (g := g) (row := none) bK))
 replace HO255 := Aside0.mk (Kd.R_elder' (bN HO255.out) (Kd.R_base ho0) hb)
 replace BK234 := Aside0.mk (blk_below (g := gb234) (o := .cells #[.int .i64 a1_0, .slice A1_1 l1_1.length c1_1, .slice A1_2 l1_2.length c1_2, .slice A1_3 l1_3.length c1_3] 28 (0, 0)) (bw BK234.out) hb)
 replace BK235 := Aside0.mk (blk_below (g := gb235) (o := .cells #[.int .i64 0, .int .i64 0, .int .i64 0, .bool false, .int .u64 0, .slice none 0 0] 39 (0, 0)) (bw BK235.out) hb)
 replace BK238 := Aside0.mk (blk_below (g := gb238) (o := .cells #[.int .i64 (Int.tmod t236 7), .int .i64 (Int.tmod t249 a1_0), .int .i64 0, .bool false, .int .u64 0, .slice Ao74 t253.length co74] 39 (0, 0)) (bw BK238.out) hb)
 replace HI0 := Aside0.mk (IsS54.below (bI HI0.out) hb)
 replace HK := Aside0.mk (KeepBut.trans bK (KeepBut.of_below hb g none) (.inl rfl))
 replace HB := Aside0.mk (below_step bB hb)
 (try clear hb)
 (try clear hb2)
 (try clear hk)
 (try clear hi)
 (try clear ho0)
 obtain ⟨Ao82, co82, eo82⟩ := Kd.R_slice HO263.out
 (first | subst eo82 | (injection eo82 with f1_ f2_ f3_; have f4_ := f1_.symm; have f5_ := f3_.symm; clear f1_ f2_ f3_; subst f4_; subst f5_))
 refine hK.out _ _ ⟨(blk_cell BK238.out 0).trans rfl, (blk_cell BK238.out 1).trans rfl, (blk_cell BK238.out 2).trans rfl, (blk_cell BK238.out 3).trans rfl, (blk_cell BK238.out 4).trans rfl, (blk_cell BK238.out 5).trans rfl⟩ (fun hHeld => ?_)
 clear hK K
 refine nS 72 ?_
 refine one_ (i := 4) (N := some 73) #[true, true, true, true, true, false, false, false, false, false] rfl rfl (one_of HT_.out (by kernel_rfl)) (by decide) (fun K hK => ?_)
 refine goes_ Tryd.func32 (by kernel_rfl) rfl #[.agg #[.int .u64 t258, .int .u64 t259, .int .u16 t260, .slice Ao82 t261.length co82]] (by rfl) rfl rfl (by (try simp only [List.map_toArray, List.map_cons, List.map_nil]); first | done | rfl | (simp only [List.length_drop, List.length_take]; rfl)) ?_
 with_reducible refine (frame_Put.calls kj41 t258 t259 t260 _ _ t261 t264 t267 _ ?side1 ?side2 A68.out).mono ?_
 (case side1 => repeat (first | exact (Kd.R_reads' HO263.out).2.2 | (with_reducible refine Kd.C_alloc ?_ _) | (with_reducible refine Kd.C_drewN ?_ _) | (with_reducible refine Kd.C_drew ?_)))
 (case side2 => exact (Kd.R_reads' HO263.out).2.1)
 rintro e w83 ⟨v265, rfl, ho0, hb⟩
 refine ⟨_, rfl, ?_⟩
 have HO266 := Aside0.mk (Kd.R_lower (Kd.R_new' (Kd.R_new' ho0 (Kd.R_lt (bN HO255.out))) (Kd.R_lt (bN HO263.out))) (keep_size (w := w) (g := g) (row := none) bK))
 replace HO255 := Aside0.mk (Kd.R_elder' (bN HO255.out) (Kd.R_base ho0) hb)
 replace HO263 := Aside0.mk (Kd.R_elder' (bN HO263.out) (Kd.R_base ho0) hb)
 replace BK234 := Aside0.mk (blk_below (g := gb234) (o := .cells #[.int .i64 a1_0, .slice A1_1 l1_1.length c1_1, .slice A1_2 l1_2.length c1_2, .slice A1_3 l1_3.length c1_3] 28 (0, 0)) (bw BK234.out) hb)
 replace BK235 := Aside0.mk (blk_below (g := gb235) (o := .cells #[.int .i64 0, .int .i64 0, .int .i64 0, .bool false, .int .u64 0, .slice none 0 0] 39 (0, 0)) (bw BK235.out) hb)
 replace BK238 := Aside0.mk (blk_below (g := gb238) (o := .cells #[.int .i64 (Int.tmod t236 7), .int .i64 (Int.tmod t249 a1_0), .int .i64 0, .bool false, .int .u64 0, .slice Ao74 t253.length co74] 39 (0, 0)) (bw BK238.out) hb)
 replace HI0 := Aside0.mk (IsS54.below (bI HI0.out) hb)
 replace HK := Aside0.mk (KeepBut.trans bK (KeepBut.of_below hb g none) (.inl rfl))
 replace HB := Aside0.mk (below_step bB hb)
 (try clear hb)
 (try clear hb2)
 (try clear hk)
 (try clear hi)
 (try clear ho0)
 obtain ⟨Ao84, co84, eo84⟩ := Kd.R_slice HO266.out
 (first | subst eo84 | (injection eo84 with f1_ f2_ f3_; have f4_ := f1_.symm; have f5_ := f3_.symm; clear f1_ f2_ f3_; subst f4_; subst f5_))
 refine hK.out _ _ ⟨(blk_cell BK238.out 0).trans rfl, (blk_cell BK238.out 1).trans rfl, (blk_cell BK238.out 2).trans rfl, (blk_cell BK238.out 3).trans rfl, (blk_cell BK238.out 4).trans rfl, (blk_cell BK238.out 5).trans rfl⟩ (fun hHeld => ?_)
 clear hK K
 refine nS 73 ?_
 refine pS 5 68 HT_ ?_
 refine pS 6 74 HT_ ?_
 refine pS 7 75 HT_ ?_
 refine pS 8 76 HT_ ?_
 refine last_ (i := 9) (N := none) #[true, true, true, true, true, true, true, true, true, true] rfl rfl (one_of HT_.out (by kernel_rfl)) (by decide) (fun K hK => ?_)
 have hs85 : w83.cell? ⟨gb238, 5, none⟩ = some (.slice Ao74 t253.length co74) := (blk_cell BK238.out 5).trans rfl
 have hfs85 := blk_frozen BK238.out 5
 have hns85_0 := NB234_238.out
 have hns85_1 := NB235_238.out
 have hms85_0 := NB238_234.out
 have hms85_1 := NB238_235.out
 refine skip_ (w1 := ?_) (by rfl) rfl ?_ ?_
 rotate_left
 ·go_simp
  rfl
 refine hK.out _ _ ?_
 clear hK K
 refine done_ (done_of HT_.out (by kernel_rfl)) ?_
 obtain ⟨hcz86_0, hcz86_1, hcz86_2, hcz86_3, hcz86_4, hcz86_5⟩ := cZ6 BK238.out
 obtain ⟨hfz86_0, hfz86_1, hfz86_2, hfz86_3, hfz86_4, hfz86_5⟩ := fZ6 BK238.out
 have hnb87 := NB235_234.out
 have hnc87 := NB234_235.out
 have hnb88 := NB235_0.out
 have hnc88 := NB0_235.out
 obtain ⟨hcz89_0, hcz89_1, hcz89_2, hcz89_3, hcz89_4, hcz89_5⟩ := cZ6 BK235.out
 obtain ⟨hfz89_0, hfz89_1, hfz89_2, hfz89_3, hfz89_4, hfz89_5⟩ := fZ6 BK235.out
 try go_wp2
 refine bodyPost_ret (results_cell_row rfl _ _ gb235 39 #[.int .i64 (Int.tmod t236 7), .int .i64 (Int.tmod t249 a1_0), .int .i64 0, .bool false, .int .u64 0, .slice Ao84 t264.length co84] (0, 0) _ rfl (by refine bW ?_; refine blk_put (cs := #[.int .i64 (Int.tmod t236 7), .int .i64 (Int.tmod t249 a1_0), .int .i64 0, .bool false, .int .u64 0, .slice none 0 0]) ?_ 5 _ rfl; refine bW ?_; refine blk_put (cs := #[.int .i64 (Int.tmod t236 7), .int .i64 (Int.tmod t249 a1_0), .int .i64 0, .bool false, .int .u64 0, .slice none 0 0]) ?_ 4 _ rfl; refine bW ?_; refine blk_put (cs := #[.int .i64 (Int.tmod t236 7), .int .i64 (Int.tmod t249 a1_0), .int .i64 0, .bool false, .int .u64 0, .slice none 0 0]) ?_ 3 _ rfl; refine bW ?_; refine blk_put (cs := #[.int .i64 (Int.tmod t236 7), .int .i64 (Int.tmod t249 a1_0), .int .i64 0, .bool false, .int .u64 0, .slice none 0 0]) ?_ 2 _ rfl; refine bW ?_; refine blk_put (cs := #[.int .i64 (Int.tmod t236 7), .int .i64 0, .int .i64 0, .bool false, .int .u64 0, .slice none 0 0]) ?_ 1 _ rfl; refine bW ?_; refine blk_put (cs := #[.int .i64 0, .int .i64 0, .int .i64 0, .bool false, .int .u64 0, .slice none 0 0]) ?_ 0 _ rfl; refine bW ?_; refine blk_far ?_ NB235_238.out _; exact bw BK235.out) Tryd.underlying39 rfl (by kernel_rfl)) rfl ?_
 exact ⟨_, by first | rfl | (simp [errW_none, errW_some] <;> rfl) | (simp [*, errW_none, errW_some] <;> rfl), by refine bN ?_; exact Kd.R_mono (Rfar6 (Kd.R_far (p := ⟨gb238, 5, none⟩) (Kd.R_types (Kd.R_types HO266.out BK238.out (by decide)) BK235.out (by decide)) (fun _ hk => hk.1.2) (.slice Ao84 t264.length co84)) (fun _ hk => hk.2)) (fun _ hk => trivial), by exact bI HI0.out, by exact bB, by exact bK⟩
end Go.Proofs.YtiikllgppmmiaaaDoor.OScriptReads
