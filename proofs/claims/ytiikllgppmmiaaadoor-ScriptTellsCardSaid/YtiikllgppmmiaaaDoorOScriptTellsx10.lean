/- What Go functions that the law ScriptTells uses come to, and why: part 10. Made out of the kit's print by a program of this session (wip/tools/stub.py, splice.py), functions that it does not take told by hand. -/
import Derived.Test.YtiikllgppmmiaaaDoorOScriptTellsx9
namespace Go.Proofs.YtiikllgppmmiaaaDoor.OScriptTells
open Go.RowKit Go.Proofs.YtiikllgppmmiaaaDoorW.PrintWords Go.Proofs.YtiikllgppmmiaaaDoorW.PrintLast Go.Proofs.YtiikllgppmmiaaaDoorW.PrintMore
attribute [local go_sem] max2_int min2_int max_two min_two max_three min_three max_four min_four   -- for this text's walks alone
set_option linter.unusedVariables false
set_option linter.unusedSimpArgs false
private theorem setCell_drewN_ (w : World) (n : Nat) (p : Addr) (u : Value) : (w.drewN n).setCell p u = (w.setCell p u).drewN n := by
  unfold World.setCell World.drewN
  split <;> rfl

/-! ### script_reader_op: function 17 -/
mutual
def script_reader_op.j0 : Nat → Int → Int → Bool → List Int → Int → Int → List (S51) → List (List Int) → List (S66) → Int → Int → Int → Bool → Int → Option (Int × Int × Int × Bool × Int × List Int × Int)
  | 0, _, _, _, _, _, _, _, _, _, _, _, _, _, _ => none
  | k + 1, x5, x13, x14, x1000, x1001, x218000, x218001, x218002, x218003, x222000, x222001, x222002, x222003, x222004 => if x14 = true then ((script_reader_next.f x1000 x1001).bind fun bt222 => (if (x218001.length : Int) = 0 then (none) else (some (x222000, Int.tmod bt222.1 (x218001.length : Int), x222002, x222003, x222004, ([] : List Int), bt222.2)))) else (if x13 = 5 then ((script_reader_next.f x1000 x1001).bind fun bt224 => (if (x218001.length : Int) = 0 then (none) else ((script_reader_next.f x1000 bt224.2).bind fun bt226 => (some (x222000, Int.tmod bt224.1 (x218001.length : Int), Int.tmod bt226.1 3, decide (x5 < 128), x222004, ([] : List Int), bt226.2))))) else (if x13 = 1 then (script_reader_op.j1 k x5 x13 (x13 == 1) x1000 x1001 x218000 x218001 x218002 x218003 x222000 x222001 x222002 x222003 x222004) else (script_reader_op.j1 k x5 x13 (x13 == 2) x1000 x1001 x218000 x218001 x218002 x218003 x222000 x222001 x222002 x222003 x222004)))
def script_reader_op.j1 : Nat → Int → Int → Bool → List Int → Int → Int → List (S51) → List (List Int) → List (S66) → Int → Int → Int → Bool → Int → Option (Int × Int × Int × Bool × Int × List Int × Int)
  | 0, _, _, _, _, _, _, _, _, _, _, _, _, _, _ => none
  | k + 1, x5, x13, x40, x1000, x1001, x218000, x218001, x218002, x218003, x222000, x222001, x222002, x222003, x222004 => if x40 = true then ((script_reader_next.f x1000 x1001).bind fun bt228 => (if x218000 = 0 then (none) else ((script_reader_next.f x1000 bt228.2).bind fun bt230 => (some (x222000, Int.tmod bt228.1 x218000, bt230.1, x222003, x222004, ([] : List Int), bt230.2))))) else (if x13 = 3 then ((script_reader_next.f x1000 x1001).bind fun bt232 => (if x218000 = 0 then (none) else ((script_reader_next.f x1000 bt232.2).bind fun bt234 => ((script_reader_some.f k x1000 bt234.2 (Int.tmod bt234.1 60)).bind fun bt236 => (if x5 < 128 then ((script_address.f 3 0).bind fun t240 => ((frame_Wrap.f t240 bt236.1).bind fun bt241 => ((frame_Put.f k bt241.1 bt241.2.1 bt241.2.2.1 bt241.2.2.2).bind fun bt247 => (some (x222000, Int.tmod bt232.1 x218000, x222002, x222003, x222004, bt247.1, bt236.2))))) else (some (x222000, Int.tmod bt232.1 x218000, x222002, x222003, x222004, bt236.1, bt236.2))))))) else (if x13 = 6 then ((script_reader_next.f x1000 x1001).bind fun bt251 => ((script_reader_next.f x1000 bt251.2).bind fun bt253 => ((script_to.f bt253.1).bind fun t255 => ((script_reader_next.f x1000 bt253.2).bind fun bt256 => ((script_reader_some.f k x1000 bt256.2 (Int.tmod bt256.1 3)).bind fun bt258 => (some (x222000, Int.tmod bt251.1 4, x222002, x222003, t255, bt258.1, bt258.2))))))) else (some (x222000, x222001, x222002, x222003, x222004, ([] : List Int), x1001))))
end
def script_reader_op.f (k : Nat) (s0_0 : List Int) (s0_1 : Int) (a1_0 : Int) (l1_1 : List (S51)) (l1_2 : List (List Int)) (l1_3 : List (S66)) : Option (Int × Int × Int × Bool × Int × List Int × Int) := (script_reader_next.f s0_0 s0_1).bind fun bt219 => (if (Int.tmod bt219.1 7) = 0 then (script_reader_op.j0 k bt219.1 (Int.tmod bt219.1 7) ((Int.tmod bt219.1 7) == 0) s0_0 bt219.2 a1_0 l1_1 l1_2 l1_3 (Int.tmod bt219.1 7) 0 0 false 0) else (script_reader_op.j0 k bt219.1 (Int.tmod bt219.1 7) ((Int.tmod bt219.1 7) == 4) s0_0 bt219.2 a1_0 l1_1 l1_2 l1_3 (Int.tmod bt219.1 7) 0 0 false 0))
theorem script_reader_op.mono_l : ∀ k, (∀ y0 y1 y2 y3 y4 y5 y6 y7 y8 y9 y10 y11 y12 y13, LeO (script_reader_op.j0 k y0 y1 y2 y3 y4 y5 y6 y7 y8 y9 y10 y11 y12 y13) (script_reader_op.j0 (k + 1) y0 y1 y2 y3 y4 y5 y6 y7 y8 y9 y10 y11 y12 y13)) ∧ (∀ y0 y1 y2 y3 y4 y5 y6 y7 y8 y9 y10 y11 y12 y13, LeO (script_reader_op.j1 k y0 y1 y2 y3 y4 y5 y6 y7 y8 y9 y10 y11 y12 y13) (script_reader_op.j1 (k + 1) y0 y1 y2 y3 y4 y5 y6 y7 y8 y9 y10 y11 y12 y13))
  | 0 => ⟨fun _ _ _ _ _ _ _ _ _ _ _ _ _ _ r h => by simp [script_reader_op.j0] at h, fun _ _ _ _ _ _ _ _ _ _ _ _ _ _ r h => by simp [script_reader_op.j1] at h⟩
  | k + 1 => by
    obtain ⟨ih0, ih1⟩ := script_reader_op.mono_l k
    refine ⟨?_, ?_⟩
    · intro y0 y1 y2 y3 y4 y5 y6 y7 y8 y9 y10 y11 y12 y13
      unfold script_reader_op.j0
      repeat' first
      | (with_reducible exact ih0 _ _ _ _ _ _ _ _ _ _ _ _ _ _)
      | (with_reducible exact ih1 _ _ _ _ _ _ _ _ _ _ _ _ _ _)
      | (with_reducible exact frame_Put.mono _ _ _ _ _)
      | (with_reducible exact script_reader_some.mono _ _ _ _)
      | (with_reducible exact LeO.refl _)
      | (with_reducible exact LeO.none _)
      | (with_reducible refine LeO.ite ?_ ?_)
      | (with_reducible refine LeO.bind ?_ (fun _ => ?_))
      | exact ih0 _ _ _ _ _ _ _ _ _ _ _ _ _ _
      | exact ih1 _ _ _ _ _ _ _ _ _ _ _ _ _ _
      | exact frame_Put.mono _ _ _ _ _
      | exact script_reader_some.mono _ _ _ _
      | exact LeO.none _
      | refine LeO.ite ?_ ?_
      | refine LeO.bind ?_ (fun _ => ?_)
    · intro y0 y1 y2 y3 y4 y5 y6 y7 y8 y9 y10 y11 y12 y13
      unfold script_reader_op.j1
      repeat' first
      | (with_reducible exact ih0 _ _ _ _ _ _ _ _ _ _ _ _ _ _)
      | (with_reducible exact ih1 _ _ _ _ _ _ _ _ _ _ _ _ _ _)
      | (with_reducible exact frame_Put.mono _ _ _ _ _)
      | (with_reducible exact script_reader_some.mono _ _ _ _)
      | (with_reducible exact LeO.refl _)
      | (with_reducible exact LeO.none _)
      | (with_reducible refine LeO.ite ?_ ?_)
      | (with_reducible refine LeO.bind ?_ (fun _ => ?_))
      | exact ih0 _ _ _ _ _ _ _ _ _ _ _ _ _ _
      | exact ih1 _ _ _ _ _ _ _ _ _ _ _ _ _ _
      | exact frame_Put.mono _ _ _ _ _
      | exact script_reader_some.mono _ _ _ _
      | exact LeO.none _
      | refine LeO.ite ?_ ?_
      | refine LeO.bind ?_ (fun _ => ?_)
theorem script_reader_op.mono : ∀ a0 a1 a2 a3 a4 a5 k, LeO (script_reader_op.f k a0 a1 a2 a3 a4 a5) (script_reader_op.f (k + 1) a0 a1 a2 a3 a4 a5) := by
  intro a0 a1 a2 a3 a4 a5 k
  obtain ⟨ih0, ih1⟩ := script_reader_op.mono_l k
  unfold script_reader_op.f
  repeat' first
      | (with_reducible exact ih0 _ _ _ _ _ _ _ _ _ _ _ _ _ _)
      | (with_reducible exact ih1 _ _ _ _ _ _ _ _ _ _ _ _ _ _)
      | (with_reducible exact frame_Put.mono _ _ _ _ _)
      | (with_reducible exact script_reader_some.mono _ _ _ _)
      | (with_reducible exact LeO.refl _)
      | (with_reducible exact LeO.none _)
      | (with_reducible refine LeO.ite ?_ ?_)
      | (with_reducible refine LeO.bind ?_ (fun _ => ?_))
      | exact ih0 _ _ _ _ _ _ _ _ _ _ _ _ _ _
      | exact ih1 _ _ _ _ _ _ _ _ _ _ _ _ _ _
      | exact frame_Put.mono _ _ _ _ _
      | exact script_reader_some.mono _ _ _ _
      | exact LeO.none _
      | refine LeO.ite ?_ ?_
      | refine LeO.bind ?_ (fun _ => ?_)
def script_reader_op.T6 : Bool × List (List Nat × List Nat) := (true, [([], []), ([0], [0]), ([], []), ([2], [2]), ([3], [3]), ([1, 4], [1, 4]), ([0, 1, 2, 3, 4, 5], []), ([6, 5, 1, 0, 1, 2, 3, 4, 5], [5, 6])])
def script_reader_op.B6 : List Nat := [0, 1, 0, 4, 12, 31, 63, 127]
theorem script_reader_op.tab6 : rtab .any (opsOf Tryd.f17 6) = script_reader_op.T6 := by kernel_rfl
theorem script_reader_op.bits6 : waitsOk script_reader_op.T6.2 script_reader_op.B6 = true := by kernel_rfl
def script_reader_op.T8 : Bool × List (List Nat × List Nat) := (true, [([], []), ([0], [0]), ([], []), ([2], [2]), ([3], [3]), ([1, 4], [1, 4]), ([0, 1, 2, 3, 4, 5], []), ([6, 5, 1, 0, 1, 2, 3, 4, 5], [5, 6])])
def script_reader_op.B8 : List Nat := [0, 1, 0, 4, 12, 31, 63, 127]
theorem script_reader_op.tab8 : rtab .any (opsOf Tryd.f17 8) = script_reader_op.T8 := by kernel_rfl
theorem script_reader_op.bits8 : waitsOk script_reader_op.T8.2 script_reader_op.B8 = true := by kernel_rfl
def script_reader_op.T12 : Bool × List (List Nat × List Nat) := (true, [([], []), ([0], [0]), ([], []), ([2], [2]), ([1, 3], [1, 3]), ([], []), ([5, 1], [5]), ([0, 1, 2, 3, 4], []), ([7, 4, 6, 0, 1, 2, 3, 4], [4, 7]), ([0, 1, 2, 3, 4, 5, 6, 7, 8], []), ([9, 6, 8, 0, 1, 2, 3, 4, 5, 6, 7, 8], [6, 9])])
def script_reader_op.B12 : List Nat := [0, 1, 0, 4, 15, 0, 35, 31, 255, 511, 1023]
theorem script_reader_op.tab12 : rtab .any (opsOf Tryd.f17 12) = script_reader_op.T12 := by kernel_rfl
theorem script_reader_op.bits12 : waitsOk script_reader_op.T12.2 script_reader_op.B12 = true := by kernel_rfl
def script_reader_op.T17 : Bool × List (List Nat × List Nat) := (true, [([], []), ([], []), ([1], [1]), ([0, 2, 0], [0, 2]), ([3, 3], [3]), ([4], [4]), ([5], [5]), ([5], [5]), ([0, 1, 2, 3, 4, 5, 6], []), ([8, 6, 4, 0, 1, 2, 3, 4, 5, 6], [6, 8])])
def script_reader_op.B17 : List Nat := [0, 0, 2, 7, 15, 31, 63, 63, 127, 383]
theorem script_reader_op.tab17 : rtab .any (opsOf Tryd.f17 17) = script_reader_op.T17 := by kernel_rfl
theorem script_reader_op.bits17 : waitsOk script_reader_op.T17.2 script_reader_op.B17 = true := by kernel_rfl
set_option maxHeartbeats 8000000 in
set_option maxRecDepth 100000 in
theorem script_reader_op.calls (k : Nat) (g : Nat) (s0_0 : List Int) (s0_1 : Int) (a1_0 : Int) (A1_1 : Option Addr) (c1_1 : Nat) (l1_1 : List (S51)) (A1_2 : Option Addr) (c1_2 : Nat) (l1_2 : List (List Int)) (A1_3 : Option Addr) (c1_3 : Nat) (l1_3 : List (S66)) (r1 : Int) (r2 : Int) (r3 : Int) (r4 : Bool) (r5 : Int) (r6 : List Int) (r7 : Int) (w0 w : World) (hI : IsS54 w0 w g s0_0 s0_1) (hB : Below w0.heap.size w0 w) (hr1_1 : ∀ W_, KeepBut w W_ g none → Kd.C k51 W_ A1_1 l1_1.length l1_1) (hc1_1 : l1_1.length ≤ c1_1) (hr1_2 : ∀ W_, KeepBut w W_ g none → Kd.C (Kd.slice 3 (Kd.int .i64)) W_ A1_2 l1_2.length l1_2) (hc1_2 : l1_2.length ≤ c1_2) (hr1_3 : ∀ W_, KeepBut w W_ g none → Kd.C k66 W_ A1_3 l1_3.length l1_3) (hc1_3 : l1_3.length ≤ c1_3) (h : script_reader_op.f k s0_0 s0_1 a1_0 l1_1 l1_2 l1_3 = some (r1, r2, r3, r4, r5, r6, r7)) (HG : Aside0 (Llc.Glob w0)) :
  Calls Tryd.prog 17 #[.pointer (some ⟨g, 0, none⟩), .agg #[.int .i64 a1_0, .slice A1_1 l1_1.length c1_1, .slice A1_2 l1_2.length c1_2, .slice A1_3 l1_3.length c1_3]] w fun e w' => ∃ v5_ : Value, e = .returned (.agg #[.int .i64 r1, .int .i64 r2, .int .i64 r3, .bool r4, .int .u64 r5, v5_]) ∧ Kd.R (Kd.int .u8) 5 w' w.heap.size (fun _ => True) v5_ r6 ∧ IsS54 w0 w' g s0_0 r7 ∧ Below w0.heap.size w0 w' ∧ KeepBut w w' g none := by
 have hu28 := Tryd.underlying28
 have hu39 := Tryd.underlying39
 have HR1_1 := Aside0.mk hr1_1
 have HC1_1 := Aside0.mk hc1_1
 clear hr1_1 hc1_1
 have HR1_2 := Aside0.mk hr1_2
 have HC1_2 := Aside0.mk hc1_2
 clear hr1_2 hc1_2
 have HR1_3 := Aside0.mk hr1_3
 have HC1_3 := Aside0.mk hc1_3
 clear hr1_3 hc1_3
 have HI0 := Aside0.mk hI
 have HK := Aside0.mk (KeepBut.refl w g none)
 have HL := Aside0.mk hB.size
 clear hI
 have HW0 := Aside0.mk hB.size
 have HB := Aside0.mk hB
 clear hB
 have H : ((script_reader_next.f s0_0 s0_1).bind fun bt219 => (if (Int.tmod bt219.1 7) = 0 then (script_reader_op.j0 k bt219.1 (Int.tmod bt219.1 7) ((Int.tmod bt219.1 7) == 0) s0_0 bt219.2 a1_0 l1_1 l1_2 l1_3 (Int.tmod bt219.1 7) 0 0 false 0) else (script_reader_op.j0 k bt219.1 (Int.tmod bt219.1 7) ((Int.tmod bt219.1 7) == 4) s0_0 bt219.2 a1_0 l1_1 l1_2 l1_3 (Int.tmod bt219.1 7) 0 0 false 0))) = some (r1, r2, r3, r4, r5, r6, r7) := h
 clear h
 replace H := Option.bind_eq_some_iff.mp H
 obtain ⟨⟨t219, t220⟩, A30, H⟩ := H
 replace H : (if (Int.tmod t219 7) = 0 then (script_reader_op.j0 k t219 (Int.tmod t219 7) ((Int.tmod t219 7) == 0) s0_0 t220 a1_0 l1_1 l1_2 l1_3 (Int.tmod t219 7) 0 0 false 0) else (script_reader_op.j0 k t219 (Int.tmod t219 7) ((Int.tmod t219 7) == 4) s0_0 t220 a1_0 l1_1 l1_2 l1_3 (Int.tmod t219 7) 0 0 false 0)) = some (r1, r2, r3, r4, r5, r6, r7) := H
 have A3 := Aside0.mk A30
 clear A30
 have HC4 := Aside0.mk H
 clear H
 go_enter Tryd.func17, Tryd.ntmps17
 go_upto_if 14 with (first | ((with_reducible refine gate_dst (N := 3) rfl ?_); refine box_event ?hg (N := 3) ?hd (cs := #[.int .i64 a1_0, .slice A1_1 l1_1.length c1_1, .slice A1_2 l1_2.length c1_2, .slice A1_3 l1_3.length c1_3]) (t := 28) ?hr ?_; (case hd => rfl); (case hg => rfl); (case hr => first | (go_simp; done) | (go_simp; rfl)); intro gb217 hg w5 hbox hb; have n0_ := Aside0.mk (IsS54.below (by repeat (first | (with_reducible first | exact HI0.out | apply IsS54.alloc | apply IsS54.drewN | apply IsS54.drew | apply IsS54.set_1) | exact HI0.out)) hb); have n1_ := Aside0.mk (KeepBut.trans (by repeat (first | (with_reducible first | exact HK.out | apply KeepBut.set_ | apply keep_drewN | apply keep_drew | apply keep_alloc) | exact HK.out)) (KeepBut.of_below hb g none) (.inl rfl)); have n2_ := Aside0.mk (below_step (by repeat (first | (with_reducible first | exact HB.out | apply below_alloc | apply pw_below_drewN | apply below_drew1 | refine below_set ?_ (IsS54.ge HI0.out)) | exact HB.out)) hb); have n3_ := Aside0.mk (hbox); have n4_ := Aside0.mk ((by rw [hg]; exact (keep_size (w := w) (g := g) (row := none) (by repeat (first | (with_reducible first | exact HK.out | apply KeepBut.set_ | apply keep_drewN | apply keep_drew | apply keep_alloc) | exact HK.out))) : w.heap.size ≤ gb217)); have n5_ := Aside0.mk ((Nat.le_trans HW0.out (by rw [hg]; exact (keep_size (w := w) (g := g) (row := none) (by repeat (first | (with_reducible first | exact HK.out | apply KeepBut.set_ | apply keep_drewN | apply keep_drew | apply keep_alloc) | exact HK.out))) : w.heap.size ≤ gb217) : w0.heap.size ≤ gb217)); have n6_ := Aside0.mk ((by rw [hg]; exact Nat.ne_of_lt (IsS54.lt (show IsS54 w0 _ g s0_0 s0_1 from by repeat (first | (with_reducible first | exact HI0.out | apply IsS54.alloc | apply IsS54.drewN | apply IsS54.drew | apply IsS54.set_1) | exact HI0.out))) : g ≠ gb217)); have n7_ := Aside0.mk ((by rw [hg]; exact Nat.ne_of_gt (IsS54.lt (show IsS54 w0 _ g s0_0 s0_1 from by repeat (first | (with_reducible first | exact HI0.out | apply IsS54.alloc | apply IsS54.drewN | apply IsS54.drew | apply IsS54.set_1) | exact HI0.out))) : gb217 ≠ g)); clear HI0; clear HK; clear HB; have HI0 := n0_; have HK := n1_; have HB := n2_; have BK217 := n3_; have GW217 := n4_; have GE217 := n5_; have NB0_217 := n6_; have NB217_0 := n7_; clear n0_ n1_ n2_ n3_ n4_ n5_ n6_ n7_; clear hb hbox hg) | ((with_reducible refine gate_dst (N := 4) rfl ?_); refine box_event ?hg (N := 4) ?hd (cs := #[.int .i64 0, .int .i64 0, .int .i64 0, .bool false, .int .u64 0, .slice none 0 0]) (t := 39) ?hr ?_; (case hd => rfl); (case hg => rfl); (case hr => first | (go_simp; done) | (go_simp; rfl)); intro gb218 hg w6 hbox hb; have n0_ := Aside0.mk (IsS54.below (by repeat (first | (with_reducible first | exact HI0.out | apply IsS54.alloc | apply IsS54.drewN | apply IsS54.drew | apply IsS54.set_1 | refine IsS54.far ?_ NB0_217.out _) | exact HI0.out)) hb); have n1_ := Aside0.mk (blk_below (g := gb217) (o := .cells #[.int .i64 a1_0, .slice A1_1 l1_1.length c1_1, .slice A1_2 l1_2.length c1_2, .slice A1_3 l1_3.length c1_3] 28 (0, 0)) (by (with_reducible repeat (first | refine blk_drewN ?_ _ | refine blk_drew ?_ | refine blk_alloc ?_ _)); exact BK217.out) hb); have n2_ := Aside0.mk (KeepBut.trans (by repeat (first | (with_reducible first | exact HK.out | apply KeepBut.set_ | apply keep_drewN | apply keep_drew | apply keep_alloc | refine keep_far ?_ GW217.out _) | exact HK.out)) (KeepBut.of_below hb g none) (.inl rfl)); have n3_ := Aside0.mk (below_step (by repeat (first | (with_reducible first | exact HB.out | apply below_alloc | apply pw_below_drewN | apply below_drew1 | refine below_set ?_ (IsS54.ge HI0.out) | refine below_set ?_ GE217.out) | exact HB.out)) hb); have n4_ := Aside0.mk (hbox); have n5_ := Aside0.mk ((by rw [hg]; exact (keep_size (w := w) (g := g) (row := none) (by repeat (first | (with_reducible first | exact HK.out | apply KeepBut.set_ | apply keep_drewN | apply keep_drew | apply keep_alloc | refine keep_far ?_ GW217.out _) | exact HK.out))) : w.heap.size ≤ gb218)); have n6_ := Aside0.mk ((Nat.le_trans HW0.out (by rw [hg]; exact (keep_size (w := w) (g := g) (row := none) (by repeat (first | (with_reducible first | exact HK.out | apply KeepBut.set_ | apply keep_drewN | apply keep_drew | apply keep_alloc | refine keep_far ?_ GW217.out _) | exact HK.out))) : w.heap.size ≤ gb218) : w0.heap.size ≤ gb218)); have n7_ := Aside0.mk ((by rw [hg]; exact Nat.ne_of_lt (blk_lt (g := gb217) (o := .cells #[.int .i64 a1_0, .slice A1_1 l1_1.length c1_1, .slice A1_2 l1_2.length c1_2, .slice A1_3 l1_3.length c1_3] 28 (0, 0)) (by (with_reducible repeat (first | refine blk_drewN ?_ _ | refine blk_drew ?_ | refine blk_alloc ?_ _)); exact BK217.out)) : gb217 ≠ gb218)); have n8_ := Aside0.mk ((by rw [hg]; exact Nat.ne_of_gt (blk_lt (g := gb217) (o := .cells #[.int .i64 a1_0, .slice A1_1 l1_1.length c1_1, .slice A1_2 l1_2.length c1_2, .slice A1_3 l1_3.length c1_3] 28 (0, 0)) (by (with_reducible repeat (first | refine blk_drewN ?_ _ | refine blk_drew ?_ | refine blk_alloc ?_ _)); exact BK217.out)) : gb218 ≠ gb217)); have n9_ := Aside0.mk ((by rw [hg]; exact Nat.ne_of_lt (IsS54.lt (show IsS54 w0 _ g s0_0 s0_1 from by repeat (first | (with_reducible first | exact HI0.out | apply IsS54.alloc | apply IsS54.drewN | apply IsS54.drew | apply IsS54.set_1 | refine IsS54.far ?_ NB0_217.out _) | exact HI0.out))) : g ≠ gb218)); have n10_ := Aside0.mk ((by rw [hg]; exact Nat.ne_of_gt (IsS54.lt (show IsS54 w0 _ g s0_0 s0_1 from by repeat (first | (with_reducible first | exact HI0.out | apply IsS54.alloc | apply IsS54.drewN | apply IsS54.drew | apply IsS54.set_1 | refine IsS54.far ?_ NB0_217.out _) | exact HI0.out))) : gb218 ≠ g)); clear HI0; clear BK217; clear HK; clear HB; have HI0 := n0_; have BK217 := n1_; have HK := n2_; have HB := n3_; have BK218 := n4_; have GW218 := n5_; have GE218 := n6_; have NB217_218 := n7_; have NB218_217 := n8_; have NB0_218 := n9_; have NB218_0 := n10_; clear n0_ n1_ n2_ n3_ n4_ n5_ n6_ n7_ n8_ n9_ n10_; clear hb hbox hg) | ((with_reducible refine gate_callee (f := 28) rfl ?_); refine goesL_ (some 8) rfl rfl Tryd.func28 (by kernel_rfl) rfl #[.pointer (some ⟨g, 0, none⟩)] rfl (by (try simp only [List.map_toArray, List.map_cons, List.map_nil]); first | done | rfl | (simp only [List.length_drop, List.length_take]; rfl)) ?_; (with_reducible refine (script_reader_next.calls g s0_0 s0_1 t219 t220 w0 _ ?side1 ?side2 A3.out).mono ?_); (case side1 => repeat (first | (with_reducible first | exact HI0.out | apply IsS54.alloc | apply IsS54.drewN | apply IsS54.drew | apply IsS54.set_1 | refine IsS54.far ?_ NB0_217.out _ | refine IsS54.far ?_ NB0_218.out _) | exact HI0.out)); (case side2 => repeat (first | (with_reducible first | exact HB.out | apply below_alloc | apply pw_below_drewN | apply below_drew1 | refine below_set ?_ (IsS54.ge HI0.out) | refine below_set ?_ GE217.out | refine below_set ?_ GE218.out) | exact HB.out)); rintro e w7 ⟨rfl, hi, hb, hk⟩; refine ⟨_, rfl, ?_⟩; have n0_ := Aside0.mk (KeepBut.blk hk (g' := gb217) (o := .cells #[.int .i64 a1_0, .slice A1_1 l1_1.length c1_1, .slice A1_2 l1_2.length c1_2, .slice A1_3 l1_3.length c1_3] 28 (0, 0)) (by (with_reducible repeat (first | refine blk_drewN ?_ _ | refine blk_drew ?_ | refine blk_alloc ?_ _)); exact BK217.out) NB217_0.out (by simp)); have n1_ := Aside0.mk (KeepBut.blk hk (g' := gb218) (o := .cells #[.int .i64 0, .int .i64 0, .int .i64 0, .bool false, .int .u64 0, .slice none 0 0] 39 (0, 0)) (by (with_reducible repeat (first | refine blk_drewN ?_ _ | refine blk_drew ?_ | refine blk_alloc ?_ _)); exact BK218.out) NB218_0.out (by simp)); have n2_ := Aside0.mk (KeepBut.trans (by repeat (first | (with_reducible first | exact HK.out | apply KeepBut.set_ | apply keep_drewN | apply keep_drew | apply keep_alloc | refine keep_far ?_ GW217.out _ | refine keep_far ?_ GW218.out _) | exact HK.out)) hk (.inl rfl)); have n3_ := Aside0.mk (hb); have n4_ := Aside0.mk (hi); clear BK217; clear BK218; clear HK; clear HB; clear HI0; have BK217 := n0_; have BK218 := n1_; have HK := n2_; have HB := n3_; have HI0 := n4_; clear n0_ n1_ n2_ n3_ n4_; (try clear hb); (try clear hb2); (try clear hk); (try clear hi)) | ((with_reducible refine gate_dst (N := 6) rfl ?_); refine box_event ?hg (N := 6) ?hd (cs := #[.int .i64 0, .int .i64 0, .int .i64 0, .bool false, .int .u64 0, .slice none 0 0]) (t := 39) ?hr ?_; (case hd => rfl); (case hg => rfl); (case hr => first | (go_simp; done) | (go_simp; rfl)); intro gb221 hg w8 hbox hb; have n0_ := Aside0.mk (IsS54.below (by repeat (first | (with_reducible first | exact HI0.out | apply IsS54.alloc | apply IsS54.drewN | apply IsS54.drew | apply IsS54.set_1 | refine IsS54.far ?_ NB0_217.out _ | refine IsS54.far ?_ NB0_218.out _) | exact HI0.out)) hb); have n1_ := Aside0.mk (blk_below (g := gb217) (o := .cells #[.int .i64 a1_0, .slice A1_1 l1_1.length c1_1, .slice A1_2 l1_2.length c1_2, .slice A1_3 l1_3.length c1_3] 28 (0, 0)) (by (with_reducible repeat (first | refine blk_drewN ?_ _ | refine blk_drew ?_ | refine blk_alloc ?_ _)); exact BK217.out) hb); have n2_ := Aside0.mk (blk_below (g := gb218) (o := .cells #[.int .i64 0, .int .i64 0, .int .i64 0, .bool false, .int .u64 0, .slice none 0 0] 39 (0, 0)) (by (with_reducible repeat (first | refine blk_drewN ?_ _ | refine blk_drew ?_ | refine blk_alloc ?_ _)); exact BK218.out) hb); have n3_ := Aside0.mk (KeepBut.trans (by repeat (first | (with_reducible first | exact HK.out | apply KeepBut.set_ | apply keep_drewN | apply keep_drew | apply keep_alloc | refine keep_far ?_ GW217.out _ | refine keep_far ?_ GW218.out _) | exact HK.out)) (KeepBut.of_below hb g none) (.inl rfl)); have n4_ := Aside0.mk (below_step (by repeat (first | (with_reducible first | exact HB.out | apply below_alloc | apply pw_below_drewN | apply below_drew1 | refine below_set ?_ (IsS54.ge HI0.out) | refine below_set ?_ GE217.out | refine below_set ?_ GE218.out) | exact HB.out)) hb); have n5_ := Aside0.mk (hbox); have n6_ := Aside0.mk ((by rw [hg]; exact (keep_size (w := w) (g := g) (row := none) (by repeat (first | (with_reducible first | exact HK.out | apply KeepBut.set_ | apply keep_drewN | apply keep_drew | apply keep_alloc | refine keep_far ?_ GW217.out _ | refine keep_far ?_ GW218.out _) | exact HK.out))) : w.heap.size ≤ gb221)); have n7_ := Aside0.mk ((Nat.le_trans HW0.out (by rw [hg]; exact (keep_size (w := w) (g := g) (row := none) (by repeat (first | (with_reducible first | exact HK.out | apply KeepBut.set_ | apply keep_drewN | apply keep_drew | apply keep_alloc | refine keep_far ?_ GW217.out _ | refine keep_far ?_ GW218.out _) | exact HK.out))) : w.heap.size ≤ gb221) : w0.heap.size ≤ gb221)); have n8_ := Aside0.mk ((by rw [hg]; exact Nat.ne_of_lt (blk_lt (g := gb217) (o := .cells #[.int .i64 a1_0, .slice A1_1 l1_1.length c1_1, .slice A1_2 l1_2.length c1_2, .slice A1_3 l1_3.length c1_3] 28 (0, 0)) (by (with_reducible repeat (first | refine blk_drewN ?_ _ | refine blk_drew ?_ | refine blk_alloc ?_ _)); exact BK217.out)) : gb217 ≠ gb221)); have n9_ := Aside0.mk ((by rw [hg]; exact Nat.ne_of_gt (blk_lt (g := gb217) (o := .cells #[.int .i64 a1_0, .slice A1_1 l1_1.length c1_1, .slice A1_2 l1_2.length c1_2, .slice A1_3 l1_3.length c1_3] 28 (0, 0)) (by (with_reducible repeat (first | refine blk_drewN ?_ _ | refine blk_drew ?_ | refine blk_alloc ?_ _)); exact BK217.out)) : gb221 ≠ gb217)); have n10_ := Aside0.mk ((by rw [hg]; exact Nat.ne_of_lt (blk_lt (g := gb218) (o := .cells #[.int .i64 0, .int .i64 0, .int .i64 0, .bool false, .int .u64 0, .slice none 0 0] 39 (0, 0)) (by (with_reducible repeat (first | refine blk_drewN ?_ _ | refine blk_drew ?_ | refine blk_alloc ?_ _)); exact BK218.out)) : gb218 ≠ gb221)); have n11_ := Aside0.mk ((by rw [hg]; exact Nat.ne_of_gt (blk_lt (g := gb218) (o := .cells #[.int .i64 0, .int .i64 0, .int .i64 0, .bool false, .int .u64 0, .slice none 0 0] 39 (0, 0)) (by (with_reducible repeat (first | refine blk_drewN ?_ _ | refine blk_drew ?_ | refine blk_alloc ?_ _)); exact BK218.out)) : gb221 ≠ gb218)); have n12_ := Aside0.mk ((by rw [hg]; exact Nat.ne_of_lt (IsS54.lt (show IsS54 w0 _ g s0_0 t220 from by repeat (first | (with_reducible first | exact HI0.out | apply IsS54.alloc | apply IsS54.drewN | apply IsS54.drew | apply IsS54.set_1 | refine IsS54.far ?_ NB0_217.out _ | refine IsS54.far ?_ NB0_218.out _) | exact HI0.out))) : g ≠ gb221)); have n13_ := Aside0.mk ((by rw [hg]; exact Nat.ne_of_gt (IsS54.lt (show IsS54 w0 _ g s0_0 t220 from by repeat (first | (with_reducible first | exact HI0.out | apply IsS54.alloc | apply IsS54.drewN | apply IsS54.drew | apply IsS54.set_1 | refine IsS54.far ?_ NB0_217.out _ | refine IsS54.far ?_ NB0_218.out _) | exact HI0.out))) : gb221 ≠ g)); clear HI0; clear BK217; clear BK218; clear HK; clear HB; have HI0 := n0_; have BK217 := n1_; have BK218 := n2_; have HK := n3_; have HB := n4_; have BK221 := n5_; have GW221 := n6_; have GE221 := n7_; have NB217_221 := n8_; have NB221_217 := n9_; have NB218_221 := n10_; have NB221_218 := n11_; have NB0_221 := n12_; have NB221_0 := n13_; clear n0_ n1_ n2_ n3_ n4_ n5_ n6_ n7_ n8_ n9_ n10_ n11_ n12_ n13_; clear hb hbox hg; have hnb9 := NB221_217.out; have hnc9 := NB217_221.out; have hnb10 := NB221_218.out; have hnc10 := NB218_221.out; have hnb11 := NB221_0.out; have hnc11 := NB0_221.out; have hcz12_0 : w8.cell? ⟨gb221, 0, none⟩ = some (.int .i64 0) := (blk_cell BK221.out 0).trans rfl; have hcz12_1 : w8.cell? ⟨gb221, 1, none⟩ = some (.int .i64 0) := (blk_cell BK221.out 1).trans rfl; have hcz12_2 : w8.cell? ⟨gb221, 2, none⟩ = some (.int .i64 0) := (blk_cell BK221.out 2).trans rfl; have hcz12_3 : w8.cell? ⟨gb221, 3, none⟩ = some (.bool false) := (blk_cell BK221.out 3).trans rfl; have hcz12_4 : w8.cell? ⟨gb221, 4, none⟩ = some (.int .u64 0) := (blk_cell BK221.out 4).trans rfl; have hcz12_5 : w8.cell? ⟨gb221, 5, none⟩ = some (.slice none 0 0) := (blk_cell BK221.out 5).trans rfl; have hfz12_0 := blk_frozen BK221.out 0; have hfz12_1 := blk_frozen BK221.out 1; have hfz12_2 := blk_frozen BK221.out 2; have hfz12_3 := blk_frozen BK221.out 3; have hfz12_4 := blk_frozen BK221.out 4; have hfz12_5 := blk_frozen BK221.out 5))
 (try simp only [Act.put, List.setIfInBounds_toArray, List.set_cons_zero, List.set_cons_succ])
 go_cut [14] (fun v14 wc => ∃ (kq : Nat) (x14_3 : Bool), v14 = .bool x14_3 ∧ Aside0 (script_reader_op.j0 kq t219 (Int.tmod t219 7) x14_3 s0_0 t220 a1_0 l1_1 l1_2 l1_3 (Int.tmod t219 7) 0 0 false 0 = some (r1, r2, r3, r4, r5, r6, r7)) ∧ Aside0 (kq ≤ k) ∧ Aside0 (wc.heap[gb217]? = some (.cells #[.int .i64 a1_0, (.slice A1_1 l1_1.length c1_1), (.slice A1_2 l1_2.length c1_2), (.slice A1_3 l1_3.length c1_3)] 28 (0, 0))) ∧ Aside0 (wc.heap[gb218]? = some (.cells #[.int .i64 0, .int .i64 0, .int .i64 0, .bool false, .int .u64 0, (.slice none 0 0)] 39 (0, 0))) ∧ Aside0 (wc.heap[gb221]? = some (.cells #[.int .i64 (Int.tmod t219 7), .int .i64 0, .int .i64 0, .bool false, .int .u64 0, (.slice none 0 0)] 39 (0, 0))) ∧ Aside0 (IsS54 w0 wc g s0_0 t220) ∧ Aside0 (KeepBut w wc g none) ∧ Aside0 (Below w0.heap.size w0 wc))
 case first =>
  have H := HC4.out
  clear HC4
  by_cases c13 : (Int.tmod t219 7) = 0
  rotate_left
  ·rw [if_neg c13] at H
   have c13b0 : ((Int.tmod t219 7) == 0) = false := beq_eq_false_iff_ne.mpr c13
   have c13b1 : ((Int.tmod t219 7) != 0) = true := bne_iff_ne.mpr c13
   (first | rw [c13b0] | (simp only [i64_w, i32_w]; rw [c13b0]) | skip)
   have H' := Aside0.mk H
   clear H
   go_wp2
   go_meet
   case rel => exact ⟨_, (((Int.tmod t219 7) == 4)), (by first | rfl | (simp; done) | (simp [*]; done)), H', ⟨by first | omega | exact Nat.le_refl _⟩, ⟨by (with_reducible repeat (first | refine blk_drewN ?_ _ | refine blk_drew ?_ | refine blk_alloc ?_ _)); refine blk_far ?_ NB217_221.out _; (with_reducible repeat (first | refine blk_drewN ?_ _ | refine blk_drew ?_ | refine blk_alloc ?_ _)); refine blk_far ?_ NB217_221.out _; (with_reducible repeat (first | refine blk_drewN ?_ _ | refine blk_drew ?_ | refine blk_alloc ?_ _)); refine blk_far ?_ NB217_221.out _; (with_reducible repeat (first | refine blk_drewN ?_ _ | refine blk_drew ?_ | refine blk_alloc ?_ _)); refine blk_far ?_ NB217_221.out _; (with_reducible repeat (first | refine blk_drewN ?_ _ | refine blk_drew ?_ | refine blk_alloc ?_ _)); refine blk_far ?_ NB217_221.out _; (with_reducible repeat (first | refine blk_drewN ?_ _ | refine blk_drew ?_ | refine blk_alloc ?_ _)); refine blk_far ?_ NB217_221.out _; (with_reducible repeat (first | refine blk_drewN ?_ _ | refine blk_drew ?_ | refine blk_alloc ?_ _)); exact BK217.out⟩, ⟨by (with_reducible repeat (first | refine blk_drewN ?_ _ | refine blk_drew ?_ | refine blk_alloc ?_ _)); refine blk_far ?_ NB218_221.out _; (with_reducible repeat (first | refine blk_drewN ?_ _ | refine blk_drew ?_ | refine blk_alloc ?_ _)); refine blk_far ?_ NB218_221.out _; (with_reducible repeat (first | refine blk_drewN ?_ _ | refine blk_drew ?_ | refine blk_alloc ?_ _)); refine blk_far ?_ NB218_221.out _; (with_reducible repeat (first | refine blk_drewN ?_ _ | refine blk_drew ?_ | refine blk_alloc ?_ _)); refine blk_far ?_ NB218_221.out _; (with_reducible repeat (first | refine blk_drewN ?_ _ | refine blk_drew ?_ | refine blk_alloc ?_ _)); refine blk_far ?_ NB218_221.out _; (with_reducible repeat (first | refine blk_drewN ?_ _ | refine blk_drew ?_ | refine blk_alloc ?_ _)); refine blk_far ?_ NB218_221.out _; (with_reducible repeat (first | refine blk_drewN ?_ _ | refine blk_drew ?_ | refine blk_alloc ?_ _)); exact BK218.out⟩, ⟨by (with_reducible repeat (first | refine blk_drewN ?_ _ | refine blk_drew ?_ | refine blk_alloc ?_ _)); refine blk_put (cs := #[.int .i64 (Int.tmod t219 7), .int .i64 0, .int .i64 0, .bool false, .int .u64 0, .slice none 0 0]) ?_ 5 _ rfl; (with_reducible repeat (first | refine blk_drewN ?_ _ | refine blk_drew ?_ | refine blk_alloc ?_ _)); refine blk_put (cs := #[.int .i64 (Int.tmod t219 7), .int .i64 0, .int .i64 0, .bool false, .int .u64 0, .slice none 0 0]) ?_ 4 _ rfl; (with_reducible repeat (first | refine blk_drewN ?_ _ | refine blk_drew ?_ | refine blk_alloc ?_ _)); refine blk_put (cs := #[.int .i64 (Int.tmod t219 7), .int .i64 0, .int .i64 0, .bool false, .int .u64 0, .slice none 0 0]) ?_ 3 _ rfl; (with_reducible repeat (first | refine blk_drewN ?_ _ | refine blk_drew ?_ | refine blk_alloc ?_ _)); refine blk_put (cs := #[.int .i64 (Int.tmod t219 7), .int .i64 0, .int .i64 0, .bool false, .int .u64 0, .slice none 0 0]) ?_ 2 _ rfl; (with_reducible repeat (first | refine blk_drewN ?_ _ | refine blk_drew ?_ | refine blk_alloc ?_ _)); refine blk_put (cs := #[.int .i64 (Int.tmod t219 7), .int .i64 0, .int .i64 0, .bool false, .int .u64 0, .slice none 0 0]) ?_ 1 _ rfl; (with_reducible repeat (first | refine blk_drewN ?_ _ | refine blk_drew ?_ | refine blk_alloc ?_ _)); refine blk_put (cs := #[.int .i64 0, .int .i64 0, .int .i64 0, .bool false, .int .u64 0, .slice none 0 0]) ?_ 0 _ rfl; (with_reducible repeat (first | refine blk_drewN ?_ _ | refine blk_drew ?_ | refine blk_alloc ?_ _)); exact BK221.out⟩, ⟨by repeat (first | (with_reducible first | exact HI0.out | apply IsS54.alloc | apply IsS54.drewN | apply IsS54.drew | apply IsS54.set_1 | refine IsS54.far ?_ NB0_217.out _ | refine IsS54.far ?_ NB0_218.out _ | refine IsS54.far ?_ NB0_221.out _) | exact HI0.out)⟩, ⟨by repeat (first | (with_reducible first | exact HK.out | apply KeepBut.set_ | apply keep_drewN | apply keep_drew | apply keep_alloc | refine keep_far ?_ GW217.out _ | refine keep_far ?_ GW218.out _ | refine keep_far ?_ GW221.out _) | exact HK.out)⟩, ⟨by repeat (first | (with_reducible first | exact HB.out | apply below_alloc | apply pw_below_drewN | apply below_drew1 | refine below_set ?_ (IsS54.ge HI0.out) | refine below_set ?_ GE217.out | refine below_set ?_ GE218.out | refine below_set ?_ GE221.out) | exact HB.out)⟩⟩
  rw [if_pos c13] at H
  have c13b0 : ((Int.tmod t219 7) == 0) = true := beq_iff_eq.mpr c13
  have c13b1 : ((Int.tmod t219 7) != 0) = false := bne_eq_false_iff_eq.mpr c13
  clear c13
  (first | rw [c13b0] | (simp only [i64_w, i32_w]; rw [c13b0]) | skip)
  have H' := Aside0.mk H
  clear H
  go_wp2
  go_meet
  case rel => exact ⟨_, (((Int.tmod t219 7) == 0)), (by first | rfl | (simp; done) | (simp [*]; done)), H', ⟨by first | omega | exact Nat.le_refl _⟩, ⟨by (with_reducible repeat (first | refine blk_drewN ?_ _ | refine blk_drew ?_ | refine blk_alloc ?_ _)); refine blk_far ?_ NB217_221.out _; (with_reducible repeat (first | refine blk_drewN ?_ _ | refine blk_drew ?_ | refine blk_alloc ?_ _)); refine blk_far ?_ NB217_221.out _; (with_reducible repeat (first | refine blk_drewN ?_ _ | refine blk_drew ?_ | refine blk_alloc ?_ _)); refine blk_far ?_ NB217_221.out _; (with_reducible repeat (first | refine blk_drewN ?_ _ | refine blk_drew ?_ | refine blk_alloc ?_ _)); refine blk_far ?_ NB217_221.out _; (with_reducible repeat (first | refine blk_drewN ?_ _ | refine blk_drew ?_ | refine blk_alloc ?_ _)); refine blk_far ?_ NB217_221.out _; (with_reducible repeat (first | refine blk_drewN ?_ _ | refine blk_drew ?_ | refine blk_alloc ?_ _)); refine blk_far ?_ NB217_221.out _; (with_reducible repeat (first | refine blk_drewN ?_ _ | refine blk_drew ?_ | refine blk_alloc ?_ _)); exact BK217.out⟩, ⟨by (with_reducible repeat (first | refine blk_drewN ?_ _ | refine blk_drew ?_ | refine blk_alloc ?_ _)); refine blk_far ?_ NB218_221.out _; (with_reducible repeat (first | refine blk_drewN ?_ _ | refine blk_drew ?_ | refine blk_alloc ?_ _)); refine blk_far ?_ NB218_221.out _; (with_reducible repeat (first | refine blk_drewN ?_ _ | refine blk_drew ?_ | refine blk_alloc ?_ _)); refine blk_far ?_ NB218_221.out _; (with_reducible repeat (first | refine blk_drewN ?_ _ | refine blk_drew ?_ | refine blk_alloc ?_ _)); refine blk_far ?_ NB218_221.out _; (with_reducible repeat (first | refine blk_drewN ?_ _ | refine blk_drew ?_ | refine blk_alloc ?_ _)); refine blk_far ?_ NB218_221.out _; (with_reducible repeat (first | refine blk_drewN ?_ _ | refine blk_drew ?_ | refine blk_alloc ?_ _)); refine blk_far ?_ NB218_221.out _; (with_reducible repeat (first | refine blk_drewN ?_ _ | refine blk_drew ?_ | refine blk_alloc ?_ _)); exact BK218.out⟩, ⟨by (with_reducible repeat (first | refine blk_drewN ?_ _ | refine blk_drew ?_ | refine blk_alloc ?_ _)); refine blk_put (cs := #[.int .i64 (Int.tmod t219 7), .int .i64 0, .int .i64 0, .bool false, .int .u64 0, .slice none 0 0]) ?_ 5 _ rfl; (with_reducible repeat (first | refine blk_drewN ?_ _ | refine blk_drew ?_ | refine blk_alloc ?_ _)); refine blk_put (cs := #[.int .i64 (Int.tmod t219 7), .int .i64 0, .int .i64 0, .bool false, .int .u64 0, .slice none 0 0]) ?_ 4 _ rfl; (with_reducible repeat (first | refine blk_drewN ?_ _ | refine blk_drew ?_ | refine blk_alloc ?_ _)); refine blk_put (cs := #[.int .i64 (Int.tmod t219 7), .int .i64 0, .int .i64 0, .bool false, .int .u64 0, .slice none 0 0]) ?_ 3 _ rfl; (with_reducible repeat (first | refine blk_drewN ?_ _ | refine blk_drew ?_ | refine blk_alloc ?_ _)); refine blk_put (cs := #[.int .i64 (Int.tmod t219 7), .int .i64 0, .int .i64 0, .bool false, .int .u64 0, .slice none 0 0]) ?_ 2 _ rfl; (with_reducible repeat (first | refine blk_drewN ?_ _ | refine blk_drew ?_ | refine blk_alloc ?_ _)); refine blk_put (cs := #[.int .i64 (Int.tmod t219 7), .int .i64 0, .int .i64 0, .bool false, .int .u64 0, .slice none 0 0]) ?_ 1 _ rfl; (with_reducible repeat (first | refine blk_drewN ?_ _ | refine blk_drew ?_ | refine blk_alloc ?_ _)); refine blk_put (cs := #[.int .i64 0, .int .i64 0, .int .i64 0, .bool false, .int .u64 0, .slice none 0 0]) ?_ 0 _ rfl; (with_reducible repeat (first | refine blk_drewN ?_ _ | refine blk_drew ?_ | refine blk_alloc ?_ _)); exact BK221.out⟩, ⟨by repeat (first | (with_reducible first | exact HI0.out | apply IsS54.alloc | apply IsS54.drewN | apply IsS54.drew | apply IsS54.set_1 | refine IsS54.far ?_ NB0_217.out _ | refine IsS54.far ?_ NB0_218.out _ | refine IsS54.far ?_ NB0_221.out _) | exact HI0.out)⟩, ⟨by repeat (first | (with_reducible first | exact HK.out | apply KeepBut.set_ | apply keep_drewN | apply keep_drew | apply keep_alloc | refine keep_far ?_ GW217.out _ | refine keep_far ?_ GW218.out _ | refine keep_far ?_ GW221.out _) | exact HK.out)⟩, ⟨by repeat (first | (with_reducible first | exact HB.out | apply below_alloc | apply pw_below_drewN | apply below_drew1 | refine below_set ?_ (IsS54.ge HI0.out) | refine below_set ?_ GE217.out | refine below_set ?_ GE218.out | refine below_set ?_ GE221.out) | exact HB.out)⟩⟩
 clear HC4
 try clear c1
 try clear c2
 try clear p2
 try clear c9
 try clear c10
 try clear c11
 try clear c13
 try clear c13b0
 try clear c13b1
 try clear hcz12_0
 try clear hcz12_1
 try clear hcz12_2
 try clear hcz12_3
 try clear hcz12_4
 try clear hcz12_5
 try clear hfz12_0
 try clear hfz12_1
 try clear hfz12_2
 try clear hfz12_3
 try clear hfz12_4
 try clear hfz12_5
 obtain ⟨kq, x14_3, rfl, HA, HJ3, BK217, BK218, BK221, HI0, HK, HB⟩ := hcut
 cases kq with
 | zero => exact absurd HA.out (by simp [script_reader_op.j0])
 | succ kj3 => ?_
 have H := HA.out
 clear HA
 simp only [script_reader_op.j0] at H
 by_cases c14 : x14_3 = true
 ·subst c14
  have H1 : ((script_reader_next.f s0_0 t220).bind fun bt222 => (if (l1_1.length : Int) = 0 then (none) else (some ((Int.tmod t219 7), Int.tmod bt222.1 (l1_1.length : Int), 0, false, 0, ([] : List Int), bt222.2)))) = some (r1, r2, r3, r4, r5, r6, r7) := by rw [if_pos rfl] at H; exact H
  clear H
  have H := H1
  clear H1
  replace H := Option.bind_eq_some_iff.mp H
  obtain ⟨⟨t222, t223⟩, A150, H⟩ := H
  replace H : (if (l1_1.length : Int) = 0 then (none) else (some ((Int.tmod t219 7), Int.tmod t222 (l1_1.length : Int), 0, false, 0, ([] : List Int), t223))) = some (r1, r2, r3, r4, r5, r6, r7) := H
  have A15 := Aside0.mk A150
  clear A150
  by_cases c16 : (l1_1.length : Int) = 0
  ·rw [if_pos c16] at H
   exact absurd H (by simp)
  rw [if_neg c16] at H
  have c16b0 : ((l1_1.length : Int) == 0) = false := beq_eq_false_iff_ne.mpr c16
  have c16b1 : ((l1_1.length : Int) != 0) = true := bne_iff_ne.mpr c16
  have c16b2 : ¬ (l1_1 = []) := fun h_ => c16 (by rw [h_]; rfl)
  simp only [Option.some.injEq, Prod.mk.injEq] at H
  obtain ⟨rfl, rfl, rfl, rfl, rfl, rfl, rfl⟩ := H
  try go_wp2
  have n0_ := Aside0.mk (blk_drew BK217.out)
  have n1_ := Aside0.mk (blk_drew BK218.out)
  have n2_ := Aside0.mk (blk_drew BK221.out)
  have n3_ := Aside0.mk (IsS54.drew HI0.out)
  have n4_ := Aside0.mk (keep_drew HK.out)
  have n5_ := Aside0.mk (below_drew1 HB.out)
  clear BK217
  clear BK218
  clear BK221
  clear HI0
  clear HK
  clear HB
  have BK217 := n0_
  have BK218 := n1_
  have BK221 := n2_
  have HI0 := n3_
  have HK := n4_
  have HB := n5_
  clear n0_ n1_ n2_ n3_ n4_ n5_
  refine start_ (n := 8) (S := fun w' => w'.cell? ⟨gb217, 0, none⟩ = some (.int .i64 a1_0) ∧ w'.cell? ⟨gb217, 1, none⟩ = some (.slice A1_1 l1_1.length c1_1) ∧ w'.cell? ⟨gb217, 2, none⟩ = some (.slice A1_2 l1_2.length c1_2) ∧ w'.cell? ⟨gb217, 3, none⟩ = some (.slice A1_3 l1_3.length c1_3)) (ds := []) #[false, false, false, false, false, false, false, false] (by kernel_rfl) rfl rfl ⟨(blk_cell BK217.out 0).trans rfl, (blk_cell BK217.out 1).trans rfl, (blk_cell BK217.out 2).trans rfl, (blk_cell BK217.out 3).trans rfl⟩ (fun hHeld => ?_); refine with_tabW script_reader_op.tab6 script_reader_op.bits6 (fun HT_ HW_ => ?_)
  generalize wc.drew = w17 at BK217 BK218 BK221 HI0 HK HB hHeld ⊢
  refine pure_ (i := 0) (N := some 17) (v := ?_) (a' := ?_) #[true, false, false, false, false, false, false, false] rfl rfl (any_of HT_.out (by kernel_rfl)) (fun _ _ _ h => h) (Or.inl ⟨by rfl, ?_⟩) ?_ ?_
  rotate_left
  ·intro w'
   go_simp
   with_reducible rfl
  rotate_left
  ·simp only [Act.put, List.setIfInBounds_toArray, List.set_cons_zero, List.set_cons_succ, i64_w, i32_w]
   rfl
  refine pure_ (i := 2) (N := some 19) (v := ?_) (a' := ?_) #[true, false, true, false, false, false, false, false] rfl rfl (any_of HT_.out (by kernel_rfl)) (fun _ _ _ h => h) (Or.inl ⟨by rfl, ?_⟩) ?_ ?_
  rotate_left
  ·intro w'
   go_simp
   with_reducible rfl
  rotate_left
  ·simp only [Act.put, List.setIfInBounds_toArray, List.set_cons_zero, List.set_cons_succ, i64_w, i32_w]
   rfl
  refine take_ (i := 3) (N := some 20) (v := ?_) (a' := ?_) #[true, false, true, true, false, false, false, false] rfl rfl (take_ofW HT_.out HW_.out (by kernel_rfl)) (fun _ _ _ h => h) (Or.inl ⟨by rfl, ?_⟩) hHeld ?_ ?_
  rotate_left
  ·rintro w' ⟨s0, s1, s2, s3⟩
   go_simp
   with_reducible rfl
  rotate_left
  ·simp only [Act.put, List.setIfInBounds_toArray, List.set_cons_zero, List.set_cons_succ, i64_w, i32_w]
   rfl
  refine pure_ (i := 4) (N := some 21) (v := ?_) (a' := ?_) #[true, false, true, true, true, false, false, false] rfl rfl (any_of HT_.out (by kernel_rfl)) (fun _ _ _ h => h) (Or.inl ⟨by rfl, ?_⟩) ?_ ?_
  rotate_left
  ·intro w'
   go_simp
   with_reducible rfl
  rotate_left
  ·simp only [Act.put, List.setIfInBounds_toArray, List.set_cons_zero, List.set_cons_succ, i64_w, i32_w]
   rfl
  refine one_ (i := 1) (N := some 18) #[true, true, true, true, true, false, false, false] rfl rfl (one_of HT_.out (by kernel_rfl)) (by decide) (fun K hK => ?_)
  refine goes_ Tryd.func28 (by kernel_rfl) rfl #[.pointer (some ⟨g, 0, none⟩)] (by rfl) rfl rfl (by (try simp only [List.map_toArray, List.map_cons, List.map_nil]); first | done | rfl | (simp only [List.length_drop, List.length_take]; rfl)) ?_
  with_reducible refine (script_reader_next.calls g s0_0 t220 t222 t223 w0 _ ?side1 ?side2 A15.out).mono ?_
  (case side1 => repeat (first | (with_reducible first | exact HI0.out | apply IsS54.alloc | apply IsS54.drewN | apply IsS54.drew | apply IsS54.set_1 | refine IsS54.far ?_ NB0_217.out _ | refine IsS54.far ?_ NB0_218.out _ | refine IsS54.far ?_ NB0_221.out _) | exact HI0.out))
  (case side2 => repeat (first | (with_reducible first | exact HB.out | apply below_alloc | apply pw_below_drewN | apply below_drew1 | refine below_set ?_ (IsS54.ge HI0.out) | refine below_set ?_ GE217.out | refine below_set ?_ GE218.out | refine below_set ?_ GE221.out) | exact HB.out))
  rintro e w18 ⟨rfl, hi, hb, hk⟩
  refine ⟨_, rfl, ?_⟩
  have n0_ := Aside0.mk (KeepBut.blk hk (g' := gb217) (o := .cells #[.int .i64 a1_0, .slice A1_1 l1_1.length c1_1, .slice A1_2 l1_2.length c1_2, .slice A1_3 l1_3.length c1_3] 28 (0, 0)) (by (with_reducible repeat (first | refine blk_drewN ?_ _ | refine blk_drew ?_ | refine blk_alloc ?_ _)); exact BK217.out) NB217_0.out (by simp))
  have n1_ := Aside0.mk (KeepBut.blk hk (g' := gb218) (o := .cells #[.int .i64 0, .int .i64 0, .int .i64 0, .bool false, .int .u64 0, .slice none 0 0] 39 (0, 0)) (by (with_reducible repeat (first | refine blk_drewN ?_ _ | refine blk_drew ?_ | refine blk_alloc ?_ _)); exact BK218.out) NB218_0.out (by simp))
  have n2_ := Aside0.mk (KeepBut.blk hk (g' := gb221) (o := .cells #[.int .i64 (Int.tmod t219 7), .int .i64 0, .int .i64 0, .bool false, .int .u64 0, .slice none 0 0] 39 (0, 0)) (by (with_reducible repeat (first | refine blk_drewN ?_ _ | refine blk_drew ?_ | refine blk_alloc ?_ _)); exact BK221.out) NB221_0.out (by simp))
  have n3_ := Aside0.mk (KeepBut.trans (by repeat (first | (with_reducible first | exact HK.out | apply KeepBut.set_ | apply keep_drewN | apply keep_drew | apply keep_alloc | refine keep_far ?_ GW217.out _ | refine keep_far ?_ GW218.out _ | refine keep_far ?_ GW221.out _) | exact HK.out)) hk (.inl rfl))
  have n4_ := Aside0.mk (hb)
  have n5_ := Aside0.mk (hi)
  clear BK217
  clear BK218
  clear BK221
  clear HK
  clear HB
  clear HI0
  have BK217 := n0_
  have BK218 := n1_
  have BK221 := n2_
  have HK := n3_
  have HB := n4_
  have HI0 := n5_
  clear n0_ n1_ n2_ n3_ n4_ n5_
  (try clear hb)
  (try clear hb2)
  (try clear hk)
  (try clear hi)
  refine hK.out _ _ ⟨(blk_cell BK217.out 0).trans rfl, (blk_cell BK217.out 1).trans rfl, (blk_cell BK217.out 2).trans rfl, (blk_cell BK217.out 3).trans rfl⟩ (fun hHeld => ?_)
  clear hK K
  refine norm_ (a' := ?_) ?_ ?_
  rotate_left
  ·show Act.put _ (some 18) _ = _
   simp only [Act.put, List.setIfInBounds_toArray, List.set_cons_zero, List.set_cons_succ, i64_w, i32_w]
   rfl
  refine pure_ (i := 5) (N := some 22) (v := ?_) (a' := ?_) #[true, true, true, true, true, true, false, false] rfl rfl (any_of HT_.out (by kernel_rfl)) (fun _ _ _ h => h) (Or.inl ⟨by rfl, ?_⟩) ?_ ?_
  rotate_left
  ·intro w'
   go_simp
   with_reducible rfl
  rotate_left
  ·simp only [Act.put, List.setIfInBounds_toArray, List.set_cons_zero, List.set_cons_succ, i64_w, i32_w]
   rfl
  refine pure_ (i := 6) (N := some 23) (v := ?_) (a' := ?_) #[true, true, true, true, true, true, true, false] rfl rfl (any_of HT_.out (by kernel_rfl)) (fun _ _ _ h => h) (Or.inl ⟨by rfl, ?_⟩) ?_ ?_
  rotate_left
  ·intro w'
   go_simp
   with_reducible rfl
  rotate_left
  ·simp only [Act.put, List.setIfInBounds_toArray, List.set_cons_zero, List.set_cons_succ, i64_w, i32_w]
   rfl
  refine one_ (i := 7) (N := none) #[true, true, true, true, true, true, true, true] rfl rfl (one_of HT_.out (by kernel_rfl)) (by decide) (fun K hK => ?_)
  have hs19 : w18.cell? ⟨gb221, 1, none⟩ = some (.int .i64 0) := (blk_cell BK221.out 1).trans rfl
  have hfs19 := blk_frozen BK221.out 1
  have hns19_0 := NB217_221.out
  have hns19_1 := NB218_221.out
  have hms19_0 := NB221_217.out
  have hms19_1 := NB221_218.out
  refine skip_ (w1 := ?_) (by rfl) rfl ?_ ?_
  rotate_left
  ·go_simp
   rfl
  refine hK.out _ _ ⟨((cell_far (p := ⟨gb221, _, none⟩) NB217_221.out _).trans (hHeld.1)), ((cell_far (p := ⟨gb221, _, none⟩) NB217_221.out _).trans (hHeld.2.1)), ((cell_far (p := ⟨gb221, _, none⟩) NB217_221.out _).trans (hHeld.2.2.1)), ((cell_far (p := ⟨gb221, _, none⟩) NB217_221.out _).trans (hHeld.2.2.2))⟩ (fun hHeld => ?_)
  clear hK K
  refine done_ (done_of HT_.out (by kernel_rfl)) ?_
  have hnb20 := NB221_217.out
  have hnc20 := NB217_221.out
  have hnb21 := NB221_218.out
  have hnc21 := NB218_221.out
  have hnb22 := NB221_0.out
  have hnc22 := NB0_221.out
  have hcz23_0 : w18.cell? ⟨gb221, 0, none⟩ = some (.int .i64 (Int.tmod t219 7)) := (blk_cell BK221.out 0).trans rfl
  have hcz23_1 : w18.cell? ⟨gb221, 1, none⟩ = some (.int .i64 0) := (blk_cell BK221.out 1).trans rfl
  have hcz23_2 : w18.cell? ⟨gb221, 2, none⟩ = some (.int .i64 0) := (blk_cell BK221.out 2).trans rfl
  have hcz23_3 : w18.cell? ⟨gb221, 3, none⟩ = some (.bool false) := (blk_cell BK221.out 3).trans rfl
  have hcz23_4 : w18.cell? ⟨gb221, 4, none⟩ = some (.int .u64 0) := (blk_cell BK221.out 4).trans rfl
  have hcz23_5 : w18.cell? ⟨gb221, 5, none⟩ = some (.slice none 0 0) := (blk_cell BK221.out 5).trans rfl
  have hfz23_0 := blk_frozen BK221.out 0
  have hfz23_1 := blk_frozen BK221.out 1
  have hfz23_2 := blk_frozen BK221.out 2
  have hfz23_3 := blk_frozen BK221.out 3
  have hfz23_4 := blk_frozen BK221.out 4
  have hfz23_5 := blk_frozen BK221.out 5
  have hnb24 := NB218_217.out
  have hnc24 := NB217_218.out
  have hnb25 := NB218_0.out
  have hnc25 := NB0_218.out
  have hcz26_0 : w18.cell? ⟨gb218, 0, none⟩ = some (.int .i64 0) := (blk_cell BK218.out 0).trans rfl
  have hcz26_1 : w18.cell? ⟨gb218, 1, none⟩ = some (.int .i64 0) := (blk_cell BK218.out 1).trans rfl
  have hcz26_2 : w18.cell? ⟨gb218, 2, none⟩ = some (.int .i64 0) := (blk_cell BK218.out 2).trans rfl
  have hcz26_3 : w18.cell? ⟨gb218, 3, none⟩ = some (.bool false) := (blk_cell BK218.out 3).trans rfl
  have hcz26_4 : w18.cell? ⟨gb218, 4, none⟩ = some (.int .u64 0) := (blk_cell BK218.out 4).trans rfl
  have hcz26_5 : w18.cell? ⟨gb218, 5, none⟩ = some (.slice none 0 0) := (blk_cell BK218.out 5).trans rfl
  have hfz26_0 := blk_frozen BK218.out 0
  have hfz26_1 := blk_frozen BK218.out 1
  have hfz26_2 := blk_frozen BK218.out 2
  have hfz26_3 := blk_frozen BK218.out 3
  have hfz26_4 := blk_frozen BK218.out 4
  have hfz26_5 := blk_frozen BK218.out 5
  try go_wp2
  refine bodyPost_ret (results_cell_row rfl _ _ gb218 39 #[.int .i64 (Int.tmod t219 7), .int .i64 (Int.tmod t222 (l1_1.length : Int)), .int .i64 0, .bool false, .int .u64 0, .slice none 0 0] (0, 0) _ rfl (by (with_reducible repeat (first | refine blk_drewN ?_ _ | refine blk_drew ?_ | refine blk_alloc ?_ _)); refine blk_put (cs := #[.int .i64 (Int.tmod t219 7), .int .i64 (Int.tmod t222 (l1_1.length : Int)), .int .i64 0, .bool false, .int .u64 0, .slice none 0 0]) ?_ 5 _ rfl; (with_reducible repeat (first | refine blk_drewN ?_ _ | refine blk_drew ?_ | refine blk_alloc ?_ _)); refine blk_put (cs := #[.int .i64 (Int.tmod t219 7), .int .i64 (Int.tmod t222 (l1_1.length : Int)), .int .i64 0, .bool false, .int .u64 0, .slice none 0 0]) ?_ 4 _ rfl; (with_reducible repeat (first | refine blk_drewN ?_ _ | refine blk_drew ?_ | refine blk_alloc ?_ _)); refine blk_put (cs := #[.int .i64 (Int.tmod t219 7), .int .i64 (Int.tmod t222 (l1_1.length : Int)), .int .i64 0, .bool false, .int .u64 0, .slice none 0 0]) ?_ 3 _ rfl; (with_reducible repeat (first | refine blk_drewN ?_ _ | refine blk_drew ?_ | refine blk_alloc ?_ _)); refine blk_put (cs := #[.int .i64 (Int.tmod t219 7), .int .i64 (Int.tmod t222 (l1_1.length : Int)), .int .i64 0, .bool false, .int .u64 0, .slice none 0 0]) ?_ 2 _ rfl; (with_reducible repeat (first | refine blk_drewN ?_ _ | refine blk_drew ?_ | refine blk_alloc ?_ _)); refine blk_put (cs := #[.int .i64 (Int.tmod t219 7), .int .i64 0, .int .i64 0, .bool false, .int .u64 0, .slice none 0 0]) ?_ 1 _ rfl; (with_reducible repeat (first | refine blk_drewN ?_ _ | refine blk_drew ?_ | refine blk_alloc ?_ _)); refine blk_put (cs := #[.int .i64 0, .int .i64 0, .int .i64 0, .bool false, .int .u64 0, .slice none 0 0]) ?_ 0 _ rfl; (with_reducible repeat (first | refine blk_drewN ?_ _ | refine blk_drew ?_ | refine blk_alloc ?_ _)); refine blk_far ?_ NB218_221.out _; (with_reducible repeat (first | refine blk_drewN ?_ _ | refine blk_drew ?_ | refine blk_alloc ?_ _)); exact BK218.out) Tryd.underlying39 rfl (by kernel_rfl)) rfl ?_
  exact ⟨_, by first | rfl | (simp [errW_none, errW_some] <;> rfl) | (simp [*, errW_none, errW_some] <;> rfl), by first | exact Kd.R_nil _ _ _ _ _ | exact Kd.N_nil _ _ _ _ _ | exact Kd.V_nil _ _ _ _ _ | exact Kd.Q_nil _ _ _ _ _ | exact Kd.S_nil _ _ _ _ _, by repeat (first | (with_reducible first | exact HI0.out | apply IsS54.alloc | apply IsS54.drewN | apply IsS54.drew | apply IsS54.set_1 | refine IsS54.far ?_ NB0_217.out _ | refine IsS54.far ?_ NB0_218.out _ | refine IsS54.far ?_ NB0_221.out _) | exact HI0.out), by repeat (first | (with_reducible first | exact HB.out | apply below_alloc | apply pw_below_drewN | apply below_drew1 | refine below_set ?_ (IsS54.ge HI0.out) | refine below_set ?_ GE217.out | refine below_set ?_ GE218.out | refine below_set ?_ GE221.out) | exact HB.out), by repeat (first | (with_reducible first | exact HK.out | apply KeepBut.set_ | apply keep_drewN | apply keep_drew | apply keep_alloc | refine keep_far ?_ GW217.out _ | refine keep_far ?_ GW218.out _ | refine keep_far ?_ GW221.out _) | exact HK.out)⟩
 replace c14 := Bool.eq_false_iff.mpr c14
 subst c14
 have H1 : (if (Int.tmod t219 7) = 5 then ((script_reader_next.f s0_0 t220).bind fun bt224 => (if (l1_1.length : Int) = 0 then (none) else ((script_reader_next.f s0_0 bt224.2).bind fun bt226 => (some ((Int.tmod t219 7), Int.tmod bt224.1 (l1_1.length : Int), Int.tmod bt226.1 3, decide (t219 < 128), 0, ([] : List Int), bt226.2))))) else (if (Int.tmod t219 7) = 1 then (script_reader_op.j1 kj3 t219 (Int.tmod t219 7) ((Int.tmod t219 7) == 1) s0_0 t220 a1_0 l1_1 l1_2 l1_3 (Int.tmod t219 7) 0 0 false 0) else (script_reader_op.j1 kj3 t219 (Int.tmod t219 7) ((Int.tmod t219 7) == 2) s0_0 t220 a1_0 l1_1 l1_2 l1_3 (Int.tmod t219 7) 0 0 false 0))) = some (r1, r2, r3, r4, r5, r6, r7) := by rw [if_neg (show ¬ (false = true) by decide)] at H; exact H
 clear H
 have H := H1
 clear H1
 by_cases c27 : (Int.tmod t219 7) = 5
 ·rw [if_pos c27] at H
  have c27b0 : ((Int.tmod t219 7) == 5) = true := beq_iff_eq.mpr c27
  have c27b1 : ((Int.tmod t219 7) != 5) = false := bne_eq_false_iff_eq.mpr c27
  clear c27
  replace H := Option.bind_eq_some_iff.mp H
  obtain ⟨⟨t224, t225⟩, A280, H⟩ := H
  replace H : (if (l1_1.length : Int) = 0 then (none) else ((script_reader_next.f s0_0 t225).bind fun bt226 => (some ((Int.tmod t219 7), Int.tmod t224 (l1_1.length : Int), Int.tmod bt226.1 3, decide (t219 < 128), 0, ([] : List Int), bt226.2)))) = some (r1, r2, r3, r4, r5, r6, r7) := H
  have A28 := Aside0.mk A280
  clear A280
  by_cases c29 : (l1_1.length : Int) = 0
  ·rw [if_pos c29] at H
   exact absurd H (by simp)
  rw [if_neg c29] at H
  have c29b0 : ((l1_1.length : Int) == 0) = false := beq_eq_false_iff_ne.mpr c29
  have c29b1 : ((l1_1.length : Int) != 0) = true := bne_iff_ne.mpr c29
  have c29b2 : ¬ (l1_1 = []) := fun h_ => c29 (by rw [h_]; rfl)
  replace H := Option.bind_eq_some_iff.mp H
  obtain ⟨⟨t226, t227⟩, A300, H⟩ := H
  replace H : (some ((Int.tmod t219 7), Int.tmod t224 (l1_1.length : Int), Int.tmod t226 3, decide (t219 < 128), 0, ([] : List Int), t227)) = some (r1, r2, r3, r4, r5, r6, r7) := H
  have A30 := Aside0.mk A300
  clear A300
  simp only [Option.some.injEq, Prod.mk.injEq] at H
  obtain ⟨rfl, rfl, rfl, rfl, rfl, rfl, rfl⟩ := H
  try go_wp2
  have n0_ := Aside0.mk (blk_drew BK217.out)
  have n1_ := Aside0.mk (blk_drew BK218.out)
  have n2_ := Aside0.mk (blk_drew BK221.out)
  have n3_ := Aside0.mk (IsS54.drew HI0.out)
  have n4_ := Aside0.mk (keep_drew HK.out)
  have n5_ := Aside0.mk (below_drew1 HB.out)
  clear BK217
  clear BK218
  clear BK221
  clear HI0
  clear HK
  clear HB
  have BK217 := n0_
  have BK218 := n1_
  have BK221 := n2_
  have HI0 := n3_
  have HK := n4_
  have HB := n5_
  clear n0_ n1_ n2_ n3_ n4_ n5_
  refine start_ (n := 8) (S := fun w' => w'.cell? ⟨gb217, 0, none⟩ = some (.int .i64 a1_0) ∧ w'.cell? ⟨gb217, 1, none⟩ = some (.slice A1_1 l1_1.length c1_1) ∧ w'.cell? ⟨gb217, 2, none⟩ = some (.slice A1_2 l1_2.length c1_2) ∧ w'.cell? ⟨gb217, 3, none⟩ = some (.slice A1_3 l1_3.length c1_3)) (ds := []) #[false, false, false, false, false, false, false, false] (by kernel_rfl) rfl rfl ⟨(blk_cell BK217.out 0).trans rfl, (blk_cell BK217.out 1).trans rfl, (blk_cell BK217.out 2).trans rfl, (blk_cell BK217.out 3).trans rfl⟩ (fun hHeld => ?_); refine with_tabW script_reader_op.tab8 script_reader_op.bits8 (fun HT_ HW_ => ?_)
  generalize wc.drew = w31 at BK217 BK218 BK221 HI0 HK HB hHeld ⊢
  refine pure_ (i := 0) (N := some 26) (v := ?_) (a' := ?_) #[true, false, false, false, false, false, false, false] rfl rfl (any_of HT_.out (by kernel_rfl)) (fun _ _ _ h => h) (Or.inl ⟨by rfl, ?_⟩) ?_ ?_
  rotate_left
  ·intro w'
   go_simp
   with_reducible rfl
  rotate_left
  ·simp only [Act.put, List.setIfInBounds_toArray, List.set_cons_zero, List.set_cons_succ, i64_w, i32_w]
   rfl
  refine pure_ (i := 2) (N := some 28) (v := ?_) (a' := ?_) #[true, false, true, false, false, false, false, false] rfl rfl (any_of HT_.out (by kernel_rfl)) (fun _ _ _ h => h) (Or.inl ⟨by rfl, ?_⟩) ?_ ?_
  rotate_left
  ·intro w'
   go_simp
   with_reducible rfl
  rotate_left
  ·simp only [Act.put, List.setIfInBounds_toArray, List.set_cons_zero, List.set_cons_succ, i64_w, i32_w]
   rfl
  refine take_ (i := 3) (N := some 29) (v := ?_) (a' := ?_) #[true, false, true, true, false, false, false, false] rfl rfl (take_ofW HT_.out HW_.out (by kernel_rfl)) (fun _ _ _ h => h) (Or.inl ⟨by rfl, ?_⟩) hHeld ?_ ?_
  rotate_left
  ·rintro w' ⟨s0, s1, s2, s3⟩
   go_simp
   with_reducible rfl
  rotate_left
  ·simp only [Act.put, List.setIfInBounds_toArray, List.set_cons_zero, List.set_cons_succ, i64_w, i32_w]
   rfl
  refine pure_ (i := 4) (N := some 30) (v := ?_) (a' := ?_) #[true, false, true, true, true, false, false, false] rfl rfl (any_of HT_.out (by kernel_rfl)) (fun _ _ _ h => h) (Or.inl ⟨by rfl, ?_⟩) ?_ ?_
  rotate_left
  ·intro w'
   go_simp
   with_reducible rfl
  rotate_left
  ·simp only [Act.put, List.setIfInBounds_toArray, List.set_cons_zero, List.set_cons_succ, i64_w, i32_w]
   rfl
  refine one_ (i := 1) (N := some 27) #[true, true, true, true, true, false, false, false] rfl rfl (one_of HT_.out (by kernel_rfl)) (by decide) (fun K hK => ?_)
  refine goes_ Tryd.func28 (by kernel_rfl) rfl #[.pointer (some ⟨g, 0, none⟩)] (by rfl) rfl rfl (by (try simp only [List.map_toArray, List.map_cons, List.map_nil]); first | done | rfl | (simp only [List.length_drop, List.length_take]; rfl)) ?_
  with_reducible refine (script_reader_next.calls g s0_0 t220 t224 t225 w0 _ ?side1 ?side2 A28.out).mono ?_
  (case side1 => repeat (first | (with_reducible first | exact HI0.out | apply IsS54.alloc | apply IsS54.drewN | apply IsS54.drew | apply IsS54.set_1 | refine IsS54.far ?_ NB0_217.out _ | refine IsS54.far ?_ NB0_218.out _ | refine IsS54.far ?_ NB0_221.out _) | exact HI0.out))
  (case side2 => repeat (first | (with_reducible first | exact HB.out | apply below_alloc | apply pw_below_drewN | apply below_drew1 | refine below_set ?_ (IsS54.ge HI0.out) | refine below_set ?_ GE217.out | refine below_set ?_ GE218.out | refine below_set ?_ GE221.out) | exact HB.out))
  rintro e w32 ⟨rfl, hi, hb, hk⟩
  refine ⟨_, rfl, ?_⟩
  have n0_ := Aside0.mk (KeepBut.blk hk (g' := gb217) (o := .cells #[.int .i64 a1_0, .slice A1_1 l1_1.length c1_1, .slice A1_2 l1_2.length c1_2, .slice A1_3 l1_3.length c1_3] 28 (0, 0)) (by (with_reducible repeat (first | refine blk_drewN ?_ _ | refine blk_drew ?_ | refine blk_alloc ?_ _)); exact BK217.out) NB217_0.out (by simp))
  have n1_ := Aside0.mk (KeepBut.blk hk (g' := gb218) (o := .cells #[.int .i64 0, .int .i64 0, .int .i64 0, .bool false, .int .u64 0, .slice none 0 0] 39 (0, 0)) (by (with_reducible repeat (first | refine blk_drewN ?_ _ | refine blk_drew ?_ | refine blk_alloc ?_ _)); exact BK218.out) NB218_0.out (by simp))
  have n2_ := Aside0.mk (KeepBut.blk hk (g' := gb221) (o := .cells #[.int .i64 (Int.tmod t219 7), .int .i64 0, .int .i64 0, .bool false, .int .u64 0, .slice none 0 0] 39 (0, 0)) (by (with_reducible repeat (first | refine blk_drewN ?_ _ | refine blk_drew ?_ | refine blk_alloc ?_ _)); exact BK221.out) NB221_0.out (by simp))
  have n3_ := Aside0.mk (KeepBut.trans (by repeat (first | (with_reducible first | exact HK.out | apply KeepBut.set_ | apply keep_drewN | apply keep_drew | apply keep_alloc | refine keep_far ?_ GW217.out _ | refine keep_far ?_ GW218.out _ | refine keep_far ?_ GW221.out _) | exact HK.out)) hk (.inl rfl))
  have n4_ := Aside0.mk (hb)
  have n5_ := Aside0.mk (hi)
  clear BK217
  clear BK218
  clear BK221
  clear HK
  clear HB
  clear HI0
  have BK217 := n0_
  have BK218 := n1_
  have BK221 := n2_
  have HK := n3_
  have HB := n4_
  have HI0 := n5_
  clear n0_ n1_ n2_ n3_ n4_ n5_
  (try clear hb)
  (try clear hb2)
  (try clear hk)
  (try clear hi)
  refine hK.out _ _ ⟨(blk_cell BK217.out 0).trans rfl, (blk_cell BK217.out 1).trans rfl, (blk_cell BK217.out 2).trans rfl, (blk_cell BK217.out 3).trans rfl⟩ (fun hHeld => ?_)
  clear hK K
  refine norm_ (a' := ?_) ?_ ?_
  rotate_left
  ·show Act.put _ (some 27) _ = _
   simp only [Act.put, List.setIfInBounds_toArray, List.set_cons_zero, List.set_cons_succ, i64_w, i32_w]
   rfl
  refine pure_ (i := 5) (N := some 31) (v := ?_) (a' := ?_) #[true, true, true, true, true, true, false, false] rfl rfl (any_of HT_.out (by kernel_rfl)) (fun _ _ _ h => h) (Or.inl ⟨by rfl, ?_⟩) ?_ ?_
  rotate_left
  ·intro w'
   go_simp
   with_reducible rfl
  rotate_left
  ·simp only [Act.put, List.setIfInBounds_toArray, List.set_cons_zero, List.set_cons_succ, i64_w, i32_w]
   rfl
  refine pure_ (i := 6) (N := some 32) (v := ?_) (a' := ?_) #[true, true, true, true, true, true, true, false] rfl rfl (any_of HT_.out (by kernel_rfl)) (fun _ _ _ h => h) (Or.inl ⟨by rfl, ?_⟩) ?_ ?_
  rotate_left
  ·intro w'
   go_simp
   with_reducible rfl
  rotate_left
  ·simp only [Act.put, List.setIfInBounds_toArray, List.set_cons_zero, List.set_cons_succ, i64_w, i32_w]
   rfl
  refine one_ (i := 7) (N := none) #[true, true, true, true, true, true, true, true] rfl rfl (one_of HT_.out (by kernel_rfl)) (by decide) (fun K hK => ?_)
  have hs33 : w32.cell? ⟨gb221, 1, none⟩ = some (.int .i64 0) := (blk_cell BK221.out 1).trans rfl
  have hfs33 := blk_frozen BK221.out 1
  have hns33_0 := NB217_221.out
  have hns33_1 := NB218_221.out
  have hms33_0 := NB221_217.out
  have hms33_1 := NB221_218.out
  refine skip_ (w1 := ?_) (by rfl) rfl ?_ ?_
  rotate_left
  ·go_simp
   rfl
  refine hK.out _ _ ⟨((cell_far (p := ⟨gb221, _, none⟩) NB217_221.out _).trans (hHeld.1)), ((cell_far (p := ⟨gb221, _, none⟩) NB217_221.out _).trans (hHeld.2.1)), ((cell_far (p := ⟨gb221, _, none⟩) NB217_221.out _).trans (hHeld.2.2.1)), ((cell_far (p := ⟨gb221, _, none⟩) NB217_221.out _).trans (hHeld.2.2.2))⟩ (fun hHeld => ?_)
  clear hK K
  refine done_ (done_of HT_.out (by kernel_rfl)) ?_
  try go_wp2_with (first | ((with_reducible refine gate_callee (f := 28) rfl ?_); refine goesL_ (some 34) rfl rfl Tryd.func28 (by kernel_rfl) rfl #[.pointer (some ⟨g, 0, none⟩)] rfl (by (try simp only [List.map_toArray, List.map_cons, List.map_nil]); first | done | rfl | (simp only [List.length_drop, List.length_take]; rfl)) ?_; (with_reducible refine (script_reader_next.calls g s0_0 t225 t226 t227 w0 _ ?side1 ?side2 A30.out).mono ?_); (case side1 => repeat (first | (with_reducible first | exact HI0.out | apply IsS54.alloc | apply IsS54.drewN | apply IsS54.drew | apply IsS54.set_1 | refine IsS54.far ?_ NB0_217.out _ | refine IsS54.far ?_ NB0_218.out _ | refine IsS54.far ?_ NB0_221.out _) | exact HI0.out)); (case side2 => repeat (first | (with_reducible first | exact HB.out | apply below_alloc | apply pw_below_drewN | apply below_drew1 | refine below_set ?_ (IsS54.ge HI0.out) | refine below_set ?_ GE217.out | refine below_set ?_ GE218.out | refine below_set ?_ GE221.out) | exact HB.out)); rintro e w34 ⟨rfl, hi, hb, hk⟩; refine ⟨_, rfl, ?_⟩; have n0_ := Aside0.mk (KeepBut.blk hk (g' := gb217) (o := .cells #[.int .i64 a1_0, .slice A1_1 l1_1.length c1_1, .slice A1_2 l1_2.length c1_2, .slice A1_3 l1_3.length c1_3] 28 (0, 0)) (by (with_reducible repeat (first | refine blk_drewN ?_ _ | refine blk_drew ?_ | refine blk_alloc ?_ _)); refine blk_far ?_ NB217_221.out _; (with_reducible repeat (first | refine blk_drewN ?_ _ | refine blk_drew ?_ | refine blk_alloc ?_ _)); exact BK217.out) NB217_0.out (by simp)); have n1_ := Aside0.mk (KeepBut.blk hk (g' := gb218) (o := .cells #[.int .i64 0, .int .i64 0, .int .i64 0, .bool false, .int .u64 0, .slice none 0 0] 39 (0, 0)) (by (with_reducible repeat (first | refine blk_drewN ?_ _ | refine blk_drew ?_ | refine blk_alloc ?_ _)); refine blk_far ?_ NB218_221.out _; (with_reducible repeat (first | refine blk_drewN ?_ _ | refine blk_drew ?_ | refine blk_alloc ?_ _)); exact BK218.out) NB218_0.out (by simp)); have n2_ := Aside0.mk (KeepBut.blk hk (g' := gb221) (o := .cells #[.int .i64 (Int.tmod t219 7), .int .i64 (Int.tmod t224 (l1_1.length : Int)), .int .i64 0, .bool false, .int .u64 0, .slice none 0 0] 39 (0, 0)) (by (with_reducible repeat (first | refine blk_drewN ?_ _ | refine blk_drew ?_ | refine blk_alloc ?_ _)); refine blk_put (cs := #[.int .i64 (Int.tmod t219 7), .int .i64 0, .int .i64 0, .bool false, .int .u64 0, .slice none 0 0]) ?_ 1 _ rfl; (with_reducible repeat (first | refine blk_drewN ?_ _ | refine blk_drew ?_ | refine blk_alloc ?_ _)); exact BK221.out) NB221_0.out (by simp)); have n3_ := Aside0.mk (KeepBut.trans (by repeat (first | (with_reducible first | exact HK.out | apply KeepBut.set_ | apply keep_drewN | apply keep_drew | apply keep_alloc | refine keep_far ?_ GW217.out _ | refine keep_far ?_ GW218.out _ | refine keep_far ?_ GW221.out _) | exact HK.out)) hk (.inl rfl)); have n4_ := Aside0.mk (hb); have n5_ := Aside0.mk (hi); clear BK217; clear BK218; clear BK221; clear HK; clear HB; clear HI0; have BK217 := n0_; have BK218 := n1_; have BK221 := n2_; have HK := n3_; have HB := n4_; have HI0 := n5_; clear n0_ n1_ n2_ n3_ n4_ n5_; (try clear hb); (try clear hb2); (try clear hk); (try clear hi); have hnb35 := NB221_217.out; have hnc35 := NB217_221.out; have hnb36 := NB221_218.out; have hnc36 := NB218_221.out; have hnb37 := NB221_0.out; have hnc37 := NB0_221.out; have hcz38_0 : w34.cell? ⟨gb221, 0, none⟩ = some (.int .i64 (Int.tmod t219 7)) := (blk_cell BK221.out 0).trans rfl; have hcz38_1 : w34.cell? ⟨gb221, 1, none⟩ = some (.int .i64 (Int.tmod t224 (l1_1.length : Int))) := (blk_cell BK221.out 1).trans rfl; have hcz38_2 : w34.cell? ⟨gb221, 2, none⟩ = some (.int .i64 0) := (blk_cell BK221.out 2).trans rfl; have hcz38_3 : w34.cell? ⟨gb221, 3, none⟩ = some (.bool false) := (blk_cell BK221.out 3).trans rfl; have hcz38_4 : w34.cell? ⟨gb221, 4, none⟩ = some (.int .u64 0) := (blk_cell BK221.out 4).trans rfl; have hcz38_5 : w34.cell? ⟨gb221, 5, none⟩ = some (.slice none 0 0) := (blk_cell BK221.out 5).trans rfl; have hfz38_0 := blk_frozen BK221.out 0; have hfz38_1 := blk_frozen BK221.out 1; have hfz38_2 := blk_frozen BK221.out 2; have hfz38_3 := blk_frozen BK221.out 3; have hfz38_4 := blk_frozen BK221.out 4; have hfz38_5 := blk_frozen BK221.out 5; have hnb39 := NB218_217.out; have hnc39 := NB217_218.out; have hnb40 := NB218_0.out; have hnc40 := NB0_218.out; have hcz41_0 : w34.cell? ⟨gb218, 0, none⟩ = some (.int .i64 0) := (blk_cell BK218.out 0).trans rfl; have hcz41_1 : w34.cell? ⟨gb218, 1, none⟩ = some (.int .i64 0) := (blk_cell BK218.out 1).trans rfl; have hcz41_2 : w34.cell? ⟨gb218, 2, none⟩ = some (.int .i64 0) := (blk_cell BK218.out 2).trans rfl; have hcz41_3 : w34.cell? ⟨gb218, 3, none⟩ = some (.bool false) := (blk_cell BK218.out 3).trans rfl; have hcz41_4 : w34.cell? ⟨gb218, 4, none⟩ = some (.int .u64 0) := (blk_cell BK218.out 4).trans rfl; have hcz41_5 : w34.cell? ⟨gb218, 5, none⟩ = some (.slice none 0 0) := (blk_cell BK218.out 5).trans rfl; have hfz41_0 := blk_frozen BK218.out 0; have hfz41_1 := blk_frozen BK218.out 1; have hfz41_2 := blk_frozen BK218.out 2; have hfz41_3 := blk_frozen BK218.out 3; have hfz41_4 := blk_frozen BK218.out 4; have hfz41_5 := blk_frozen BK218.out 5))
  refine bodyPost_ret (results_cell_row rfl _ _ gb218 39 #[.int .i64 (Int.tmod t219 7), .int .i64 (Int.tmod t224 (l1_1.length : Int)), .int .i64 (Int.tmod t226 3), .bool (decide (t219 < 128)), .int .u64 0, .slice none 0 0] (0, 0) _ rfl (by (with_reducible repeat (first | refine blk_drewN ?_ _ | refine blk_drew ?_ | refine blk_alloc ?_ _)); refine blk_put (cs := #[.int .i64 (Int.tmod t219 7), .int .i64 (Int.tmod t224 (l1_1.length : Int)), .int .i64 (Int.tmod t226 3), .bool (decide (t219 < 128)), .int .u64 0, .slice none 0 0]) ?_ 5 _ rfl; (with_reducible repeat (first | refine blk_drewN ?_ _ | refine blk_drew ?_ | refine blk_alloc ?_ _)); refine blk_put (cs := #[.int .i64 (Int.tmod t219 7), .int .i64 (Int.tmod t224 (l1_1.length : Int)), .int .i64 (Int.tmod t226 3), .bool (decide (t219 < 128)), .int .u64 0, .slice none 0 0]) ?_ 4 _ rfl; (with_reducible repeat (first | refine blk_drewN ?_ _ | refine blk_drew ?_ | refine blk_alloc ?_ _)); refine blk_put (cs := #[.int .i64 (Int.tmod t219 7), .int .i64 (Int.tmod t224 (l1_1.length : Int)), .int .i64 (Int.tmod t226 3), .bool false, .int .u64 0, .slice none 0 0]) ?_ 3 _ rfl; (with_reducible repeat (first | refine blk_drewN ?_ _ | refine blk_drew ?_ | refine blk_alloc ?_ _)); refine blk_put (cs := #[.int .i64 (Int.tmod t219 7), .int .i64 (Int.tmod t224 (l1_1.length : Int)), .int .i64 0, .bool false, .int .u64 0, .slice none 0 0]) ?_ 2 _ rfl; (with_reducible repeat (first | refine blk_drewN ?_ _ | refine blk_drew ?_ | refine blk_alloc ?_ _)); refine blk_put (cs := #[.int .i64 (Int.tmod t219 7), .int .i64 0, .int .i64 0, .bool false, .int .u64 0, .slice none 0 0]) ?_ 1 _ rfl; (with_reducible repeat (first | refine blk_drewN ?_ _ | refine blk_drew ?_ | refine blk_alloc ?_ _)); refine blk_put (cs := #[.int .i64 0, .int .i64 0, .int .i64 0, .bool false, .int .u64 0, .slice none 0 0]) ?_ 0 _ rfl; (with_reducible repeat (first | refine blk_drewN ?_ _ | refine blk_drew ?_ | refine blk_alloc ?_ _)); refine blk_far ?_ NB218_221.out _; (with_reducible repeat (first | refine blk_drewN ?_ _ | refine blk_drew ?_ | refine blk_alloc ?_ _)); refine blk_far ?_ NB218_221.out _; (with_reducible repeat (first | refine blk_drewN ?_ _ | refine blk_drew ?_ | refine blk_alloc ?_ _)); exact BK218.out) Tryd.underlying39 rfl (by kernel_rfl)) rfl ?_
  exact ⟨_, by first | rfl | (simp [errW_none, errW_some] <;> rfl) | (simp [*, errW_none, errW_some] <;> rfl), by first | exact Kd.R_nil _ _ _ _ _ | exact Kd.N_nil _ _ _ _ _ | exact Kd.V_nil _ _ _ _ _ | exact Kd.Q_nil _ _ _ _ _ | exact Kd.S_nil _ _ _ _ _, by repeat (first | (with_reducible first | exact HI0.out | apply IsS54.alloc | apply IsS54.drewN | apply IsS54.drew | apply IsS54.set_1 | refine IsS54.far ?_ NB0_217.out _ | refine IsS54.far ?_ NB0_218.out _ | refine IsS54.far ?_ NB0_221.out _) | exact HI0.out), by repeat (first | (with_reducible first | exact HB.out | apply below_alloc | apply pw_below_drewN | apply below_drew1 | refine below_set ?_ (IsS54.ge HI0.out) | refine below_set ?_ GE217.out | refine below_set ?_ GE218.out | refine below_set ?_ GE221.out) | exact HB.out), by repeat (first | (with_reducible first | exact HK.out | apply KeepBut.set_ | apply keep_drewN | apply keep_drew | apply keep_alloc | refine keep_far ?_ GW217.out _ | refine keep_far ?_ GW218.out _ | refine keep_far ?_ GW221.out _) | exact HK.out)⟩
 rw [if_neg c27] at H
 have c27b0 : ((Int.tmod t219 7) == 5) = false := beq_eq_false_iff_ne.mpr c27
 have c27b1 : ((Int.tmod t219 7) != 5) = true := bne_iff_ne.mpr c27
 have HC42 := Aside0.mk H
 clear H
 go_upto_if 40 with (fail)
 go_cut [40] (fun v40 wc => ∃ (kq : Nat) (x40_41 : Bool), v40 = .bool x40_41 ∧ Aside0 (script_reader_op.j1 kq t219 (Int.tmod t219 7) x40_41 s0_0 t220 a1_0 l1_1 l1_2 l1_3 (Int.tmod t219 7) 0 0 false 0 = some (r1, r2, r3, r4, r5, r6, r7)) ∧ Aside0 (kq ≤ kj3) ∧ Aside0 (wc.heap[gb217]? = some (.cells #[.int .i64 a1_0, (.slice A1_1 l1_1.length c1_1), (.slice A1_2 l1_2.length c1_2), (.slice A1_3 l1_3.length c1_3)] 28 (0, 0))) ∧ Aside0 (wc.heap[gb218]? = some (.cells #[.int .i64 0, .int .i64 0, .int .i64 0, .bool false, .int .u64 0, (.slice none 0 0)] 39 (0, 0))) ∧ Aside0 (wc.heap[gb221]? = some (.cells #[.int .i64 (Int.tmod t219 7), .int .i64 0, .int .i64 0, .bool false, .int .u64 0, (.slice none 0 0)] 39 (0, 0))) ∧ Aside0 (IsS54 w0 wc g s0_0 t220) ∧ Aside0 (KeepBut w wc g none) ∧ Aside0 (Below w0.heap.size w0 wc))
 case first =>
  have H := HC42.out
  clear HC42
  by_cases c43 : (Int.tmod t219 7) = 1
  rotate_left
  ·rw [if_neg c43] at H
   have c43b0 : ((Int.tmod t219 7) == 1) = false := beq_eq_false_iff_ne.mpr c43
   have c43b1 : ((Int.tmod t219 7) != 1) = true := bne_iff_ne.mpr c43
   (first | rw [c43b0] | (simp only [i64_w, i32_w]; rw [c43b0]) | skip)
   have H' := Aside0.mk H
   clear H
   go_wp2
   go_meet
   case rel => exact ⟨_, (((Int.tmod t219 7) == 2)), (by first | rfl | (simp; done) | (simp [*]; done)), H', ⟨by have := HJ3.out; first | omega | exact Nat.le_refl _⟩, ⟨by (with_reducible repeat (first | refine blk_drewN ?_ _ | refine blk_drew ?_ | refine blk_alloc ?_ _)); exact BK217.out⟩, ⟨by (with_reducible repeat (first | refine blk_drewN ?_ _ | refine blk_drew ?_ | refine blk_alloc ?_ _)); exact BK218.out⟩, ⟨by (with_reducible repeat (first | refine blk_drewN ?_ _ | refine blk_drew ?_ | refine blk_alloc ?_ _)); exact BK221.out⟩, ⟨by repeat (first | (with_reducible first | exact HI0.out | apply IsS54.alloc | apply IsS54.drewN | apply IsS54.drew | apply IsS54.set_1 | refine IsS54.far ?_ NB0_217.out _ | refine IsS54.far ?_ NB0_218.out _ | refine IsS54.far ?_ NB0_221.out _) | exact HI0.out)⟩, ⟨by repeat (first | (with_reducible first | exact HK.out | apply KeepBut.set_ | apply keep_drewN | apply keep_drew | apply keep_alloc | refine keep_far ?_ GW217.out _ | refine keep_far ?_ GW218.out _ | refine keep_far ?_ GW221.out _) | exact HK.out)⟩, ⟨by repeat (first | (with_reducible first | exact HB.out | apply below_alloc | apply pw_below_drewN | apply below_drew1 | refine below_set ?_ (IsS54.ge HI0.out) | refine below_set ?_ GE217.out | refine below_set ?_ GE218.out | refine below_set ?_ GE221.out) | exact HB.out)⟩⟩
  rw [if_pos c43] at H
  have c43b0 : ((Int.tmod t219 7) == 1) = true := beq_iff_eq.mpr c43
  have c43b1 : ((Int.tmod t219 7) != 1) = false := bne_eq_false_iff_eq.mpr c43
  clear c43
  (first | rw [c43b0] | (simp only [i64_w, i32_w]; rw [c43b0]) | skip)
  have H' := Aside0.mk H
  clear H
  go_wp2
  go_meet
  case rel => exact ⟨_, (((Int.tmod t219 7) == 1)), (by first | rfl | (simp; done) | (simp [*]; done)), H', ⟨by have := HJ3.out; first | omega | exact Nat.le_refl _⟩, ⟨by (with_reducible repeat (first | refine blk_drewN ?_ _ | refine blk_drew ?_ | refine blk_alloc ?_ _)); exact BK217.out⟩, ⟨by (with_reducible repeat (first | refine blk_drewN ?_ _ | refine blk_drew ?_ | refine blk_alloc ?_ _)); exact BK218.out⟩, ⟨by (with_reducible repeat (first | refine blk_drewN ?_ _ | refine blk_drew ?_ | refine blk_alloc ?_ _)); exact BK221.out⟩, ⟨by repeat (first | (with_reducible first | exact HI0.out | apply IsS54.alloc | apply IsS54.drewN | apply IsS54.drew | apply IsS54.set_1 | refine IsS54.far ?_ NB0_217.out _ | refine IsS54.far ?_ NB0_218.out _ | refine IsS54.far ?_ NB0_221.out _) | exact HI0.out)⟩, ⟨by repeat (first | (with_reducible first | exact HK.out | apply KeepBut.set_ | apply keep_drewN | apply keep_drew | apply keep_alloc | refine keep_far ?_ GW217.out _ | refine keep_far ?_ GW218.out _ | refine keep_far ?_ GW221.out _) | exact HK.out)⟩, ⟨by repeat (first | (with_reducible first | exact HB.out | apply below_alloc | apply pw_below_drewN | apply below_drew1 | refine below_set ?_ (IsS54.ge HI0.out) | refine below_set ?_ GE217.out | refine below_set ?_ GE218.out | refine below_set ?_ GE221.out) | exact HB.out)⟩⟩
 clear HC42
 try clear c1
 try clear c2
 try clear p2
 try clear c3
 try clear c4
 try clear c9
 try clear c10
 try clear c11
 try clear c13
 try clear c13b0
 try clear c13b1
 try clear c14
 try clear c16
 try clear c16b0
 try clear c16b1
 try clear c16b2
 try clear c17
 try clear c20
 try clear c21
 try clear c22
 try clear c24
 try clear c25
 try clear c27
 try clear c27b0
 try clear c27b1
 try clear c28
 try clear c29
 try clear c29b0
 try clear c29b1
 try clear c29b2
 try clear c35
 try clear c36
 try clear c37
 try clear c39
 try clear c40
 try clear c43
 try clear c43b0
 try clear c43b1
 try clear hcz12_0
 try clear hcz12_1
 try clear hcz12_2
 try clear hcz12_3
 try clear hcz12_4
 try clear hcz12_5
 try clear hcz23_0
 try clear hcz23_1
 try clear hcz23_2
 try clear hcz23_3
 try clear hcz23_4
 try clear hcz23_5
 try clear hcz26_0
 try clear hcz26_1
 try clear hcz26_2
 try clear hcz26_3
 try clear hcz26_4
 try clear hcz26_5
 try clear hcz38_0
 try clear hcz38_1
 try clear hcz38_2
 try clear hcz38_3
 try clear hcz38_4
 try clear hcz38_5
 try clear hcz41_0
 try clear hcz41_1
 try clear hcz41_2
 try clear hcz41_3
 try clear hcz41_4
 try clear hcz41_5
 try clear hfz12_0
 try clear hfz12_1
 try clear hfz12_2
 try clear hfz12_3
 try clear hfz12_4
 try clear hfz12_5
 try clear hfz23_0
 try clear hfz23_1
 try clear hfz23_2
 try clear hfz23_3
 try clear hfz23_4
 try clear hfz23_5
 try clear hfz26_0
 try clear hfz26_1
 try clear hfz26_2
 try clear hfz26_3
 try clear hfz26_4
 try clear hfz26_5
 try clear hfz38_0
 try clear hfz38_1
 try clear hfz38_2
 try clear hfz38_3
 try clear hfz38_4
 try clear hfz38_5
 try clear hfz41_0
 try clear hfz41_1
 try clear hfz41_2
 try clear hfz41_3
 try clear hfz41_4
 try clear hfz41_5
 try clear p2
 obtain ⟨kq, x40_41, rfl, HA, HJ41, BK217, BK218, BK221, HI0, HK, HB⟩ := hcut
 cases kq with
 | zero => exact absurd HA.out (by simp [script_reader_op.j1])
 | succ kj41 => ?_
 have H := HA.out
 clear HA
 simp only [script_reader_op.j1] at H
 by_cases c44 : x40_41 = true
 ·subst c44
  have H1 : ((script_reader_next.f s0_0 t220).bind fun bt228 => (if a1_0 = 0 then (none) else ((script_reader_next.f s0_0 bt228.2).bind fun bt230 => (some ((Int.tmod t219 7), Int.tmod bt228.1 a1_0, bt230.1, false, 0, ([] : List Int), bt230.2))))) = some (r1, r2, r3, r4, r5, r6, r7) := by rw [if_pos rfl] at H; exact H
  clear H
  have H := H1
  clear H1
  replace H := Option.bind_eq_some_iff.mp H
  obtain ⟨⟨t228, t229⟩, A450, H⟩ := H
  replace H : (if a1_0 = 0 then (none) else ((script_reader_next.f s0_0 t229).bind fun bt230 => (some ((Int.tmod t219 7), Int.tmod t228 a1_0, bt230.1, false, 0, ([] : List Int), bt230.2)))) = some (r1, r2, r3, r4, r5, r6, r7) := H
  have A45 := Aside0.mk A450
  clear A450
  by_cases c46 : a1_0 = 0
  ·rw [if_pos c46] at H
   exact absurd H (by simp)
  rw [if_neg c46] at H
  have c46b0 : (a1_0 == 0) = false := beq_eq_false_iff_ne.mpr c46
  have c46b1 : (a1_0 != 0) = true := bne_iff_ne.mpr c46
  replace H := Option.bind_eq_some_iff.mp H
  obtain ⟨⟨t230, t231⟩, A470, H⟩ := H
  replace H : (some ((Int.tmod t219 7), Int.tmod t228 a1_0, t230, false, 0, ([] : List Int), t231)) = some (r1, r2, r3, r4, r5, r6, r7) := H
  have A47 := Aside0.mk A470
  clear A470
  simp only [Option.some.injEq, Prod.mk.injEq] at H
  obtain ⟨rfl, rfl, rfl, rfl, rfl, rfl, rfl⟩ := H
  try go_wp2
  have n0_ := Aside0.mk (blk_drew BK217.out)
  have n1_ := Aside0.mk (blk_drew BK218.out)
  have n2_ := Aside0.mk (blk_drew BK221.out)
  have n3_ := Aside0.mk (IsS54.drew HI0.out)
  have n4_ := Aside0.mk (keep_drew HK.out)
  have n5_ := Aside0.mk (below_drew1 HB.out)
  clear BK217
  clear BK218
  clear BK221
  clear HI0
  clear HK
  clear HB
  have BK217 := n0_
  have BK218 := n1_
  have BK221 := n2_
  have HI0 := n3_
  have HK := n4_
  have HB := n5_
  clear n0_ n1_ n2_ n3_ n4_ n5_
  refine start_ (n := 11) (S := fun w' => w'.cell? ⟨gb217, 0, none⟩ = some (.int .i64 a1_0) ∧ w'.cell? ⟨gb217, 1, none⟩ = some (.slice A1_1 l1_1.length c1_1) ∧ w'.cell? ⟨gb217, 2, none⟩ = some (.slice A1_2 l1_2.length c1_2) ∧ w'.cell? ⟨gb217, 3, none⟩ = some (.slice A1_3 l1_3.length c1_3)) (ds := []) #[false, false, false, false, false, false, false, false, false, false, false] (by kernel_rfl) rfl rfl ⟨(blk_cell BK217.out 0).trans rfl, (blk_cell BK217.out 1).trans rfl, (blk_cell BK217.out 2).trans rfl, (blk_cell BK217.out 3).trans rfl⟩ (fun hHeld => ?_); refine with_tabW script_reader_op.tab12 script_reader_op.bits12 (fun HT_ HW_ => ?_)
  generalize wc.drew = w48 at BK217 BK218 BK221 HI0 HK HB hHeld ⊢
  refine pure_ (i := 0) (N := some 43) (v := ?_) (a' := ?_) #[true, false, false, false, false, false, false, false, false, false, false] rfl rfl (any_of HT_.out (by kernel_rfl)) (fun _ _ _ h => h) (Or.inl ⟨by rfl, ?_⟩) ?_ ?_
  rotate_left
  ·intro w'
   go_simp
   with_reducible rfl
  rotate_left
  ·simp only [Act.put, List.setIfInBounds_toArray, List.set_cons_zero, List.set_cons_succ, i64_w, i32_w]
   rfl
  refine pure_ (i := 2) (N := some 45) (v := ?_) (a' := ?_) #[true, false, true, false, false, false, false, false, false, false, false] rfl rfl (any_of HT_.out (by kernel_rfl)) (fun _ _ _ h => h) (Or.inl ⟨by rfl, ?_⟩) ?_ ?_
  rotate_left
  ·intro w'
   go_simp
   with_reducible rfl
  rotate_left
  ·simp only [Act.put, List.setIfInBounds_toArray, List.set_cons_zero, List.set_cons_succ, i64_w, i32_w]
   rfl
  refine pure_ (i := 5) (N := some 48) (v := ?_) (a' := ?_) #[true, false, true, false, false, true, false, false, false, false, false] rfl rfl (any_of HT_.out (by kernel_rfl)) (fun _ _ _ h => h) (Or.inl ⟨by rfl, ?_⟩) ?_ ?_
  rotate_left
  ·intro w'
   go_simp
   with_reducible rfl
  rotate_left
  ·simp only [Act.put, List.setIfInBounds_toArray, List.set_cons_zero, List.set_cons_succ, i64_w, i32_w]
   rfl
  refine take_ (i := 3) (N := some 46) (v := ?_) (a' := ?_) #[true, false, true, true, false, true, false, false, false, false, false] rfl rfl (take_ofW HT_.out HW_.out (by kernel_rfl)) (fun _ _ _ h => h) (Or.inl ⟨by rfl, ?_⟩) hHeld ?_ ?_
  rotate_left
  ·rintro w' ⟨s0, s1, s2, s3⟩
   go_simp
   with_reducible rfl
  rotate_left
  ·simp only [Act.put, List.setIfInBounds_toArray, List.set_cons_zero, List.set_cons_succ, i64_w, i32_w]
   rfl
  refine one_ (i := 1) (N := some 44) #[true, true, true, true, false, true, false, false, false, false, false] rfl rfl (one_of HT_.out (by kernel_rfl)) (by decide) (fun K hK => ?_)
  refine goes_ Tryd.func28 (by kernel_rfl) rfl #[.pointer (some ⟨g, 0, none⟩)] (by rfl) rfl rfl (by (try simp only [List.map_toArray, List.map_cons, List.map_nil]); first | done | rfl | (simp only [List.length_drop, List.length_take]; rfl)) ?_
  with_reducible refine (script_reader_next.calls g s0_0 t220 t228 t229 w0 _ ?side1 ?side2 A45.out).mono ?_
  (case side1 => repeat (first | (with_reducible first | exact HI0.out | apply IsS54.alloc | apply IsS54.drewN | apply IsS54.drew | apply IsS54.set_1 | refine IsS54.far ?_ NB0_217.out _ | refine IsS54.far ?_ NB0_218.out _ | refine IsS54.far ?_ NB0_221.out _) | exact HI0.out))
  (case side2 => repeat (first | (with_reducible first | exact HB.out | apply below_alloc | apply pw_below_drewN | apply below_drew1 | refine below_set ?_ (IsS54.ge HI0.out) | refine below_set ?_ GE217.out | refine below_set ?_ GE218.out | refine below_set ?_ GE221.out) | exact HB.out))
  rintro e w49 ⟨rfl, hi, hb, hk⟩
  refine ⟨_, rfl, ?_⟩
  have n0_ := Aside0.mk (KeepBut.blk hk (g' := gb217) (o := .cells #[.int .i64 a1_0, .slice A1_1 l1_1.length c1_1, .slice A1_2 l1_2.length c1_2, .slice A1_3 l1_3.length c1_3] 28 (0, 0)) (by (with_reducible repeat (first | refine blk_drewN ?_ _ | refine blk_drew ?_ | refine blk_alloc ?_ _)); exact BK217.out) NB217_0.out (by simp))
  have n1_ := Aside0.mk (KeepBut.blk hk (g' := gb218) (o := .cells #[.int .i64 0, .int .i64 0, .int .i64 0, .bool false, .int .u64 0, .slice none 0 0] 39 (0, 0)) (by (with_reducible repeat (first | refine blk_drewN ?_ _ | refine blk_drew ?_ | refine blk_alloc ?_ _)); exact BK218.out) NB218_0.out (by simp))
  have n2_ := Aside0.mk (KeepBut.blk hk (g' := gb221) (o := .cells #[.int .i64 (Int.tmod t219 7), .int .i64 0, .int .i64 0, .bool false, .int .u64 0, .slice none 0 0] 39 (0, 0)) (by (with_reducible repeat (first | refine blk_drewN ?_ _ | refine blk_drew ?_ | refine blk_alloc ?_ _)); exact BK221.out) NB221_0.out (by simp))
  have n3_ := Aside0.mk (KeepBut.trans (by repeat (first | (with_reducible first | exact HK.out | apply KeepBut.set_ | apply keep_drewN | apply keep_drew | apply keep_alloc | refine keep_far ?_ GW217.out _ | refine keep_far ?_ GW218.out _ | refine keep_far ?_ GW221.out _) | exact HK.out)) hk (.inl rfl))
  have n4_ := Aside0.mk (hb)
  have n5_ := Aside0.mk (hi)
  clear BK217
  clear BK218
  clear BK221
  clear HK
  clear HB
  clear HI0
  have BK217 := n0_
  have BK218 := n1_
  have BK221 := n2_
  have HK := n3_
  have HB := n4_
  have HI0 := n5_
  clear n0_ n1_ n2_ n3_ n4_ n5_
  (try clear hb)
  (try clear hb2)
  (try clear hk)
  (try clear hi)
  refine hK.out _ _ ⟨(blk_cell BK217.out 0).trans rfl, (blk_cell BK217.out 1).trans rfl, (blk_cell BK217.out 2).trans rfl, (blk_cell BK217.out 3).trans rfl⟩ (fun hHeld => ?_)
  clear hK K
  refine norm_ (a' := ?_) ?_ ?_
  rotate_left
  ·show Act.put _ (some 44) _ = _
   simp only [Act.put, List.setIfInBounds_toArray, List.set_cons_zero, List.set_cons_succ, i64_w, i32_w]
   rfl
  refine pure_ (i := 4) (N := some 47) (v := ?_) (a' := ?_) #[true, true, true, true, true, true, false, false, false, false, false] rfl rfl (any_of HT_.out (by kernel_rfl)) (fun _ _ _ h => h) (Or.inl ⟨by rfl, ?_⟩) ?_ ?_
  rotate_left
  ·intro w'
   go_simp
   with_reducible rfl
  rotate_left
  ·simp only [Act.put, List.setIfInBounds_toArray, List.set_cons_zero, List.set_cons_succ, i64_w, i32_w]
   rfl
  refine pure_ (i := 7) (N := some 50) (v := ?_) (a' := ?_) #[true, true, true, true, true, true, false, true, false, false, false] rfl rfl (any_of HT_.out (by kernel_rfl)) (fun _ _ _ h => h) (Or.inl ⟨by rfl, ?_⟩) ?_ ?_
  rotate_left
  ·intro w'
   go_simp
   with_reducible rfl
  rotate_left
  ·simp only [Act.put, List.setIfInBounds_toArray, List.set_cons_zero, List.set_cons_succ, i64_w, i32_w]
   rfl
  refine one_ (i := 6) (N := some 49) #[true, true, true, true, true, true, true, true, false, false, false] rfl rfl (one_of HT_.out (by kernel_rfl)) (by decide) (fun K hK => ?_)
  refine goes_ Tryd.func28 (by kernel_rfl) rfl #[.pointer (some ⟨g, 0, none⟩)] (by rfl) rfl rfl (by (try simp only [List.map_toArray, List.map_cons, List.map_nil]); first | done | rfl | (simp only [List.length_drop, List.length_take]; rfl)) ?_
  with_reducible refine (script_reader_next.calls g s0_0 t229 t230 t231 w0 _ ?side1 ?side2 A47.out).mono ?_
  (case side1 => repeat (first | (with_reducible first | exact HI0.out | apply IsS54.alloc | apply IsS54.drewN | apply IsS54.drew | apply IsS54.set_1 | refine IsS54.far ?_ NB0_217.out _ | refine IsS54.far ?_ NB0_218.out _ | refine IsS54.far ?_ NB0_221.out _) | exact HI0.out))
  (case side2 => repeat (first | (with_reducible first | exact HB.out | apply below_alloc | apply pw_below_drewN | apply below_drew1 | refine below_set ?_ (IsS54.ge HI0.out) | refine below_set ?_ GE217.out | refine below_set ?_ GE218.out | refine below_set ?_ GE221.out) | exact HB.out))
  rintro e w50 ⟨rfl, hi, hb, hk⟩
  refine ⟨_, rfl, ?_⟩
  have n0_ := Aside0.mk (KeepBut.blk hk (g' := gb217) (o := .cells #[.int .i64 a1_0, .slice A1_1 l1_1.length c1_1, .slice A1_2 l1_2.length c1_2, .slice A1_3 l1_3.length c1_3] 28 (0, 0)) (by (with_reducible repeat (first | refine blk_drewN ?_ _ | refine blk_drew ?_ | refine blk_alloc ?_ _)); exact BK217.out) NB217_0.out (by simp))
  have n1_ := Aside0.mk (KeepBut.blk hk (g' := gb218) (o := .cells #[.int .i64 0, .int .i64 0, .int .i64 0, .bool false, .int .u64 0, .slice none 0 0] 39 (0, 0)) (by (with_reducible repeat (first | refine blk_drewN ?_ _ | refine blk_drew ?_ | refine blk_alloc ?_ _)); exact BK218.out) NB218_0.out (by simp))
  have n2_ := Aside0.mk (KeepBut.blk hk (g' := gb221) (o := .cells #[.int .i64 (Int.tmod t219 7), .int .i64 0, .int .i64 0, .bool false, .int .u64 0, .slice none 0 0] 39 (0, 0)) (by (with_reducible repeat (first | refine blk_drewN ?_ _ | refine blk_drew ?_ | refine blk_alloc ?_ _)); exact BK221.out) NB221_0.out (by simp))
  have n3_ := Aside0.mk (KeepBut.trans (by repeat (first | (with_reducible first | exact HK.out | apply KeepBut.set_ | apply keep_drewN | apply keep_drew | apply keep_alloc | refine keep_far ?_ GW217.out _ | refine keep_far ?_ GW218.out _ | refine keep_far ?_ GW221.out _) | exact HK.out)) hk (.inl rfl))
  have n4_ := Aside0.mk (hb)
  have n5_ := Aside0.mk (hi)
  clear BK217
  clear BK218
  clear BK221
  clear HK
  clear HB
  clear HI0
  have BK217 := n0_
  have BK218 := n1_
  have BK221 := n2_
  have HK := n3_
  have HB := n4_
  have HI0 := n5_
  clear n0_ n1_ n2_ n3_ n4_ n5_
  (try clear hb)
  (try clear hb2)
  (try clear hk)
  (try clear hi)
  refine hK.out _ _ ⟨(blk_cell BK217.out 0).trans rfl, (blk_cell BK217.out 1).trans rfl, (blk_cell BK217.out 2).trans rfl, (blk_cell BK217.out 3).trans rfl⟩ (fun hHeld => ?_)
  clear hK K
  refine norm_ (a' := ?_) ?_ ?_
  rotate_left
  ·show Act.put _ (some 49) _ = _
   simp only [Act.put, List.setIfInBounds_toArray, List.set_cons_zero, List.set_cons_succ, i64_w, i32_w]
   rfl
  refine one_ (i := 8) (N := none) #[true, true, true, true, true, true, true, true, true, false, false] rfl rfl (one_of HT_.out (by kernel_rfl)) (by decide) (fun K hK => ?_)
  have hs51 : w50.cell? ⟨gb221, 1, none⟩ = some (.int .i64 0) := (blk_cell BK221.out 1).trans rfl
  have hfs51 := blk_frozen BK221.out 1
  have hns51_0 := NB217_221.out
  have hns51_1 := NB218_221.out
  have hms51_0 := NB221_217.out
  have hms51_1 := NB221_218.out
  refine skip_ (w1 := ?_) (by rfl) rfl ?_ ?_
  rotate_left
  ·go_simp
   rfl
  refine hK.out _ _ ⟨((cell_far (p := ⟨gb221, _, none⟩) NB217_221.out _).trans (hHeld.1)), ((cell_far (p := ⟨gb221, _, none⟩) NB217_221.out _).trans (hHeld.2.1)), ((cell_far (p := ⟨gb221, _, none⟩) NB217_221.out _).trans (hHeld.2.2.1)), ((cell_far (p := ⟨gb221, _, none⟩) NB217_221.out _).trans (hHeld.2.2.2))⟩ (fun hHeld => ?_)
  clear hK K
  refine pure_ (i := 9) (N := some 51) (v := ?_) (a' := ?_) #[true, true, true, true, true, true, true, true, true, true, false] rfl rfl (any_of HT_.out (by kernel_rfl)) (fun _ _ _ h => h) (Or.inl ⟨by rfl, ?_⟩) ?_ ?_
  rotate_left
  ·intro w'
   go_simp
   with_reducible rfl
  rotate_left
  ·simp only [Act.put, List.setIfInBounds_toArray, List.set_cons_zero, List.set_cons_succ, i64_w, i32_w]
   rfl
  refine one_ (i := 10) (N := none) #[true, true, true, true, true, true, true, true, true, true, true] rfl rfl (one_of HT_.out (by kernel_rfl)) (by decide) (fun K hK => ?_)
  have hs52 : w50.cell? ⟨gb221, 2, none⟩ = some (.int .i64 0) := (blk_cell BK221.out 2).trans rfl
  have hfs52 := blk_frozen BK221.out 2
  have hns52_0 := NB217_221.out
  have hns52_1 := NB218_221.out
  have hms52_0 := NB221_217.out
  have hms52_1 := NB221_218.out
  refine skip_ (w1 := ?_) (by rfl) rfl ?_ ?_
  rotate_left
  ·go_simp
   rfl
  refine hK.out _ _ ⟨((cell_far (p := ⟨gb221, _, none⟩) NB217_221.out _).trans (hHeld.1)), ((cell_far (p := ⟨gb221, _, none⟩) NB217_221.out _).trans (hHeld.2.1)), ((cell_far (p := ⟨gb221, _, none⟩) NB217_221.out _).trans (hHeld.2.2.1)), ((cell_far (p := ⟨gb221, _, none⟩) NB217_221.out _).trans (hHeld.2.2.2))⟩ (fun hHeld => ?_)
  clear hK K
  refine done_ (done_of HT_.out (by kernel_rfl)) ?_
  have hnb53 := NB221_217.out
  have hnc53 := NB217_221.out
  have hnb54 := NB221_218.out
  have hnc54 := NB218_221.out
  have hnb55 := NB221_0.out
  have hnc55 := NB0_221.out
  have hcz56_0 : w50.cell? ⟨gb221, 0, none⟩ = some (.int .i64 (Int.tmod t219 7)) := (blk_cell BK221.out 0).trans rfl
  have hcz56_1 : w50.cell? ⟨gb221, 1, none⟩ = some (.int .i64 0) := (blk_cell BK221.out 1).trans rfl
  have hcz56_2 : w50.cell? ⟨gb221, 2, none⟩ = some (.int .i64 0) := (blk_cell BK221.out 2).trans rfl
  have hcz56_3 : w50.cell? ⟨gb221, 3, none⟩ = some (.bool false) := (blk_cell BK221.out 3).trans rfl
  have hcz56_4 : w50.cell? ⟨gb221, 4, none⟩ = some (.int .u64 0) := (blk_cell BK221.out 4).trans rfl
  have hcz56_5 : w50.cell? ⟨gb221, 5, none⟩ = some (.slice none 0 0) := (blk_cell BK221.out 5).trans rfl
  have hfz56_0 := blk_frozen BK221.out 0
  have hfz56_1 := blk_frozen BK221.out 1
  have hfz56_2 := blk_frozen BK221.out 2
  have hfz56_3 := blk_frozen BK221.out 3
  have hfz56_4 := blk_frozen BK221.out 4
  have hfz56_5 := blk_frozen BK221.out 5
  have hnb57 := NB218_217.out
  have hnc57 := NB217_218.out
  have hnb58 := NB218_0.out
  have hnc58 := NB0_218.out
  have hcz59_0 : w50.cell? ⟨gb218, 0, none⟩ = some (.int .i64 0) := (blk_cell BK218.out 0).trans rfl
  have hcz59_1 : w50.cell? ⟨gb218, 1, none⟩ = some (.int .i64 0) := (blk_cell BK218.out 1).trans rfl
  have hcz59_2 : w50.cell? ⟨gb218, 2, none⟩ = some (.int .i64 0) := (blk_cell BK218.out 2).trans rfl
  have hcz59_3 : w50.cell? ⟨gb218, 3, none⟩ = some (.bool false) := (blk_cell BK218.out 3).trans rfl
  have hcz59_4 : w50.cell? ⟨gb218, 4, none⟩ = some (.int .u64 0) := (blk_cell BK218.out 4).trans rfl
  have hcz59_5 : w50.cell? ⟨gb218, 5, none⟩ = some (.slice none 0 0) := (blk_cell BK218.out 5).trans rfl
  have hfz59_0 := blk_frozen BK218.out 0
  have hfz59_1 := blk_frozen BK218.out 1
  have hfz59_2 := blk_frozen BK218.out 2
  have hfz59_3 := blk_frozen BK218.out 3
  have hfz59_4 := blk_frozen BK218.out 4
  have hfz59_5 := blk_frozen BK218.out 5
  try go_wp2
  refine bodyPost_ret (results_cell_row rfl _ _ gb218 39 #[.int .i64 (Int.tmod t219 7), .int .i64 (Int.tmod t228 a1_0), .int .i64 t230, .bool false, .int .u64 0, .slice none 0 0] (0, 0) _ rfl (by (with_reducible repeat (first | refine blk_drewN ?_ _ | refine blk_drew ?_ | refine blk_alloc ?_ _)); refine blk_put (cs := #[.int .i64 (Int.tmod t219 7), .int .i64 (Int.tmod t228 a1_0), .int .i64 t230, .bool false, .int .u64 0, .slice none 0 0]) ?_ 5 _ rfl; (with_reducible repeat (first | refine blk_drewN ?_ _ | refine blk_drew ?_ | refine blk_alloc ?_ _)); refine blk_put (cs := #[.int .i64 (Int.tmod t219 7), .int .i64 (Int.tmod t228 a1_0), .int .i64 t230, .bool false, .int .u64 0, .slice none 0 0]) ?_ 4 _ rfl; (with_reducible repeat (first | refine blk_drewN ?_ _ | refine blk_drew ?_ | refine blk_alloc ?_ _)); refine blk_put (cs := #[.int .i64 (Int.tmod t219 7), .int .i64 (Int.tmod t228 a1_0), .int .i64 t230, .bool false, .int .u64 0, .slice none 0 0]) ?_ 3 _ rfl; (with_reducible repeat (first | refine blk_drewN ?_ _ | refine blk_drew ?_ | refine blk_alloc ?_ _)); refine blk_put (cs := #[.int .i64 (Int.tmod t219 7), .int .i64 (Int.tmod t228 a1_0), .int .i64 0, .bool false, .int .u64 0, .slice none 0 0]) ?_ 2 _ rfl; (with_reducible repeat (first | refine blk_drewN ?_ _ | refine blk_drew ?_ | refine blk_alloc ?_ _)); refine blk_put (cs := #[.int .i64 (Int.tmod t219 7), .int .i64 0, .int .i64 0, .bool false, .int .u64 0, .slice none 0 0]) ?_ 1 _ rfl; (with_reducible repeat (first | refine blk_drewN ?_ _ | refine blk_drew ?_ | refine blk_alloc ?_ _)); refine blk_put (cs := #[.int .i64 0, .int .i64 0, .int .i64 0, .bool false, .int .u64 0, .slice none 0 0]) ?_ 0 _ rfl; (with_reducible repeat (first | refine blk_drewN ?_ _ | refine blk_drew ?_ | refine blk_alloc ?_ _)); refine blk_far ?_ NB218_221.out _; (with_reducible repeat (first | refine blk_drewN ?_ _ | refine blk_drew ?_ | refine blk_alloc ?_ _)); refine blk_far ?_ NB218_221.out _; (with_reducible repeat (first | refine blk_drewN ?_ _ | refine blk_drew ?_ | refine blk_alloc ?_ _)); exact BK218.out) Tryd.underlying39 rfl (by kernel_rfl)) rfl ?_
  exact ⟨_, by first | rfl | (simp [errW_none, errW_some] <;> rfl) | (simp [*, errW_none, errW_some] <;> rfl), by first | exact Kd.R_nil _ _ _ _ _ | exact Kd.N_nil _ _ _ _ _ | exact Kd.V_nil _ _ _ _ _ | exact Kd.Q_nil _ _ _ _ _ | exact Kd.S_nil _ _ _ _ _, by repeat (first | (with_reducible first | exact HI0.out | apply IsS54.alloc | apply IsS54.drewN | apply IsS54.drew | apply IsS54.set_1 | refine IsS54.far ?_ NB0_217.out _ | refine IsS54.far ?_ NB0_218.out _ | refine IsS54.far ?_ NB0_221.out _) | exact HI0.out), by repeat (first | (with_reducible first | exact HB.out | apply below_alloc | apply pw_below_drewN | apply below_drew1 | refine below_set ?_ (IsS54.ge HI0.out) | refine below_set ?_ GE217.out | refine below_set ?_ GE218.out | refine below_set ?_ GE221.out) | exact HB.out), by repeat (first | (with_reducible first | exact HK.out | apply KeepBut.set_ | apply keep_drewN | apply keep_drew | apply keep_alloc | refine keep_far ?_ GW217.out _ | refine keep_far ?_ GW218.out _ | refine keep_far ?_ GW221.out _) | exact HK.out)⟩
 replace c44 := Bool.eq_false_iff.mpr c44
 subst c44
 have H1 : (if (Int.tmod t219 7) = 3 then ((script_reader_next.f s0_0 t220).bind fun bt232 => (if a1_0 = 0 then (none) else ((script_reader_next.f s0_0 bt232.2).bind fun bt234 => ((script_reader_some.f kj41 s0_0 bt234.2 (Int.tmod bt234.1 60)).bind fun bt236 => (if t219 < 128 then ((script_address.f 3 0).bind fun t240 => ((frame_Wrap.f t240 bt236.1).bind fun bt241 => ((frame_Put.f kj41 bt241.1 bt241.2.1 bt241.2.2.1 bt241.2.2.2).bind fun bt247 => (some ((Int.tmod t219 7), Int.tmod bt232.1 a1_0, 0, false, 0, bt247.1, bt236.2))))) else (some ((Int.tmod t219 7), Int.tmod bt232.1 a1_0, 0, false, 0, bt236.1, bt236.2))))))) else (if (Int.tmod t219 7) = 6 then ((script_reader_next.f s0_0 t220).bind fun bt251 => ((script_reader_next.f s0_0 bt251.2).bind fun bt253 => ((script_to.f bt253.1).bind fun t255 => ((script_reader_next.f s0_0 bt253.2).bind fun bt256 => ((script_reader_some.f kj41 s0_0 bt256.2 (Int.tmod bt256.1 3)).bind fun bt258 => (some ((Int.tmod t219 7), Int.tmod bt251.1 4, 0, false, t255, bt258.1, bt258.2))))))) else (some ((Int.tmod t219 7), 0, 0, false, 0, ([] : List Int), t220)))) = some (r1, r2, r3, r4, r5, r6, r7) := by rw [if_neg (show ¬ (false = true) by decide)] at H; exact H
 clear H
 have H := H1
 clear H1
 by_cases c60 : (Int.tmod t219 7) = 3
 rotate_left
 ·rw [if_neg c60] at H
  have c60b0 : ((Int.tmod t219 7) == 3) = false := beq_eq_false_iff_ne.mpr c60
  have c60b1 : ((Int.tmod t219 7) != 3) = true := bne_iff_ne.mpr c60
  by_cases c103 : (Int.tmod t219 7) = 6
  rotate_left
  ·rw [if_neg c103] at H
   have c103b0 : ((Int.tmod t219 7) == 6) = false := beq_eq_false_iff_ne.mpr c103
   have c103b1 : ((Int.tmod t219 7) != 6) = true := bne_iff_ne.mpr c103
   simp only [Option.some.injEq, Prod.mk.injEq] at H
   obtain ⟨rfl, rfl, rfl, rfl, rfl, rfl, rfl⟩ := H
   have hnb122 := NB221_217.out
   have hnc122 := NB217_221.out
   have hnb123 := NB221_218.out
   have hnc123 := NB218_221.out
   have hnb124 := NB221_0.out
   have hnc124 := NB0_221.out
   have hcz125_0 : wc.cell? ⟨gb221, 0, none⟩ = some (.int .i64 (Int.tmod t219 7)) := (blk_cell BK221.out 0).trans rfl
   have hcz125_1 : wc.cell? ⟨gb221, 1, none⟩ = some (.int .i64 0) := (blk_cell BK221.out 1).trans rfl
   have hcz125_2 : wc.cell? ⟨gb221, 2, none⟩ = some (.int .i64 0) := (blk_cell BK221.out 2).trans rfl
   have hcz125_3 : wc.cell? ⟨gb221, 3, none⟩ = some (.bool false) := (blk_cell BK221.out 3).trans rfl
   have hcz125_4 : wc.cell? ⟨gb221, 4, none⟩ = some (.int .u64 0) := (blk_cell BK221.out 4).trans rfl
   have hcz125_5 : wc.cell? ⟨gb221, 5, none⟩ = some (.slice none 0 0) := (blk_cell BK221.out 5).trans rfl
   have hfz125_0 := blk_frozen BK221.out 0
   have hfz125_1 := blk_frozen BK221.out 1
   have hfz125_2 := blk_frozen BK221.out 2
   have hfz125_3 := blk_frozen BK221.out 3
   have hfz125_4 := blk_frozen BK221.out 4
   have hfz125_5 := blk_frozen BK221.out 5
   have hnb126 := NB218_217.out
   have hnc126 := NB217_218.out
   have hnb127 := NB218_0.out
   have hnc127 := NB0_218.out
   have hcz128_0 : wc.cell? ⟨gb218, 0, none⟩ = some (.int .i64 0) := (blk_cell BK218.out 0).trans rfl
   have hcz128_1 : wc.cell? ⟨gb218, 1, none⟩ = some (.int .i64 0) := (blk_cell BK218.out 1).trans rfl
   have hcz128_2 : wc.cell? ⟨gb218, 2, none⟩ = some (.int .i64 0) := (blk_cell BK218.out 2).trans rfl
   have hcz128_3 : wc.cell? ⟨gb218, 3, none⟩ = some (.bool false) := (blk_cell BK218.out 3).trans rfl
   have hcz128_4 : wc.cell? ⟨gb218, 4, none⟩ = some (.int .u64 0) := (blk_cell BK218.out 4).trans rfl
   have hcz128_5 : wc.cell? ⟨gb218, 5, none⟩ = some (.slice none 0 0) := (blk_cell BK218.out 5).trans rfl
   have hfz128_0 := blk_frozen BK218.out 0
   have hfz128_1 := blk_frozen BK218.out 1
   have hfz128_2 := blk_frozen BK218.out 2
   have hfz128_3 := blk_frozen BK218.out 3
   have hfz128_4 := blk_frozen BK218.out 4
   have hfz128_5 := blk_frozen BK218.out 5
   go_wp2
   refine bodyPost_ret (results_cell_row rfl _ _ gb218 39 #[.int .i64 (Int.tmod t219 7), .int .i64 0, .int .i64 0, .bool false, .int .u64 0, .slice none 0 0] (0, 0) _ rfl (by (with_reducible repeat (first | refine blk_drewN ?_ _ | refine blk_drew ?_ | refine blk_alloc ?_ _)); refine blk_put (cs := #[.int .i64 (Int.tmod t219 7), .int .i64 0, .int .i64 0, .bool false, .int .u64 0, .slice none 0 0]) ?_ 5 _ rfl; (with_reducible repeat (first | refine blk_drewN ?_ _ | refine blk_drew ?_ | refine blk_alloc ?_ _)); refine blk_put (cs := #[.int .i64 (Int.tmod t219 7), .int .i64 0, .int .i64 0, .bool false, .int .u64 0, .slice none 0 0]) ?_ 4 _ rfl; (with_reducible repeat (first | refine blk_drewN ?_ _ | refine blk_drew ?_ | refine blk_alloc ?_ _)); refine blk_put (cs := #[.int .i64 (Int.tmod t219 7), .int .i64 0, .int .i64 0, .bool false, .int .u64 0, .slice none 0 0]) ?_ 3 _ rfl; (with_reducible repeat (first | refine blk_drewN ?_ _ | refine blk_drew ?_ | refine blk_alloc ?_ _)); refine blk_put (cs := #[.int .i64 (Int.tmod t219 7), .int .i64 0, .int .i64 0, .bool false, .int .u64 0, .slice none 0 0]) ?_ 2 _ rfl; (with_reducible repeat (first | refine blk_drewN ?_ _ | refine blk_drew ?_ | refine blk_alloc ?_ _)); refine blk_put (cs := #[.int .i64 (Int.tmod t219 7), .int .i64 0, .int .i64 0, .bool false, .int .u64 0, .slice none 0 0]) ?_ 1 _ rfl; (with_reducible repeat (first | refine blk_drewN ?_ _ | refine blk_drew ?_ | refine blk_alloc ?_ _)); refine blk_put (cs := #[.int .i64 0, .int .i64 0, .int .i64 0, .bool false, .int .u64 0, .slice none 0 0]) ?_ 0 _ rfl; (with_reducible repeat (first | refine blk_drewN ?_ _ | refine blk_drew ?_ | refine blk_alloc ?_ _)); exact BK218.out) Tryd.underlying39 rfl (by kernel_rfl)) rfl ?_
   exact ⟨_, by first | rfl | (simp [errW_none, errW_some] <;> rfl) | (simp [*, errW_none, errW_some] <;> rfl), by first | exact Kd.R_nil _ _ _ _ _ | exact Kd.N_nil _ _ _ _ _ | exact Kd.V_nil _ _ _ _ _ | exact Kd.Q_nil _ _ _ _ _ | exact Kd.S_nil _ _ _ _ _, by repeat (first | (with_reducible first | exact HI0.out | apply IsS54.alloc | apply IsS54.drewN | apply IsS54.drew | apply IsS54.set_1 | refine IsS54.far ?_ NB0_217.out _ | refine IsS54.far ?_ NB0_218.out _ | refine IsS54.far ?_ NB0_221.out _) | exact HI0.out), by repeat (first | (with_reducible first | exact HB.out | apply below_alloc | apply pw_below_drewN | apply below_drew1 | refine below_set ?_ (IsS54.ge HI0.out) | refine below_set ?_ GE217.out | refine below_set ?_ GE218.out | refine below_set ?_ GE221.out) | exact HB.out), by repeat (first | (with_reducible first | exact HK.out | apply KeepBut.set_ | apply keep_drewN | apply keep_drew | apply keep_alloc | refine keep_far ?_ GW217.out _ | refine keep_far ?_ GW218.out _ | refine keep_far ?_ GW221.out _) | exact HK.out)⟩
  rw [if_pos c103] at H
  have c103b0 : ((Int.tmod t219 7) == 6) = true := beq_iff_eq.mpr c103
  have c103b1 : ((Int.tmod t219 7) != 6) = false := bne_eq_false_iff_eq.mpr c103
  clear c103
  replace H := Option.bind_eq_some_iff.mp H
  obtain ⟨⟨t251, t252⟩, A1040, H⟩ := H
  replace H : ((script_reader_next.f s0_0 t252).bind fun bt253 => ((script_to.f bt253.1).bind fun t255 => ((script_reader_next.f s0_0 bt253.2).bind fun bt256 => ((script_reader_some.f kj41 s0_0 bt256.2 (Int.tmod bt256.1 3)).bind fun bt258 => (some ((Int.tmod t219 7), Int.tmod t251 4, 0, false, t255, bt258.1, bt258.2)))))) = some (r1, r2, r3, r4, r5, r6, r7) := H
  have A104 := Aside0.mk A1040
  clear A1040
  replace H := Option.bind_eq_some_iff.mp H
  obtain ⟨⟨t253, t254⟩, A1050, H⟩ := H
  replace H : ((script_to.f t253).bind fun t255 => ((script_reader_next.f s0_0 t254).bind fun bt256 => ((script_reader_some.f kj41 s0_0 bt256.2 (Int.tmod bt256.1 3)).bind fun bt258 => (some ((Int.tmod t219 7), Int.tmod t251 4, 0, false, t255, bt258.1, bt258.2))))) = some (r1, r2, r3, r4, r5, r6, r7) := H
  have A105 := Aside0.mk A1050
  clear A1050
  replace H := Option.bind_eq_some_iff.mp H
  obtain ⟨t255, A1060, H⟩ := H
  replace H : ((script_reader_next.f s0_0 t254).bind fun bt256 => ((script_reader_some.f kj41 s0_0 bt256.2 (Int.tmod bt256.1 3)).bind fun bt258 => (some ((Int.tmod t219 7), Int.tmod t251 4, 0, false, t255, bt258.1, bt258.2)))) = some (r1, r2, r3, r4, r5, r6, r7) := H
  have A106 := Aside0.mk A1060
  clear A1060
  replace H := Option.bind_eq_some_iff.mp H
  obtain ⟨⟨t256, t257⟩, A1070, H⟩ := H
  replace H : ((script_reader_some.f kj41 s0_0 t257 (Int.tmod t256 3)).bind fun bt258 => (some ((Int.tmod t219 7), Int.tmod t251 4, 0, false, t255, bt258.1, bt258.2))) = some (r1, r2, r3, r4, r5, r6, r7) := H
  have A107 := Aside0.mk A1070
  clear A1070
  replace H := Option.bind_eq_some_iff.mp H
  obtain ⟨⟨t258, t261⟩, A1080, H⟩ := H
  replace H : (some ((Int.tmod t219 7), Int.tmod t251 4, 0, false, t255, t258, t261)) = some (r1, r2, r3, r4, r5, r6, r7) := H
  have A108 := Aside0.mk A1080
  clear A1080
  simp only [Option.some.injEq, Prod.mk.injEq] at H
  obtain ⟨rfl, rfl, rfl, rfl, rfl, rfl, rfl⟩ := H
  go_wp2_with (first | ((with_reducible refine gate_callee (f := 28) rfl ?_); refine goesL_ (some 80) rfl rfl Tryd.func28 (by kernel_rfl) rfl #[.pointer (some ⟨g, 0, none⟩)] rfl (by (try simp only [List.map_toArray, List.map_cons, List.map_nil]); first | done | rfl | (simp only [List.length_drop, List.length_take]; rfl)) ?_; (with_reducible refine (script_reader_next.calls g s0_0 t220 t251 t252 w0 _ ?side1 ?side2 A104.out).mono ?_); (case side1 => repeat (first | (with_reducible first | exact HI0.out | apply IsS54.alloc | apply IsS54.drewN | apply IsS54.drew | apply IsS54.set_1 | refine IsS54.far ?_ NB0_217.out _ | refine IsS54.far ?_ NB0_218.out _ | refine IsS54.far ?_ NB0_221.out _) | exact HI0.out)); (case side2 => repeat (first | (with_reducible first | exact HB.out | apply below_alloc | apply pw_below_drewN | apply below_drew1 | refine below_set ?_ (IsS54.ge HI0.out) | refine below_set ?_ GE217.out | refine below_set ?_ GE218.out | refine below_set ?_ GE221.out) | exact HB.out)); rintro e w109 ⟨rfl, hi, hb, hk⟩; refine ⟨_, rfl, ?_⟩; have n0_ := Aside0.mk (KeepBut.blk hk (g' := gb217) (o := .cells #[.int .i64 a1_0, .slice A1_1 l1_1.length c1_1, .slice A1_2 l1_2.length c1_2, .slice A1_3 l1_3.length c1_3] 28 (0, 0)) (by (with_reducible repeat (first | refine blk_drewN ?_ _ | refine blk_drew ?_ | refine blk_alloc ?_ _)); exact BK217.out) NB217_0.out (by simp)); have n1_ := Aside0.mk (KeepBut.blk hk (g' := gb218) (o := .cells #[.int .i64 0, .int .i64 0, .int .i64 0, .bool false, .int .u64 0, .slice none 0 0] 39 (0, 0)) (by (with_reducible repeat (first | refine blk_drewN ?_ _ | refine blk_drew ?_ | refine blk_alloc ?_ _)); exact BK218.out) NB218_0.out (by simp)); have n2_ := Aside0.mk (KeepBut.blk hk (g' := gb221) (o := .cells #[.int .i64 (Int.tmod t219 7), .int .i64 0, .int .i64 0, .bool false, .int .u64 0, .slice none 0 0] 39 (0, 0)) (by (with_reducible repeat (first | refine blk_drewN ?_ _ | refine blk_drew ?_ | refine blk_alloc ?_ _)); exact BK221.out) NB221_0.out (by simp)); have n3_ := Aside0.mk (KeepBut.trans (by repeat (first | (with_reducible first | exact HK.out | apply KeepBut.set_ | apply keep_drewN | apply keep_drew | apply keep_alloc | refine keep_far ?_ GW217.out _ | refine keep_far ?_ GW218.out _ | refine keep_far ?_ GW221.out _) | exact HK.out)) hk (.inl rfl)); have n4_ := Aside0.mk (hb); have n5_ := Aside0.mk (hi); clear BK217; clear BK218; clear BK221; clear HK; clear HB; clear HI0; have BK217 := n0_; have BK218 := n1_; have BK221 := n2_; have HK := n3_; have HB := n4_; have HI0 := n5_; clear n0_ n1_ n2_ n3_ n4_ n5_; (try clear hb); (try clear hb2); (try clear hk); (try clear hi)) | ((with_reducible refine gate_callee (f := 28) rfl ?_); refine goesL_ (some 83) rfl rfl Tryd.func28 (by kernel_rfl) rfl #[.pointer (some ⟨g, 0, none⟩)] rfl (by (try simp only [List.map_toArray, List.map_cons, List.map_nil]); first | done | rfl | (simp only [List.length_drop, List.length_take]; rfl)) ?_; (with_reducible refine (script_reader_next.calls g s0_0 t252 t253 t254 w0 _ ?side1 ?side2 A105.out).mono ?_); (case side1 => repeat (first | (with_reducible first | exact HI0.out | apply IsS54.alloc | apply IsS54.drewN | apply IsS54.drew | apply IsS54.set_1 | refine IsS54.far ?_ NB0_217.out _ | refine IsS54.far ?_ NB0_218.out _ | refine IsS54.far ?_ NB0_221.out _) | exact HI0.out)); (case side2 => repeat (first | (with_reducible first | exact HB.out | apply below_alloc | apply pw_below_drewN | apply below_drew1 | refine below_set ?_ (IsS54.ge HI0.out) | refine below_set ?_ GE217.out | refine below_set ?_ GE218.out | refine below_set ?_ GE221.out) | exact HB.out)); rintro e w110 ⟨rfl, hi, hb, hk⟩; refine ⟨_, rfl, ?_⟩; have n0_ := Aside0.mk (KeepBut.blk hk (g' := gb217) (o := .cells #[.int .i64 a1_0, .slice A1_1 l1_1.length c1_1, .slice A1_2 l1_2.length c1_2, .slice A1_3 l1_3.length c1_3] 28 (0, 0)) (by (with_reducible repeat (first | refine blk_drewN ?_ _ | refine blk_drew ?_ | refine blk_alloc ?_ _)); exact BK217.out) NB217_0.out (by simp)); have n1_ := Aside0.mk (KeepBut.blk hk (g' := gb218) (o := .cells #[.int .i64 0, .int .i64 0, .int .i64 0, .bool false, .int .u64 0, .slice none 0 0] 39 (0, 0)) (by (with_reducible repeat (first | refine blk_drewN ?_ _ | refine blk_drew ?_ | refine blk_alloc ?_ _)); exact BK218.out) NB218_0.out (by simp)); have n2_ := Aside0.mk (KeepBut.blk hk (g' := gb221) (o := .cells #[.int .i64 (Int.tmod t219 7), .int .i64 0, .int .i64 0, .bool false, .int .u64 0, .slice none 0 0] 39 (0, 0)) (by (with_reducible repeat (first | refine blk_drewN ?_ _ | refine blk_drew ?_ | refine blk_alloc ?_ _)); exact BK221.out) NB221_0.out (by simp)); have n3_ := Aside0.mk (KeepBut.trans (by repeat (first | (with_reducible first | exact HK.out | apply KeepBut.set_ | apply keep_drewN | apply keep_drew | apply keep_alloc | refine keep_far ?_ GW217.out _ | refine keep_far ?_ GW218.out _ | refine keep_far ?_ GW221.out _) | exact HK.out)) hk (.inl rfl)); have n4_ := Aside0.mk (hb); have n5_ := Aside0.mk (hi); clear BK217; clear BK218; clear BK221; clear HK; clear HB; clear HI0; have BK217 := n0_; have BK218 := n1_; have BK221 := n2_; have HK := n3_; have HB := n4_; have HI0 := n5_; clear n0_ n1_ n2_ n3_ n4_ n5_; (try clear hb); (try clear hb2); (try clear hk); (try clear hi)) | ((with_reducible refine gate_callee (f := 34) rfl ?_); refine goesL_ (some 84) rfl rfl Tryd.func34 (by kernel_rfl) rfl #[.int .i64 t253] rfl (by (try simp only [List.map_toArray, List.map_cons, List.map_nil]); first | done | rfl | (simp only [List.length_drop, List.length_take]; rfl)) ?_; (with_reducible refine (script_to.calls t253 t255 _ A106.out).mono ?_); rintro e w' ⟨rfl, ⟨nd, rfl⟩⟩; refine ⟨_, rfl, ?_⟩; (try (rw [drewN_self w110]; generalize hq_ : World.drewN w110 _ = w110; have n0_ : Aside0 (w110.heap[gb217]? = some (.cells #[.int .i64 a1_0, .slice A1_1 l1_1.length c1_1, .slice A1_2 l1_2.length c1_2, .slice A1_3 l1_3.length c1_3] 28 (0, 0))) := ⟨by rw [← hq_]; exact (by (with_reducible repeat (first | refine blk_drewN ?_ _ | refine blk_drew ?_ | refine blk_alloc ?_ _)); exact BK217.out)⟩; have n1_ : Aside0 (w110.heap[gb218]? = some (.cells #[.int .i64 0, .int .i64 0, .int .i64 0, .bool false, .int .u64 0, .slice none 0 0] 39 (0, 0))) := ⟨by rw [← hq_]; exact (by (with_reducible repeat (first | refine blk_drewN ?_ _ | refine blk_drew ?_ | refine blk_alloc ?_ _)); exact BK218.out)⟩; have n2_ : Aside0 (w110.heap[gb221]? = some (.cells #[.int .i64 (Int.tmod t219 7), .int .i64 0, .int .i64 0, .bool false, .int .u64 0, .slice none 0 0] 39 (0, 0))) := ⟨by rw [← hq_]; exact (by (with_reducible repeat (first | refine blk_drewN ?_ _ | refine blk_drew ?_ | refine blk_alloc ?_ _)); exact BK221.out)⟩; have n3_ : Aside0 (IsS54 w0 w110 g s0_0 t254) := ⟨by rw [← hq_]; exact (by repeat (first | (with_reducible first | exact HI0.out | apply IsS54.alloc | apply IsS54.drewN | apply IsS54.drew | apply IsS54.set_1 | refine IsS54.far ?_ NB0_217.out _ | refine IsS54.far ?_ NB0_218.out _ | refine IsS54.far ?_ NB0_221.out _) | exact HI0.out))⟩; have n4_ : Aside0 (KeepBut w w110 g none) := ⟨by rw [← hq_]; exact (by repeat (first | (with_reducible first | exact HK.out | apply KeepBut.set_ | apply keep_drewN | apply keep_drew | apply keep_alloc | refine keep_far ?_ GW217.out _ | refine keep_far ?_ GW218.out _ | refine keep_far ?_ GW221.out _) | exact HK.out))⟩; have n5_ : Aside0 (Below w0.heap.size w0 w110) := ⟨by rw [← hq_]; exact (by repeat (first | (with_reducible first | exact HB.out | apply below_alloc | apply pw_below_drewN | apply below_drew1 | refine below_set ?_ (IsS54.ge HI0.out) | refine below_set ?_ GE217.out | refine below_set ?_ GE218.out | refine below_set ?_ GE221.out) | exact HB.out))⟩; clear BK217 BK218 BK221 HI0 HK HB hq_; have BK217 := n0_; have BK218 := n1_; have BK221 := n2_; have HI0 := n3_; have HK := n4_; have HB := n5_; clear n0_ n1_ n2_ n3_ n4_ n5_)); have hnb111 := NB221_217.out; have hnc111 := NB217_221.out; have hnb112 := NB221_218.out; have hnc112 := NB218_221.out; have hnb113 := NB221_0.out; have hnc113 := NB0_221.out; have hcz114_0 : w110.cell? ⟨gb221, 0, none⟩ = some (.int .i64 (Int.tmod t219 7)) := (blk_cell BK221.out 0).trans rfl; have hcz114_1 : w110.cell? ⟨gb221, 1, none⟩ = some (.int .i64 0) := (blk_cell BK221.out 1).trans rfl; have hcz114_2 : w110.cell? ⟨gb221, 2, none⟩ = some (.int .i64 0) := (blk_cell BK221.out 2).trans rfl; have hcz114_3 : w110.cell? ⟨gb221, 3, none⟩ = some (.bool false) := (blk_cell BK221.out 3).trans rfl; have hcz114_4 : w110.cell? ⟨gb221, 4, none⟩ = some (.int .u64 0) := (blk_cell BK221.out 4).trans rfl; have hcz114_5 : w110.cell? ⟨gb221, 5, none⟩ = some (.slice none 0 0) := (blk_cell BK221.out 5).trans rfl; have hfz114_0 := blk_frozen BK221.out 0; have hfz114_1 := blk_frozen BK221.out 1; have hfz114_2 := blk_frozen BK221.out 2; have hfz114_3 := blk_frozen BK221.out 3; have hfz114_4 := blk_frozen BK221.out 4; have hfz114_5 := blk_frozen BK221.out 5) | ((with_reducible refine gate_callee (f := 28) rfl ?_); refine goesL_ (some 89) rfl rfl Tryd.func28 (by kernel_rfl) rfl #[.pointer (some ⟨g, 0, none⟩)] rfl (by (try simp only [List.map_toArray, List.map_cons, List.map_nil]); first | done | rfl | (simp only [List.length_drop, List.length_take]; rfl)) ?_; (with_reducible refine (script_reader_next.calls g s0_0 t254 t256 t257 w0 _ ?side1 ?side2 A107.out).mono ?_); (case side1 => repeat (first | (with_reducible first | exact HI0.out | apply IsS54.alloc | apply IsS54.drewN | apply IsS54.drew | apply IsS54.set_1 | refine IsS54.far ?_ NB0_217.out _ | refine IsS54.far ?_ NB0_218.out _ | refine IsS54.far ?_ NB0_221.out _) | exact HI0.out)); (case side2 => repeat (first | (with_reducible first | exact HB.out | apply below_alloc | apply pw_below_drewN | apply below_drew1 | refine below_set ?_ (IsS54.ge HI0.out) | refine below_set ?_ GE217.out | refine below_set ?_ GE218.out | refine below_set ?_ GE221.out) | exact HB.out)); rintro e w115 ⟨rfl, hi, hb, hk⟩; refine ⟨_, rfl, ?_⟩; have n0_ := Aside0.mk (KeepBut.blk hk (g' := gb217) (o := .cells #[.int .i64 a1_0, .slice A1_1 l1_1.length c1_1, .slice A1_2 l1_2.length c1_2, .slice A1_3 l1_3.length c1_3] 28 (0, 0)) (by (with_reducible repeat (first | refine blk_drewN ?_ _ | refine blk_drew ?_ | refine blk_alloc ?_ _)); refine blk_far ?_ NB217_221.out _; (with_reducible repeat (first | refine blk_drewN ?_ _ | refine blk_drew ?_ | refine blk_alloc ?_ _)); refine blk_far ?_ NB217_221.out _; (with_reducible repeat (first | refine blk_drewN ?_ _ | refine blk_drew ?_ | refine blk_alloc ?_ _)); exact BK217.out) NB217_0.out (by simp)); have n1_ := Aside0.mk (KeepBut.blk hk (g' := gb218) (o := .cells #[.int .i64 0, .int .i64 0, .int .i64 0, .bool false, .int .u64 0, .slice none 0 0] 39 (0, 0)) (by (with_reducible repeat (first | refine blk_drewN ?_ _ | refine blk_drew ?_ | refine blk_alloc ?_ _)); refine blk_far ?_ NB218_221.out _; (with_reducible repeat (first | refine blk_drewN ?_ _ | refine blk_drew ?_ | refine blk_alloc ?_ _)); refine blk_far ?_ NB218_221.out _; (with_reducible repeat (first | refine blk_drewN ?_ _ | refine blk_drew ?_ | refine blk_alloc ?_ _)); exact BK218.out) NB218_0.out (by simp)); have n2_ := Aside0.mk (KeepBut.blk hk (g' := gb221) (o := .cells #[.int .i64 (Int.tmod t219 7), .int .i64 (Int.tmod t251 4), .int .i64 0, .bool false, .int .u64 t255, .slice none 0 0] 39 (0, 0)) (by (with_reducible repeat (first | refine blk_drewN ?_ _ | refine blk_drew ?_ | refine blk_alloc ?_ _)); refine blk_put (cs := #[.int .i64 (Int.tmod t219 7), .int .i64 (Int.tmod t251 4), .int .i64 0, .bool false, .int .u64 0, .slice none 0 0]) ?_ 4 _ rfl; (with_reducible repeat (first | refine blk_drewN ?_ _ | refine blk_drew ?_ | refine blk_alloc ?_ _)); refine blk_put (cs := #[.int .i64 (Int.tmod t219 7), .int .i64 0, .int .i64 0, .bool false, .int .u64 0, .slice none 0 0]) ?_ 1 _ rfl; (with_reducible repeat (first | refine blk_drewN ?_ _ | refine blk_drew ?_ | refine blk_alloc ?_ _)); exact BK221.out) NB221_0.out (by simp)); have n3_ := Aside0.mk (KeepBut.trans (by repeat (first | (with_reducible first | exact HK.out | apply KeepBut.set_ | apply keep_drewN | apply keep_drew | apply keep_alloc | refine keep_far ?_ GW217.out _ | refine keep_far ?_ GW218.out _ | refine keep_far ?_ GW221.out _) | exact HK.out)) hk (.inl rfl)); have n4_ := Aside0.mk (hb); have n5_ := Aside0.mk (hi); clear BK217; clear BK218; clear BK221; clear HK; clear HB; clear HI0; have BK217 := n0_; have BK218 := n1_; have BK221 := n2_; have HK := n3_; have HB := n4_; have HI0 := n5_; clear n0_ n1_ n2_ n3_ n4_ n5_; (try clear hb); (try clear hb2); (try clear hk); (try clear hi)) | ((with_reducible refine gate_callee (f := 31) rfl ?_); refine goesL_ (some 91) rfl rfl Tryd.func31 (by kernel_rfl) rfl #[.pointer (some ⟨g, 0, none⟩), .int .i64 (Int.tmod t256 3)] rfl (by (try simp only [List.map_toArray, List.map_cons, List.map_nil]); first | done | rfl | (simp only [List.length_drop, List.length_take]; rfl)) ?_; (with_reducible refine (script_reader_some.calls kj41 g s0_0 t257 (Int.tmod t256 3) t258 t261 w0 _ ?side1 ?side2 A108.out).mono ?_); (case side1 => repeat (first | (with_reducible first | exact HI0.out | apply IsS54.alloc | apply IsS54.drewN | apply IsS54.drew | apply IsS54.set_1 | refine IsS54.far ?_ NB0_217.out _ | refine IsS54.far ?_ NB0_218.out _ | refine IsS54.far ?_ NB0_221.out _) | exact HI0.out)); (case side2 => repeat (first | (with_reducible first | exact HB.out | apply below_alloc | apply pw_below_drewN | apply below_drew1 | refine below_set ?_ (IsS54.ge HI0.out) | refine below_set ?_ GE217.out | refine below_set ?_ GE218.out | refine below_set ?_ GE221.out) | exact HB.out)); rintro e w116 ⟨v259, rfl, ho0, hi, hb, hk⟩; refine ⟨_, rfl, ?_⟩; have n0_ := Aside0.mk (KeepBut.blk hk (g' := gb217) (o := .cells #[.int .i64 a1_0, .slice A1_1 l1_1.length c1_1, .slice A1_2 l1_2.length c1_2, .slice A1_3 l1_3.length c1_3] 28 (0, 0)) (by (with_reducible repeat (first | refine blk_drewN ?_ _ | refine blk_drew ?_ | refine blk_alloc ?_ _)); exact BK217.out) NB217_0.out (by simp)); have n1_ := Aside0.mk (KeepBut.blk hk (g' := gb218) (o := .cells #[.int .i64 0, .int .i64 0, .int .i64 0, .bool false, .int .u64 0, .slice none 0 0] 39 (0, 0)) (by (with_reducible repeat (first | refine blk_drewN ?_ _ | refine blk_drew ?_ | refine blk_alloc ?_ _)); exact BK218.out) NB218_0.out (by simp)); have n2_ := Aside0.mk (KeepBut.blk hk (g' := gb221) (o := .cells #[.int .i64 (Int.tmod t219 7), .int .i64 (Int.tmod t251 4), .int .i64 0, .bool false, .int .u64 t255, .slice none 0 0] 39 (0, 0)) (by (with_reducible repeat (first | refine blk_drewN ?_ _ | refine blk_drew ?_ | refine blk_alloc ?_ _)); exact BK221.out) NB221_0.out (by simp)); have n3_ := Aside0.mk (Kd.R_lower ho0 (keep_size (w := w) (g := g) (row := none) (by repeat (first | (with_reducible first | exact HK.out | apply KeepBut.set_ | apply keep_drewN | apply keep_drew | apply keep_alloc | refine keep_far ?_ GW217.out _ | refine keep_far ?_ GW218.out _ | refine keep_far ?_ GW221.out _) | exact HK.out)))); have n4_ := Aside0.mk (KeepBut.trans (by repeat (first | (with_reducible first | exact HK.out | apply KeepBut.set_ | apply keep_drewN | apply keep_drew | apply keep_alloc | refine keep_far ?_ GW217.out _ | refine keep_far ?_ GW218.out _ | refine keep_far ?_ GW221.out _) | exact HK.out)) hk (.inl rfl)); have n5_ := Aside0.mk (hb); have n6_ := Aside0.mk (hi); clear BK217; clear BK218; clear BK221; clear HK; clear HB; clear HI0; have BK217 := n0_; have BK218 := n1_; have BK221 := n2_; have HO260 := n3_; have HK := n4_; have HB := n5_; have HI0 := n6_; clear n0_ n1_ n2_ n3_ n4_ n5_ n6_; (try clear hb); (try clear hb2); (try clear hk); (try clear hi); (try clear ho0); obtain ⟨Ao117, co117, eo117⟩ := Kd.R_slice HO260.out; subst eo117; have hcz118_0 : w116.cell? ⟨gb221, 0, none⟩ = some (.int .i64 (Int.tmod t219 7)) := (blk_cell BK221.out 0).trans rfl; have hcz118_1 : w116.cell? ⟨gb221, 1, none⟩ = some (.int .i64 (Int.tmod t251 4)) := (blk_cell BK221.out 1).trans rfl; have hcz118_2 : w116.cell? ⟨gb221, 2, none⟩ = some (.int .i64 0) := (blk_cell BK221.out 2).trans rfl; have hcz118_3 : w116.cell? ⟨gb221, 3, none⟩ = some (.bool false) := (blk_cell BK221.out 3).trans rfl; have hcz118_4 : w116.cell? ⟨gb221, 4, none⟩ = some (.int .u64 t255) := (blk_cell BK221.out 4).trans rfl; have hcz118_5 : w116.cell? ⟨gb221, 5, none⟩ = some (.slice none 0 0) := (blk_cell BK221.out 5).trans rfl; have hfz118_0 := blk_frozen BK221.out 0; have hfz118_1 := blk_frozen BK221.out 1; have hfz118_2 := blk_frozen BK221.out 2; have hfz118_3 := blk_frozen BK221.out 3; have hfz118_4 := blk_frozen BK221.out 4; have hfz118_5 := blk_frozen BK221.out 5; have hnb119 := NB218_217.out; have hnc119 := NB217_218.out; have hnb120 := NB218_0.out; have hnc120 := NB0_218.out; have hcz121_0 : w116.cell? ⟨gb218, 0, none⟩ = some (.int .i64 0) := (blk_cell BK218.out 0).trans rfl; have hcz121_1 : w116.cell? ⟨gb218, 1, none⟩ = some (.int .i64 0) := (blk_cell BK218.out 1).trans rfl; have hcz121_2 : w116.cell? ⟨gb218, 2, none⟩ = some (.int .i64 0) := (blk_cell BK218.out 2).trans rfl; have hcz121_3 : w116.cell? ⟨gb218, 3, none⟩ = some (.bool false) := (blk_cell BK218.out 3).trans rfl; have hcz121_4 : w116.cell? ⟨gb218, 4, none⟩ = some (.int .u64 0) := (blk_cell BK218.out 4).trans rfl; have hcz121_5 : w116.cell? ⟨gb218, 5, none⟩ = some (.slice none 0 0) := (blk_cell BK218.out 5).trans rfl; have hfz121_0 := blk_frozen BK218.out 0; have hfz121_1 := blk_frozen BK218.out 1; have hfz121_2 := blk_frozen BK218.out 2; have hfz121_3 := blk_frozen BK218.out 3; have hfz121_4 := blk_frozen BK218.out 4; have hfz121_5 := blk_frozen BK218.out 5) | (go_at_call 28; (with_reducible refine (script_reader_next.calls g s0_0 t220 t251 t252 w0 _ ?side1 ?side2 A104.out).mono ?_); (case side1 => repeat (first | (with_reducible first | exact HI0.out | apply IsS54.alloc | apply IsS54.drewN | apply IsS54.drew | apply IsS54.set_1 | refine IsS54.far ?_ NB0_217.out _ | refine IsS54.far ?_ NB0_218.out _ | refine IsS54.far ?_ NB0_221.out _) | exact HI0.out)); (case side2 => repeat (first | (with_reducible first | exact HB.out | apply below_alloc | apply pw_below_drewN | apply below_drew1 | refine below_set ?_ (IsS54.ge HI0.out) | refine below_set ?_ GE217.out | refine below_set ?_ GE218.out | refine below_set ?_ GE221.out) | exact HB.out)); rintro e w109 ⟨rfl, hi, hb, hk⟩; have n0_ := Aside0.mk (KeepBut.blk hk (g' := gb217) (o := .cells #[.int .i64 a1_0, .slice A1_1 l1_1.length c1_1, .slice A1_2 l1_2.length c1_2, .slice A1_3 l1_3.length c1_3] 28 (0, 0)) (by (with_reducible repeat (first | refine blk_drewN ?_ _ | refine blk_drew ?_ | refine blk_alloc ?_ _)); exact BK217.out) NB217_0.out (by simp)); have n1_ := Aside0.mk (KeepBut.blk hk (g' := gb218) (o := .cells #[.int .i64 0, .int .i64 0, .int .i64 0, .bool false, .int .u64 0, .slice none 0 0] 39 (0, 0)) (by (with_reducible repeat (first | refine blk_drewN ?_ _ | refine blk_drew ?_ | refine blk_alloc ?_ _)); exact BK218.out) NB218_0.out (by simp)); have n2_ := Aside0.mk (KeepBut.blk hk (g' := gb221) (o := .cells #[.int .i64 (Int.tmod t219 7), .int .i64 0, .int .i64 0, .bool false, .int .u64 0, .slice none 0 0] 39 (0, 0)) (by (with_reducible repeat (first | refine blk_drewN ?_ _ | refine blk_drew ?_ | refine blk_alloc ?_ _)); exact BK221.out) NB221_0.out (by simp)); have n3_ := Aside0.mk (KeepBut.trans (by repeat (first | (with_reducible first | exact HK.out | apply KeepBut.set_ | apply keep_drewN | apply keep_drew | apply keep_alloc | refine keep_far ?_ GW217.out _ | refine keep_far ?_ GW218.out _ | refine keep_far ?_ GW221.out _) | exact HK.out)) hk (.inl rfl)); have n4_ := Aside0.mk (hb); have n5_ := Aside0.mk (hi); clear BK217; clear BK218; clear BK221; clear HK; clear HB; clear HI0; have BK217 := n0_; have BK218 := n1_; have BK221 := n2_; have HK := n3_; have HB := n4_; have HI0 := n5_; clear n0_ n1_ n2_ n3_ n4_ n5_; (try clear hb); (try clear hb2); (try clear hk); (try clear hi)) | (go_at_call 28; (with_reducible refine (script_reader_next.calls g s0_0 t252 t253 t254 w0 _ ?side1 ?side2 A105.out).mono ?_); (case side1 => repeat (first | (with_reducible first | exact HI0.out | apply IsS54.alloc | apply IsS54.drewN | apply IsS54.drew | apply IsS54.set_1 | refine IsS54.far ?_ NB0_217.out _ | refine IsS54.far ?_ NB0_218.out _ | refine IsS54.far ?_ NB0_221.out _) | exact HI0.out)); (case side2 => repeat (first | (with_reducible first | exact HB.out | apply below_alloc | apply pw_below_drewN | apply below_drew1 | refine below_set ?_ (IsS54.ge HI0.out) | refine below_set ?_ GE217.out | refine below_set ?_ GE218.out | refine below_set ?_ GE221.out) | exact HB.out)); rintro e w110 ⟨rfl, hi, hb, hk⟩; have n0_ := Aside0.mk (KeepBut.blk hk (g' := gb217) (o := .cells #[.int .i64 a1_0, .slice A1_1 l1_1.length c1_1, .slice A1_2 l1_2.length c1_2, .slice A1_3 l1_3.length c1_3] 28 (0, 0)) (by (with_reducible repeat (first | refine blk_drewN ?_ _ | refine blk_drew ?_ | refine blk_alloc ?_ _)); exact BK217.out) NB217_0.out (by simp)); have n1_ := Aside0.mk (KeepBut.blk hk (g' := gb218) (o := .cells #[.int .i64 0, .int .i64 0, .int .i64 0, .bool false, .int .u64 0, .slice none 0 0] 39 (0, 0)) (by (with_reducible repeat (first | refine blk_drewN ?_ _ | refine blk_drew ?_ | refine blk_alloc ?_ _)); exact BK218.out) NB218_0.out (by simp)); have n2_ := Aside0.mk (KeepBut.blk hk (g' := gb221) (o := .cells #[.int .i64 (Int.tmod t219 7), .int .i64 0, .int .i64 0, .bool false, .int .u64 0, .slice none 0 0] 39 (0, 0)) (by (with_reducible repeat (first | refine blk_drewN ?_ _ | refine blk_drew ?_ | refine blk_alloc ?_ _)); exact BK221.out) NB221_0.out (by simp)); have n3_ := Aside0.mk (KeepBut.trans (by repeat (first | (with_reducible first | exact HK.out | apply KeepBut.set_ | apply keep_drewN | apply keep_drew | apply keep_alloc | refine keep_far ?_ GW217.out _ | refine keep_far ?_ GW218.out _ | refine keep_far ?_ GW221.out _) | exact HK.out)) hk (.inl rfl)); have n4_ := Aside0.mk (hb); have n5_ := Aside0.mk (hi); clear BK217; clear BK218; clear BK221; clear HK; clear HB; clear HI0; have BK217 := n0_; have BK218 := n1_; have BK221 := n2_; have HK := n3_; have HB := n4_; have HI0 := n5_; clear n0_ n1_ n2_ n3_ n4_ n5_; (try clear hb); (try clear hb2); (try clear hk); (try clear hi)) | (go_at_call 34; (with_reducible refine (script_to.calls t253 t255 _ A106.out).mono ?_); rintro e w' ⟨rfl, ⟨nd, rfl⟩⟩; (try (rw [drewN_self w110]; generalize hq_ : World.drewN w110 _ = w110; have n0_ : Aside0 (w110.heap[gb217]? = some (.cells #[.int .i64 a1_0, .slice A1_1 l1_1.length c1_1, .slice A1_2 l1_2.length c1_2, .slice A1_3 l1_3.length c1_3] 28 (0, 0))) := ⟨by rw [← hq_]; exact (by (with_reducible repeat (first | refine blk_drewN ?_ _ | refine blk_drew ?_ | refine blk_alloc ?_ _)); exact BK217.out)⟩; have n1_ : Aside0 (w110.heap[gb218]? = some (.cells #[.int .i64 0, .int .i64 0, .int .i64 0, .bool false, .int .u64 0, .slice none 0 0] 39 (0, 0))) := ⟨by rw [← hq_]; exact (by (with_reducible repeat (first | refine blk_drewN ?_ _ | refine blk_drew ?_ | refine blk_alloc ?_ _)); exact BK218.out)⟩; have n2_ : Aside0 (w110.heap[gb221]? = some (.cells #[.int .i64 (Int.tmod t219 7), .int .i64 0, .int .i64 0, .bool false, .int .u64 0, .slice none 0 0] 39 (0, 0))) := ⟨by rw [← hq_]; exact (by (with_reducible repeat (first | refine blk_drewN ?_ _ | refine blk_drew ?_ | refine blk_alloc ?_ _)); exact BK221.out)⟩; have n3_ : Aside0 (IsS54 w0 w110 g s0_0 t254) := ⟨by rw [← hq_]; exact (by repeat (first | (with_reducible first | exact HI0.out | apply IsS54.alloc | apply IsS54.drewN | apply IsS54.drew | apply IsS54.set_1 | refine IsS54.far ?_ NB0_217.out _ | refine IsS54.far ?_ NB0_218.out _ | refine IsS54.far ?_ NB0_221.out _) | exact HI0.out))⟩; have n4_ : Aside0 (KeepBut w w110 g none) := ⟨by rw [← hq_]; exact (by repeat (first | (with_reducible first | exact HK.out | apply KeepBut.set_ | apply keep_drewN | apply keep_drew | apply keep_alloc | refine keep_far ?_ GW217.out _ | refine keep_far ?_ GW218.out _ | refine keep_far ?_ GW221.out _) | exact HK.out))⟩; have n5_ : Aside0 (Below w0.heap.size w0 w110) := ⟨by rw [← hq_]; exact (by repeat (first | (with_reducible first | exact HB.out | apply below_alloc | apply pw_below_drewN | apply below_drew1 | refine below_set ?_ (IsS54.ge HI0.out) | refine below_set ?_ GE217.out | refine below_set ?_ GE218.out | refine below_set ?_ GE221.out) | exact HB.out))⟩; clear BK217 BK218 BK221 HI0 HK HB hq_; have BK217 := n0_; have BK218 := n1_; have BK221 := n2_; have HI0 := n3_; have HK := n4_; have HB := n5_; clear n0_ n1_ n2_ n3_ n4_ n5_)); have hnb111 := NB221_217.out; have hnc111 := NB217_221.out; have hnb112 := NB221_218.out; have hnc112 := NB218_221.out; have hnb113 := NB221_0.out; have hnc113 := NB0_221.out; have hcz114_0 : w110.cell? ⟨gb221, 0, none⟩ = some (.int .i64 (Int.tmod t219 7)) := (blk_cell BK221.out 0).trans rfl; have hcz114_1 : w110.cell? ⟨gb221, 1, none⟩ = some (.int .i64 0) := (blk_cell BK221.out 1).trans rfl; have hcz114_2 : w110.cell? ⟨gb221, 2, none⟩ = some (.int .i64 0) := (blk_cell BK221.out 2).trans rfl; have hcz114_3 : w110.cell? ⟨gb221, 3, none⟩ = some (.bool false) := (blk_cell BK221.out 3).trans rfl; have hcz114_4 : w110.cell? ⟨gb221, 4, none⟩ = some (.int .u64 0) := (blk_cell BK221.out 4).trans rfl; have hcz114_5 : w110.cell? ⟨gb221, 5, none⟩ = some (.slice none 0 0) := (blk_cell BK221.out 5).trans rfl; have hfz114_0 := blk_frozen BK221.out 0; have hfz114_1 := blk_frozen BK221.out 1; have hfz114_2 := blk_frozen BK221.out 2; have hfz114_3 := blk_frozen BK221.out 3; have hfz114_4 := blk_frozen BK221.out 4; have hfz114_5 := blk_frozen BK221.out 5) | (go_at_call 28; (with_reducible refine (script_reader_next.calls g s0_0 t254 t256 t257 w0 _ ?side1 ?side2 A107.out).mono ?_); (case side1 => repeat (first | (with_reducible first | exact HI0.out | apply IsS54.alloc | apply IsS54.drewN | apply IsS54.drew | apply IsS54.set_1 | refine IsS54.far ?_ NB0_217.out _ | refine IsS54.far ?_ NB0_218.out _ | refine IsS54.far ?_ NB0_221.out _) | exact HI0.out)); (case side2 => repeat (first | (with_reducible first | exact HB.out | apply below_alloc | apply pw_below_drewN | apply below_drew1 | refine below_set ?_ (IsS54.ge HI0.out) | refine below_set ?_ GE217.out | refine below_set ?_ GE218.out | refine below_set ?_ GE221.out) | exact HB.out)); rintro e w115 ⟨rfl, hi, hb, hk⟩; have n0_ := Aside0.mk (KeepBut.blk hk (g' := gb217) (o := .cells #[.int .i64 a1_0, .slice A1_1 l1_1.length c1_1, .slice A1_2 l1_2.length c1_2, .slice A1_3 l1_3.length c1_3] 28 (0, 0)) (by (with_reducible repeat (first | refine blk_drewN ?_ _ | refine blk_drew ?_ | refine blk_alloc ?_ _)); refine blk_far ?_ NB217_221.out _; (with_reducible repeat (first | refine blk_drewN ?_ _ | refine blk_drew ?_ | refine blk_alloc ?_ _)); refine blk_far ?_ NB217_221.out _; (with_reducible repeat (first | refine blk_drewN ?_ _ | refine blk_drew ?_ | refine blk_alloc ?_ _)); exact BK217.out) NB217_0.out (by simp)); have n1_ := Aside0.mk (KeepBut.blk hk (g' := gb218) (o := .cells #[.int .i64 0, .int .i64 0, .int .i64 0, .bool false, .int .u64 0, .slice none 0 0] 39 (0, 0)) (by (with_reducible repeat (first | refine blk_drewN ?_ _ | refine blk_drew ?_ | refine blk_alloc ?_ _)); refine blk_far ?_ NB218_221.out _; (with_reducible repeat (first | refine blk_drewN ?_ _ | refine blk_drew ?_ | refine blk_alloc ?_ _)); refine blk_far ?_ NB218_221.out _; (with_reducible repeat (first | refine blk_drewN ?_ _ | refine blk_drew ?_ | refine blk_alloc ?_ _)); exact BK218.out) NB218_0.out (by simp)); have n2_ := Aside0.mk (KeepBut.blk hk (g' := gb221) (o := .cells #[.int .i64 (Int.tmod t219 7), .int .i64 (Int.tmod t251 4), .int .i64 0, .bool false, .int .u64 t255, .slice none 0 0] 39 (0, 0)) (by (with_reducible repeat (first | refine blk_drewN ?_ _ | refine blk_drew ?_ | refine blk_alloc ?_ _)); refine blk_put (cs := #[.int .i64 (Int.tmod t219 7), .int .i64 (Int.tmod t251 4), .int .i64 0, .bool false, .int .u64 0, .slice none 0 0]) ?_ 4 _ rfl; (with_reducible repeat (first | refine blk_drewN ?_ _ | refine blk_drew ?_ | refine blk_alloc ?_ _)); refine blk_put (cs := #[.int .i64 (Int.tmod t219 7), .int .i64 0, .int .i64 0, .bool false, .int .u64 0, .slice none 0 0]) ?_ 1 _ rfl; (with_reducible repeat (first | refine blk_drewN ?_ _ | refine blk_drew ?_ | refine blk_alloc ?_ _)); exact BK221.out) NB221_0.out (by simp)); have n3_ := Aside0.mk (KeepBut.trans (by repeat (first | (with_reducible first | exact HK.out | apply KeepBut.set_ | apply keep_drewN | apply keep_drew | apply keep_alloc | refine keep_far ?_ GW217.out _ | refine keep_far ?_ GW218.out _ | refine keep_far ?_ GW221.out _) | exact HK.out)) hk (.inl rfl)); have n4_ := Aside0.mk (hb); have n5_ := Aside0.mk (hi); clear BK217; clear BK218; clear BK221; clear HK; clear HB; clear HI0; have BK217 := n0_; have BK218 := n1_; have BK221 := n2_; have HK := n3_; have HB := n4_; have HI0 := n5_; clear n0_ n1_ n2_ n3_ n4_ n5_; (try clear hb); (try clear hb2); (try clear hk); (try clear hi)) | (go_at_call 31; (with_reducible refine (script_reader_some.calls kj41 g s0_0 t257 (Int.tmod t256 3) t258 t261 w0 _ ?side1 ?side2 A108.out).mono ?_); (case side1 => repeat (first | (with_reducible first | exact HI0.out | apply IsS54.alloc | apply IsS54.drewN | apply IsS54.drew | apply IsS54.set_1 | refine IsS54.far ?_ NB0_217.out _ | refine IsS54.far ?_ NB0_218.out _ | refine IsS54.far ?_ NB0_221.out _) | exact HI0.out)); (case side2 => repeat (first | (with_reducible first | exact HB.out | apply below_alloc | apply pw_below_drewN | apply below_drew1 | refine below_set ?_ (IsS54.ge HI0.out) | refine below_set ?_ GE217.out | refine below_set ?_ GE218.out | refine below_set ?_ GE221.out) | exact HB.out)); rintro e w116 ⟨v259, rfl, ho0, hi, hb, hk⟩; have n0_ := Aside0.mk (KeepBut.blk hk (g' := gb217) (o := .cells #[.int .i64 a1_0, .slice A1_1 l1_1.length c1_1, .slice A1_2 l1_2.length c1_2, .slice A1_3 l1_3.length c1_3] 28 (0, 0)) (by (with_reducible repeat (first | refine blk_drewN ?_ _ | refine blk_drew ?_ | refine blk_alloc ?_ _)); exact BK217.out) NB217_0.out (by simp)); have n1_ := Aside0.mk (KeepBut.blk hk (g' := gb218) (o := .cells #[.int .i64 0, .int .i64 0, .int .i64 0, .bool false, .int .u64 0, .slice none 0 0] 39 (0, 0)) (by (with_reducible repeat (first | refine blk_drewN ?_ _ | refine blk_drew ?_ | refine blk_alloc ?_ _)); exact BK218.out) NB218_0.out (by simp)); have n2_ := Aside0.mk (KeepBut.blk hk (g' := gb221) (o := .cells #[.int .i64 (Int.tmod t219 7), .int .i64 (Int.tmod t251 4), .int .i64 0, .bool false, .int .u64 t255, .slice none 0 0] 39 (0, 0)) (by (with_reducible repeat (first | refine blk_drewN ?_ _ | refine blk_drew ?_ | refine blk_alloc ?_ _)); exact BK221.out) NB221_0.out (by simp)); have n3_ := Aside0.mk (Kd.R_lower ho0 (keep_size (w := w) (g := g) (row := none) (by repeat (first | (with_reducible first | exact HK.out | apply KeepBut.set_ | apply keep_drewN | apply keep_drew | apply keep_alloc | refine keep_far ?_ GW217.out _ | refine keep_far ?_ GW218.out _ | refine keep_far ?_ GW221.out _) | exact HK.out)))); have n4_ := Aside0.mk (KeepBut.trans (by repeat (first | (with_reducible first | exact HK.out | apply KeepBut.set_ | apply keep_drewN | apply keep_drew | apply keep_alloc | refine keep_far ?_ GW217.out _ | refine keep_far ?_ GW218.out _ | refine keep_far ?_ GW221.out _) | exact HK.out)) hk (.inl rfl)); have n5_ := Aside0.mk (hb); have n6_ := Aside0.mk (hi); clear BK217; clear BK218; clear BK221; clear HK; clear HB; clear HI0; have BK217 := n0_; have BK218 := n1_; have BK221 := n2_; have HO260 := n3_; have HK := n4_; have HB := n5_; have HI0 := n6_; clear n0_ n1_ n2_ n3_ n4_ n5_ n6_; (try clear hb); (try clear hb2); (try clear hk); (try clear hi); (try clear ho0); obtain ⟨Ao117, co117, eo117⟩ := Kd.R_slice HO260.out; subst eo117; have hcz118_0 : w116.cell? ⟨gb221, 0, none⟩ = some (.int .i64 (Int.tmod t219 7)) := (blk_cell BK221.out 0).trans rfl; have hcz118_1 : w116.cell? ⟨gb221, 1, none⟩ = some (.int .i64 (Int.tmod t251 4)) := (blk_cell BK221.out 1).trans rfl; have hcz118_2 : w116.cell? ⟨gb221, 2, none⟩ = some (.int .i64 0) := (blk_cell BK221.out 2).trans rfl; have hcz118_3 : w116.cell? ⟨gb221, 3, none⟩ = some (.bool false) := (blk_cell BK221.out 3).trans rfl; have hcz118_4 : w116.cell? ⟨gb221, 4, none⟩ = some (.int .u64 t255) := (blk_cell BK221.out 4).trans rfl; have hcz118_5 : w116.cell? ⟨gb221, 5, none⟩ = some (.slice none 0 0) := (blk_cell BK221.out 5).trans rfl; have hfz118_0 := blk_frozen BK221.out 0; have hfz118_1 := blk_frozen BK221.out 1; have hfz118_2 := blk_frozen BK221.out 2; have hfz118_3 := blk_frozen BK221.out 3; have hfz118_4 := blk_frozen BK221.out 4; have hfz118_5 := blk_frozen BK221.out 5; have hnb119 := NB218_217.out; have hnc119 := NB217_218.out; have hnb120 := NB218_0.out; have hnc120 := NB0_218.out; have hcz121_0 : w116.cell? ⟨gb218, 0, none⟩ = some (.int .i64 0) := (blk_cell BK218.out 0).trans rfl; have hcz121_1 : w116.cell? ⟨gb218, 1, none⟩ = some (.int .i64 0) := (blk_cell BK218.out 1).trans rfl; have hcz121_2 : w116.cell? ⟨gb218, 2, none⟩ = some (.int .i64 0) := (blk_cell BK218.out 2).trans rfl; have hcz121_3 : w116.cell? ⟨gb218, 3, none⟩ = some (.bool false) := (blk_cell BK218.out 3).trans rfl; have hcz121_4 : w116.cell? ⟨gb218, 4, none⟩ = some (.int .u64 0) := (blk_cell BK218.out 4).trans rfl; have hcz121_5 : w116.cell? ⟨gb218, 5, none⟩ = some (.slice none 0 0) := (blk_cell BK218.out 5).trans rfl; have hfz121_0 := blk_frozen BK218.out 0; have hfz121_1 := blk_frozen BK218.out 1; have hfz121_2 := blk_frozen BK218.out 2; have hfz121_3 := blk_frozen BK218.out 3; have hfz121_4 := blk_frozen BK218.out 4; have hfz121_5 := blk_frozen BK218.out 5))
  refine bodyPost_ret (results_cell_row rfl _ _ gb218 39 #[.int .i64 (Int.tmod t219 7), .int .i64 (Int.tmod t251 4), .int .i64 0, .bool false, .int .u64 t255, .slice Ao117 t258.length co117] (0, 0) _ rfl (by (with_reducible repeat (first | refine blk_drewN ?_ _ | refine blk_drew ?_ | refine blk_alloc ?_ _)); refine blk_put (cs := #[.int .i64 (Int.tmod t219 7), .int .i64 (Int.tmod t251 4), .int .i64 0, .bool false, .int .u64 t255, .slice none 0 0]) ?_ 5 _ rfl; (with_reducible repeat (first | refine blk_drewN ?_ _ | refine blk_drew ?_ | refine blk_alloc ?_ _)); refine blk_put (cs := #[.int .i64 (Int.tmod t219 7), .int .i64 (Int.tmod t251 4), .int .i64 0, .bool false, .int .u64 0, .slice none 0 0]) ?_ 4 _ rfl; (with_reducible repeat (first | refine blk_drewN ?_ _ | refine blk_drew ?_ | refine blk_alloc ?_ _)); refine blk_put (cs := #[.int .i64 (Int.tmod t219 7), .int .i64 (Int.tmod t251 4), .int .i64 0, .bool false, .int .u64 0, .slice none 0 0]) ?_ 3 _ rfl; (with_reducible repeat (first | refine blk_drewN ?_ _ | refine blk_drew ?_ | refine blk_alloc ?_ _)); refine blk_put (cs := #[.int .i64 (Int.tmod t219 7), .int .i64 (Int.tmod t251 4), .int .i64 0, .bool false, .int .u64 0, .slice none 0 0]) ?_ 2 _ rfl; (with_reducible repeat (first | refine blk_drewN ?_ _ | refine blk_drew ?_ | refine blk_alloc ?_ _)); refine blk_put (cs := #[.int .i64 (Int.tmod t219 7), .int .i64 0, .int .i64 0, .bool false, .int .u64 0, .slice none 0 0]) ?_ 1 _ rfl; (with_reducible repeat (first | refine blk_drewN ?_ _ | refine blk_drew ?_ | refine blk_alloc ?_ _)); refine blk_put (cs := #[.int .i64 0, .int .i64 0, .int .i64 0, .bool false, .int .u64 0, .slice none 0 0]) ?_ 0 _ rfl; (with_reducible repeat (first | refine blk_drewN ?_ _ | refine blk_drew ?_ | refine blk_alloc ?_ _)); refine blk_far ?_ NB218_221.out _; (with_reducible repeat (first | refine blk_drewN ?_ _ | refine blk_drew ?_ | refine blk_alloc ?_ _)); exact BK218.out) Tryd.underlying39 rfl (by kernel_rfl)) rfl ?_
  exact ⟨_, by first | rfl | (simp [errW_none, errW_some] <;> rfl) | (simp [*, errW_none, errW_some] <;> rfl), by (with_reducible repeat (first | apply Kd.R_alloc | apply Kd.R_drewN | apply Kd.R_drew)); exact Kd.R_mono (Kd.R_far (p := ⟨gb218, 5, none⟩) (Kd.R_far (p := ⟨gb218, 4, none⟩) (Kd.R_far (p := ⟨gb218, 3, none⟩) (Kd.R_far (p := ⟨gb218, 2, none⟩) (Kd.R_far (p := ⟨gb218, 1, none⟩) (Kd.R_far (p := ⟨gb218, 0, none⟩) (Kd.R_far (p := ⟨gb221, 5, none⟩) (Kd.R_types (Kd.R_types HO260.out BK221.out (by decide)) BK218.out (by decide)) (fun _ hk => hk.1.2) (.slice Ao117 t258.length co117)) (fun _ hk => hk.2) (.int .i64 (Int.tmod t219 7))) (fun _ hk => hk.2) (.int .i64 (Int.tmod t251 4))) (fun _ hk => hk.2) (.int .i64 0)) (fun _ hk => hk.2) (.bool false)) (fun _ hk => hk.2) (.int .u64 t255)) (fun _ hk => hk.2) (.slice Ao117 t258.length co117)) (fun _ hk => trivial), by repeat (first | (with_reducible first | exact HI0.out | apply IsS54.alloc | apply IsS54.drewN | apply IsS54.drew | apply IsS54.set_1 | refine IsS54.far ?_ NB0_217.out _ | refine IsS54.far ?_ NB0_218.out _ | refine IsS54.far ?_ NB0_221.out _) | exact HI0.out), by repeat (first | (with_reducible first | exact HB.out | apply below_alloc | apply pw_below_drewN | apply below_drew1 | refine below_set ?_ (IsS54.ge HI0.out) | refine below_set ?_ GE217.out | refine below_set ?_ GE218.out | refine below_set ?_ GE221.out) | exact HB.out), by repeat (first | (with_reducible first | exact HK.out | apply KeepBut.set_ | apply keep_drewN | apply keep_drew | apply keep_alloc | refine keep_far ?_ GW217.out _ | refine keep_far ?_ GW218.out _ | refine keep_far ?_ GW221.out _) | exact HK.out)⟩
 rw [if_pos c60] at H
 have c60b0 : ((Int.tmod t219 7) == 3) = true := beq_iff_eq.mpr c60
 have c60b1 : ((Int.tmod t219 7) != 3) = false := bne_eq_false_iff_eq.mpr c60
 clear c60
 replace H := Option.bind_eq_some_iff.mp H
 obtain ⟨⟨t232, t233⟩, A610, H⟩ := H
 replace H : (if a1_0 = 0 then (none) else ((script_reader_next.f s0_0 t233).bind fun bt234 => ((script_reader_some.f kj41 s0_0 bt234.2 (Int.tmod bt234.1 60)).bind fun bt236 => (if t219 < 128 then ((script_address.f 3 0).bind fun t240 => ((frame_Wrap.f t240 bt236.1).bind fun bt241 => ((frame_Put.f kj41 bt241.1 bt241.2.1 bt241.2.2.1 bt241.2.2.2).bind fun bt247 => (some ((Int.tmod t219 7), Int.tmod t232 a1_0, 0, false, 0, bt247.1, bt236.2))))) else (some ((Int.tmod t219 7), Int.tmod t232 a1_0, 0, false, 0, bt236.1, bt236.2)))))) = some (r1, r2, r3, r4, r5, r6, r7) := H
 have A61 := Aside0.mk A610
 clear A610
 by_cases c62 : a1_0 = 0
 ·rw [if_pos c62] at H
  exact absurd H (by simp)
 rw [if_neg c62] at H
 have c62b0 : (a1_0 == 0) = false := beq_eq_false_iff_ne.mpr c62
 have c62b1 : (a1_0 != 0) = true := bne_iff_ne.mpr c62
 replace H := Option.bind_eq_some_iff.mp H
 obtain ⟨⟨t234, t235⟩, A630, H⟩ := H
 replace H : ((script_reader_some.f kj41 s0_0 t235 (Int.tmod t234 60)).bind fun bt236 => (if t219 < 128 then ((script_address.f 3 0).bind fun t240 => ((frame_Wrap.f t240 bt236.1).bind fun bt241 => ((frame_Put.f kj41 bt241.1 bt241.2.1 bt241.2.2.1 bt241.2.2.2).bind fun bt247 => (some ((Int.tmod t219 7), Int.tmod t232 a1_0, 0, false, 0, bt247.1, bt236.2))))) else (some ((Int.tmod t219 7), Int.tmod t232 a1_0, 0, false, 0, bt236.1, bt236.2)))) = some (r1, r2, r3, r4, r5, r6, r7) := H
 have A63 := Aside0.mk A630
 clear A630
 replace H := Option.bind_eq_some_iff.mp H
 obtain ⟨⟨t236, t239⟩, A640, H⟩ := H
 replace H : (if t219 < 128 then ((script_address.f 3 0).bind fun t240 => ((frame_Wrap.f t240 t236).bind fun bt241 => ((frame_Put.f kj41 bt241.1 bt241.2.1 bt241.2.2.1 bt241.2.2.2).bind fun bt247 => (some ((Int.tmod t219 7), Int.tmod t232 a1_0, 0, false, 0, bt247.1, t239))))) else (some ((Int.tmod t219 7), Int.tmod t232 a1_0, 0, false, 0, t236, t239))) = some (r1, r2, r3, r4, r5, r6, r7) := H
 have A64 := Aside0.mk A640
 clear A640
 by_cases c65 : t219 < 128
 rotate_left
 ·rw [if_neg c65] at H
  have c65b0 : decide (t219 < 128) = false := decide_eq_false c65
  clear c65
  simp only [Option.some.injEq, Prod.mk.injEq] at H
  obtain ⟨rfl, rfl, rfl, rfl, rfl, rfl, rfl⟩ := H
  try go_wp2
  have n0_ := Aside0.mk (blk_drew BK217.out)
  have n1_ := Aside0.mk (blk_drew BK218.out)
  have n2_ := Aside0.mk (blk_drew BK221.out)
  have n3_ := Aside0.mk (IsS54.drew HI0.out)
  have n4_ := Aside0.mk (keep_drew HK.out)
  have n5_ := Aside0.mk (below_drew1 HB.out)
  clear BK217
  clear BK218
  clear BK221
  clear HI0
  clear HK
  clear HB
  have BK217 := n0_
  have BK218 := n1_
  have BK221 := n2_
  have HI0 := n3_
  have HK := n4_
  have HB := n5_
  clear n0_ n1_ n2_ n3_ n4_ n5_
  refine start_ (n := 7) (S := fun w' => w'.cell? ⟨gb217, 0, none⟩ = some (.int .i64 a1_0) ∧ w'.cell? ⟨gb217, 1, none⟩ = some (.slice A1_1 l1_1.length c1_1) ∧ w'.cell? ⟨gb217, 2, none⟩ = some (.slice A1_2 l1_2.length c1_2) ∧ w'.cell? ⟨gb217, 3, none⟩ = some (.slice A1_3 l1_3.length c1_3)) (ds := []) #[false, false, false, false, false, false, false] (by kernel_rfl) rfl rfl ⟨(blk_cell BK217.out 0).trans rfl, (blk_cell BK217.out 1).trans rfl, (blk_cell BK217.out 2).trans rfl, (blk_cell BK217.out 3).trans rfl⟩ (fun hHeld => ?_)
  generalize wc.drew = w90 at BK217 BK218 BK221 HI0 HK HB hHeld ⊢
  refine pure_ (i := 0) (N := some 54) (v := ?_) (a' := ?_) #[true, false, false, false, false, false, false] rfl rfl (by kernel_rfl) (fun _ _ _ h => h) (Or.inl ⟨by rfl, ?_⟩) ?_ ?_
  rotate_left
  ·intro w'
   go_simp
   with_reducible rfl
  rotate_left
  ·simp only [Act.put, List.setIfInBounds_toArray, List.set_cons_zero, List.set_cons_succ, i64_w, i32_w]
   rfl
  refine pure_ (i := 2) (N := some 56) (v := ?_) (a' := ?_) #[true, false, true, false, false, false, false] rfl rfl (by kernel_rfl) (fun _ _ _ h => h) (Or.inl ⟨by rfl, ?_⟩) ?_ ?_
  rotate_left
  ·intro w'
   go_simp
   with_reducible rfl
  rotate_left
  ·simp only [Act.put, List.setIfInBounds_toArray, List.set_cons_zero, List.set_cons_succ, i64_w, i32_w]
   rfl
  refine take_ (i := 3) (N := some 57) (v := ?_) (a' := ?_) #[true, false, true, true, false, false, false] rfl rfl (by kernel_rfl) (fun _ _ _ h => h) (Or.inl ⟨by rfl, ?_⟩) hHeld ?_ ?_
  rotate_left
  ·rintro w' ⟨s0, s1, s2, s3⟩
   go_simp
   with_reducible rfl
  rotate_left
  ·simp only [Act.put, List.setIfInBounds_toArray, List.set_cons_zero, List.set_cons_succ, i64_w, i32_w]
   rfl
  refine one_ (i := 1) (N := some 55) #[true, true, true, true, false, false, false] rfl rfl (by kernel_rfl) (by decide) (fun K hK => ?_)
  refine goes_ Tryd.func28 (by kernel_rfl) rfl #[.pointer (some ⟨g, 0, none⟩)] (by rfl) rfl rfl (by (try simp only [List.map_toArray, List.map_cons, List.map_nil]); first | done | rfl | (simp only [List.length_drop, List.length_take]; rfl)) ?_
  with_reducible refine (script_reader_next.calls g s0_0 t220 t232 t233 w0 _ ?side1 ?side2 A61.out).mono ?_
  (case side1 => repeat (first | (with_reducible first | exact HI0.out | apply IsS54.alloc | apply IsS54.drewN | apply IsS54.drew | apply IsS54.set_1 | refine IsS54.far ?_ NB0_217.out _ | refine IsS54.far ?_ NB0_218.out _ | refine IsS54.far ?_ NB0_221.out _) | exact HI0.out))
  (case side2 => repeat (first | (with_reducible first | exact HB.out | apply below_alloc | apply pw_below_drewN | apply below_drew1 | refine below_set ?_ (IsS54.ge HI0.out) | refine below_set ?_ GE217.out | refine below_set ?_ GE218.out | refine below_set ?_ GE221.out) | exact HB.out))
  rintro e w91 ⟨rfl, hi, hb, hk⟩
  refine ⟨_, rfl, ?_⟩
  have n0_ := Aside0.mk (KeepBut.blk hk (g' := gb217) (o := .cells #[.int .i64 a1_0, .slice A1_1 l1_1.length c1_1, .slice A1_2 l1_2.length c1_2, .slice A1_3 l1_3.length c1_3] 28 (0, 0)) (by (with_reducible repeat (first | refine blk_drewN ?_ _ | refine blk_drew ?_ | refine blk_alloc ?_ _)); exact BK217.out) NB217_0.out (by simp))
  have n1_ := Aside0.mk (KeepBut.blk hk (g' := gb218) (o := .cells #[.int .i64 0, .int .i64 0, .int .i64 0, .bool false, .int .u64 0, .slice none 0 0] 39 (0, 0)) (by (with_reducible repeat (first | refine blk_drewN ?_ _ | refine blk_drew ?_ | refine blk_alloc ?_ _)); exact BK218.out) NB218_0.out (by simp))
  have n2_ := Aside0.mk (KeepBut.blk hk (g' := gb221) (o := .cells #[.int .i64 (Int.tmod t219 7), .int .i64 0, .int .i64 0, .bool false, .int .u64 0, .slice none 0 0] 39 (0, 0)) (by (with_reducible repeat (first | refine blk_drewN ?_ _ | refine blk_drew ?_ | refine blk_alloc ?_ _)); exact BK221.out) NB221_0.out (by simp))
  have n3_ := Aside0.mk (KeepBut.trans (by repeat (first | (with_reducible first | exact HK.out | apply KeepBut.set_ | apply keep_drewN | apply keep_drew | apply keep_alloc | refine keep_far ?_ GW217.out _ | refine keep_far ?_ GW218.out _ | refine keep_far ?_ GW221.out _) | exact HK.out)) hk (.inl rfl))
  have n4_ := Aside0.mk (hb)
  have n5_ := Aside0.mk (hi)
  clear BK217
  clear BK218
  clear BK221
  clear HK
  clear HB
  clear HI0
  have BK217 := n0_
  have BK218 := n1_
  have BK221 := n2_
  have HK := n3_
  have HB := n4_
  have HI0 := n5_
  clear n0_ n1_ n2_ n3_ n4_ n5_
  (try clear hb)
  (try clear hb2)
  (try clear hk)
  (try clear hi)
  refine hK.out _ _ ⟨(blk_cell BK217.out 0).trans rfl, (blk_cell BK217.out 1).trans rfl, (blk_cell BK217.out 2).trans rfl, (blk_cell BK217.out 3).trans rfl⟩ (fun hHeld => ?_)
  clear hK K
  refine norm_ (a' := ?_) ?_ ?_
  rotate_left
  ·show Act.put _ (some 55) _ = _
   simp only [Act.put, List.setIfInBounds_toArray, List.set_cons_zero, List.set_cons_succ, i64_w, i32_w]
   rfl
  refine pure_ (i := 4) (N := some 58) (v := ?_) (a' := ?_) #[true, true, true, true, true, false, false] rfl rfl (by kernel_rfl) (fun _ _ _ h => h) (Or.inl ⟨by rfl, ?_⟩) ?_ ?_
  rotate_left
  ·intro w'
   go_simp
   with_reducible rfl
  rotate_left
  ·simp only [Act.put, List.setIfInBounds_toArray, List.set_cons_zero, List.set_cons_succ, i64_w, i32_w]
   rfl
  refine pure_ (i := 5) (N := some 59) (v := ?_) (a' := ?_) #[true, true, true, true, true, true, false] rfl rfl (by kernel_rfl) (fun _ _ _ h => h) (Or.inl ⟨by rfl, ?_⟩) ?_ ?_
  rotate_left
  ·intro w'
   go_simp
   with_reducible rfl
  rotate_left
  ·simp only [Act.put, List.setIfInBounds_toArray, List.set_cons_zero, List.set_cons_succ, i64_w, i32_w]
   rfl
  refine one_ (i := 6) (N := none) #[true, true, true, true, true, true, true] rfl rfl (by kernel_rfl) (by decide) (fun K hK => ?_)
  have hs92 : w91.cell? ⟨gb221, 1, none⟩ = some (.int .i64 0) := (blk_cell BK221.out 1).trans rfl
  have hfs92 := blk_frozen BK221.out 1
  have hns92_0 := NB217_221.out
  have hns92_1 := NB218_221.out
  have hms92_0 := NB221_217.out
  have hms92_1 := NB221_218.out
  refine skip_ (w1 := ?_) (by rfl) rfl ?_ ?_
  rotate_left
  ·go_simp
   rfl
  refine hK.out _ _ ⟨((cell_far (p := ⟨gb221, _, none⟩) NB217_221.out _).trans (hHeld.1)), ((cell_far (p := ⟨gb221, _, none⟩) NB217_221.out _).trans (hHeld.2.1)), ((cell_far (p := ⟨gb221, _, none⟩) NB217_221.out _).trans (hHeld.2.2.1)), ((cell_far (p := ⟨gb221, _, none⟩) NB217_221.out _).trans (hHeld.2.2.2))⟩ (fun hHeld => ?_)
  clear hK K
  refine done_ (by kernel_rfl) ?_
  try go_wp2_with (first | ((with_reducible refine gate_callee (f := 28) rfl ?_); refine goesL_ (some 62) rfl rfl Tryd.func28 (by kernel_rfl) rfl #[.pointer (some ⟨g, 0, none⟩)] rfl (by (try simp only [List.map_toArray, List.map_cons, List.map_nil]); first | done | rfl | (simp only [List.length_drop, List.length_take]; rfl)) ?_; (with_reducible refine (script_reader_next.calls g s0_0 t233 t234 t235 w0 _ ?side1 ?side2 A63.out).mono ?_); (case side1 => repeat (first | (with_reducible first | exact HI0.out | apply IsS54.alloc | apply IsS54.drewN | apply IsS54.drew | apply IsS54.set_1 | refine IsS54.far ?_ NB0_217.out _ | refine IsS54.far ?_ NB0_218.out _ | refine IsS54.far ?_ NB0_221.out _) | exact HI0.out)); (case side2 => repeat (first | (with_reducible first | exact HB.out | apply below_alloc | apply pw_below_drewN | apply below_drew1 | refine below_set ?_ (IsS54.ge HI0.out) | refine below_set ?_ GE217.out | refine below_set ?_ GE218.out | refine below_set ?_ GE221.out) | exact HB.out)); rintro e w93 ⟨rfl, hi, hb, hk⟩; refine ⟨_, rfl, ?_⟩; have n0_ := Aside0.mk (KeepBut.blk hk (g' := gb217) (o := .cells #[.int .i64 a1_0, .slice A1_1 l1_1.length c1_1, .slice A1_2 l1_2.length c1_2, .slice A1_3 l1_3.length c1_3] 28 (0, 0)) (by (with_reducible repeat (first | refine blk_drewN ?_ _ | refine blk_drew ?_ | refine blk_alloc ?_ _)); refine blk_far ?_ NB217_221.out _; (with_reducible repeat (first | refine blk_drewN ?_ _ | refine blk_drew ?_ | refine blk_alloc ?_ _)); exact BK217.out) NB217_0.out (by simp)); have n1_ := Aside0.mk (KeepBut.blk hk (g' := gb218) (o := .cells #[.int .i64 0, .int .i64 0, .int .i64 0, .bool false, .int .u64 0, .slice none 0 0] 39 (0, 0)) (by (with_reducible repeat (first | refine blk_drewN ?_ _ | refine blk_drew ?_ | refine blk_alloc ?_ _)); refine blk_far ?_ NB218_221.out _; (with_reducible repeat (first | refine blk_drewN ?_ _ | refine blk_drew ?_ | refine blk_alloc ?_ _)); exact BK218.out) NB218_0.out (by simp)); have n2_ := Aside0.mk (KeepBut.blk hk (g' := gb221) (o := .cells #[.int .i64 (Int.tmod t219 7), .int .i64 (Int.tmod t232 a1_0), .int .i64 0, .bool false, .int .u64 0, .slice none 0 0] 39 (0, 0)) (by (with_reducible repeat (first | refine blk_drewN ?_ _ | refine blk_drew ?_ | refine blk_alloc ?_ _)); refine blk_put (cs := #[.int .i64 (Int.tmod t219 7), .int .i64 0, .int .i64 0, .bool false, .int .u64 0, .slice none 0 0]) ?_ 1 _ rfl; (with_reducible repeat (first | refine blk_drewN ?_ _ | refine blk_drew ?_ | refine blk_alloc ?_ _)); exact BK221.out) NB221_0.out (by simp)); have n3_ := Aside0.mk (KeepBut.trans (by repeat (first | (with_reducible first | exact HK.out | apply KeepBut.set_ | apply keep_drewN | apply keep_drew | apply keep_alloc | refine keep_far ?_ GW217.out _ | refine keep_far ?_ GW218.out _ | refine keep_far ?_ GW221.out _) | exact HK.out)) hk (.inl rfl)); have n4_ := Aside0.mk (hb); have n5_ := Aside0.mk (hi); clear BK217; clear BK218; clear BK221; clear HK; clear HB; clear HI0; have BK217 := n0_; have BK218 := n1_; have BK221 := n2_; have HK := n3_; have HB := n4_; have HI0 := n5_; clear n0_ n1_ n2_ n3_ n4_ n5_; (try clear hb); (try clear hb2); (try clear hk); (try clear hi)) | ((with_reducible refine gate_callee (f := 31) rfl ?_); refine goesL_ (some 64) rfl rfl Tryd.func31 (by kernel_rfl) rfl #[.pointer (some ⟨g, 0, none⟩), .int .i64 (Int.tmod t234 60)] rfl (by (try simp only [List.map_toArray, List.map_cons, List.map_nil]); first | done | rfl | (simp only [List.length_drop, List.length_take]; rfl)) ?_; (with_reducible refine (script_reader_some.calls kj41 g s0_0 t235 (Int.tmod t234 60) t236 t239 w0 _ ?side1 ?side2 A64.out).mono ?_); (case side1 => repeat (first | (with_reducible first | exact HI0.out | apply IsS54.alloc | apply IsS54.drewN | apply IsS54.drew | apply IsS54.set_1 | refine IsS54.far ?_ NB0_217.out _ | refine IsS54.far ?_ NB0_218.out _ | refine IsS54.far ?_ NB0_221.out _) | exact HI0.out)); (case side2 => repeat (first | (with_reducible first | exact HB.out | apply below_alloc | apply pw_below_drewN | apply below_drew1 | refine below_set ?_ (IsS54.ge HI0.out) | refine below_set ?_ GE217.out | refine below_set ?_ GE218.out | refine below_set ?_ GE221.out) | exact HB.out)); rintro e w94 ⟨v237, rfl, ho0, hi, hb, hk⟩; refine ⟨_, rfl, ?_⟩; have n0_ := Aside0.mk (KeepBut.blk hk (g' := gb217) (o := .cells #[.int .i64 a1_0, .slice A1_1 l1_1.length c1_1, .slice A1_2 l1_2.length c1_2, .slice A1_3 l1_3.length c1_3] 28 (0, 0)) (by (with_reducible repeat (first | refine blk_drewN ?_ _ | refine blk_drew ?_ | refine blk_alloc ?_ _)); exact BK217.out) NB217_0.out (by simp)); have n1_ := Aside0.mk (KeepBut.blk hk (g' := gb218) (o := .cells #[.int .i64 0, .int .i64 0, .int .i64 0, .bool false, .int .u64 0, .slice none 0 0] 39 (0, 0)) (by (with_reducible repeat (first | refine blk_drewN ?_ _ | refine blk_drew ?_ | refine blk_alloc ?_ _)); exact BK218.out) NB218_0.out (by simp)); have n2_ := Aside0.mk (KeepBut.blk hk (g' := gb221) (o := .cells #[.int .i64 (Int.tmod t219 7), .int .i64 (Int.tmod t232 a1_0), .int .i64 0, .bool false, .int .u64 0, .slice none 0 0] 39 (0, 0)) (by (with_reducible repeat (first | refine blk_drewN ?_ _ | refine blk_drew ?_ | refine blk_alloc ?_ _)); exact BK221.out) NB221_0.out (by simp)); have n3_ := Aside0.mk (Kd.R_lower ho0 (keep_size (w := w) (g := g) (row := none) (by repeat (first | (with_reducible first | exact HK.out | apply KeepBut.set_ | apply keep_drewN | apply keep_drew | apply keep_alloc | refine keep_far ?_ GW217.out _ | refine keep_far ?_ GW218.out _ | refine keep_far ?_ GW221.out _) | exact HK.out)))); have n4_ := Aside0.mk (KeepBut.trans (by repeat (first | (with_reducible first | exact HK.out | apply KeepBut.set_ | apply keep_drewN | apply keep_drew | apply keep_alloc | refine keep_far ?_ GW217.out _ | refine keep_far ?_ GW218.out _ | refine keep_far ?_ GW221.out _) | exact HK.out)) hk (.inl rfl)); have n5_ := Aside0.mk (hb); have n6_ := Aside0.mk (hi); clear BK217; clear BK218; clear BK221; clear HK; clear HB; clear HI0; have BK217 := n0_; have BK218 := n1_; have BK221 := n2_; have HO238 := n3_; have HK := n4_; have HB := n5_; have HI0 := n6_; clear n0_ n1_ n2_ n3_ n4_ n5_ n6_; (try clear hb); (try clear hb2); (try clear hk); (try clear hi); (try clear ho0); obtain ⟨Ao95, co95, eo95⟩ := Kd.R_slice HO238.out; subst eo95; have hnb96 := NB221_217.out; have hnc96 := NB217_221.out; have hnb97 := NB221_218.out; have hnc97 := NB218_221.out; have hnb98 := NB221_0.out; have hnc98 := NB0_221.out; have hcz99_0 : w94.cell? ⟨gb221, 0, none⟩ = some (.int .i64 (Int.tmod t219 7)) := (blk_cell BK221.out 0).trans rfl; have hcz99_1 : w94.cell? ⟨gb221, 1, none⟩ = some (.int .i64 (Int.tmod t232 a1_0)) := (blk_cell BK221.out 1).trans rfl; have hcz99_2 : w94.cell? ⟨gb221, 2, none⟩ = some (.int .i64 0) := (blk_cell BK221.out 2).trans rfl; have hcz99_3 : w94.cell? ⟨gb221, 3, none⟩ = some (.bool false) := (blk_cell BK221.out 3).trans rfl; have hcz99_4 : w94.cell? ⟨gb221, 4, none⟩ = some (.int .u64 0) := (blk_cell BK221.out 4).trans rfl; have hcz99_5 : w94.cell? ⟨gb221, 5, none⟩ = some (.slice none 0 0) := (blk_cell BK221.out 5).trans rfl; have hfz99_0 := blk_frozen BK221.out 0; have hfz99_1 := blk_frozen BK221.out 1; have hfz99_2 := blk_frozen BK221.out 2; have hfz99_3 := blk_frozen BK221.out 3; have hfz99_4 := blk_frozen BK221.out 4; have hfz99_5 := blk_frozen BK221.out 5; have hnb100 := NB218_217.out; have hnc100 := NB217_218.out; have hnb101 := NB218_0.out; have hnc101 := NB0_218.out; have hcz102_0 : w94.cell? ⟨gb218, 0, none⟩ = some (.int .i64 0) := (blk_cell BK218.out 0).trans rfl; have hcz102_1 : w94.cell? ⟨gb218, 1, none⟩ = some (.int .i64 0) := (blk_cell BK218.out 1).trans rfl; have hcz102_2 : w94.cell? ⟨gb218, 2, none⟩ = some (.int .i64 0) := (blk_cell BK218.out 2).trans rfl; have hcz102_3 : w94.cell? ⟨gb218, 3, none⟩ = some (.bool false) := (blk_cell BK218.out 3).trans rfl; have hcz102_4 : w94.cell? ⟨gb218, 4, none⟩ = some (.int .u64 0) := (blk_cell BK218.out 4).trans rfl; have hcz102_5 : w94.cell? ⟨gb218, 5, none⟩ = some (.slice none 0 0) := (blk_cell BK218.out 5).trans rfl; have hfz102_0 := blk_frozen BK218.out 0; have hfz102_1 := blk_frozen BK218.out 1; have hfz102_2 := blk_frozen BK218.out 2; have hfz102_3 := blk_frozen BK218.out 3; have hfz102_4 := blk_frozen BK218.out 4; have hfz102_5 := blk_frozen BK218.out 5))
  refine bodyPost_ret (results_cell_row rfl _ _ gb218 39 #[.int .i64 (Int.tmod t219 7), .int .i64 (Int.tmod t232 a1_0), .int .i64 0, .bool false, .int .u64 0, .slice Ao95 t236.length co95] (0, 0) _ rfl (by (with_reducible repeat (first | refine blk_drewN ?_ _ | refine blk_drew ?_ | refine blk_alloc ?_ _)); refine blk_put (cs := #[.int .i64 (Int.tmod t219 7), .int .i64 (Int.tmod t232 a1_0), .int .i64 0, .bool false, .int .u64 0, .slice none 0 0]) ?_ 5 _ rfl; (with_reducible repeat (first | refine blk_drewN ?_ _ | refine blk_drew ?_ | refine blk_alloc ?_ _)); refine blk_put (cs := #[.int .i64 (Int.tmod t219 7), .int .i64 (Int.tmod t232 a1_0), .int .i64 0, .bool false, .int .u64 0, .slice none 0 0]) ?_ 4 _ rfl; (with_reducible repeat (first | refine blk_drewN ?_ _ | refine blk_drew ?_ | refine blk_alloc ?_ _)); refine blk_put (cs := #[.int .i64 (Int.tmod t219 7), .int .i64 (Int.tmod t232 a1_0), .int .i64 0, .bool false, .int .u64 0, .slice none 0 0]) ?_ 3 _ rfl; (with_reducible repeat (first | refine blk_drewN ?_ _ | refine blk_drew ?_ | refine blk_alloc ?_ _)); refine blk_put (cs := #[.int .i64 (Int.tmod t219 7), .int .i64 (Int.tmod t232 a1_0), .int .i64 0, .bool false, .int .u64 0, .slice none 0 0]) ?_ 2 _ rfl; (with_reducible repeat (first | refine blk_drewN ?_ _ | refine blk_drew ?_ | refine blk_alloc ?_ _)); refine blk_put (cs := #[.int .i64 (Int.tmod t219 7), .int .i64 0, .int .i64 0, .bool false, .int .u64 0, .slice none 0 0]) ?_ 1 _ rfl; (with_reducible repeat (first | refine blk_drewN ?_ _ | refine blk_drew ?_ | refine blk_alloc ?_ _)); refine blk_put (cs := #[.int .i64 0, .int .i64 0, .int .i64 0, .bool false, .int .u64 0, .slice none 0 0]) ?_ 0 _ rfl; (with_reducible repeat (first | refine blk_drewN ?_ _ | refine blk_drew ?_ | refine blk_alloc ?_ _)); refine blk_far ?_ NB218_221.out _; (with_reducible repeat (first | refine blk_drewN ?_ _ | refine blk_drew ?_ | refine blk_alloc ?_ _)); exact BK218.out) Tryd.underlying39 rfl (by kernel_rfl)) rfl ?_
  exact ⟨_, by first | rfl | (simp [errW_none, errW_some] <;> rfl) | (simp [*, errW_none, errW_some] <;> rfl), by (with_reducible repeat (first | apply Kd.R_alloc | apply Kd.R_drewN | apply Kd.R_drew)); exact Kd.R_mono (Kd.R_far (p := ⟨gb218, 5, none⟩) (Kd.R_far (p := ⟨gb218, 4, none⟩) (Kd.R_far (p := ⟨gb218, 3, none⟩) (Kd.R_far (p := ⟨gb218, 2, none⟩) (Kd.R_far (p := ⟨gb218, 1, none⟩) (Kd.R_far (p := ⟨gb218, 0, none⟩) (Kd.R_far (p := ⟨gb221, 5, none⟩) (Kd.R_types (Kd.R_types HO238.out BK221.out (by decide)) BK218.out (by decide)) (fun _ hk => hk.1.2) (.slice Ao95 t236.length co95)) (fun _ hk => hk.2) (.int .i64 (Int.tmod t219 7))) (fun _ hk => hk.2) (.int .i64 (Int.tmod t232 a1_0))) (fun _ hk => hk.2) (.int .i64 0)) (fun _ hk => hk.2) (.bool false)) (fun _ hk => hk.2) (.int .u64 0)) (fun _ hk => hk.2) (.slice Ao95 t236.length co95)) (fun _ hk => trivial), by repeat (first | (with_reducible first | exact HI0.out | apply IsS54.alloc | apply IsS54.drewN | apply IsS54.drew | apply IsS54.set_1 | refine IsS54.far ?_ NB0_217.out _ | refine IsS54.far ?_ NB0_218.out _ | refine IsS54.far ?_ NB0_221.out _) | exact HI0.out), by repeat (first | (with_reducible first | exact HB.out | apply below_alloc | apply pw_below_drewN | apply below_drew1 | refine below_set ?_ (IsS54.ge HI0.out) | refine below_set ?_ GE217.out | refine below_set ?_ GE218.out | refine below_set ?_ GE221.out) | exact HB.out), by repeat (first | (with_reducible first | exact HK.out | apply KeepBut.set_ | apply keep_drewN | apply keep_drew | apply keep_alloc | refine keep_far ?_ GW217.out _ | refine keep_far ?_ GW218.out _ | refine keep_far ?_ GW221.out _) | exact HK.out)⟩
 rw [if_pos c65] at H
 have c65b0 : decide (t219 < 128) = true := decide_eq_true c65
 clear c65
 replace H := Option.bind_eq_some_iff.mp H
 obtain ⟨t240, A660, H⟩ := H
 replace H : ((frame_Wrap.f t240 t236).bind fun bt241 => ((frame_Put.f kj41 bt241.1 bt241.2.1 bt241.2.2.1 bt241.2.2.2).bind fun bt247 => (some ((Int.tmod t219 7), Int.tmod t232 a1_0, 0, false, 0, bt247.1, t239)))) = some (r1, r2, r3, r4, r5, r6, r7) := H
 have A66 := Aside0.mk A660
 clear A660
 replace H := Option.bind_eq_some_iff.mp H
 obtain ⟨⟨t241, t242, t243, t244⟩, A670, H⟩ := H
 replace H : ((frame_Put.f kj41 t241 t242 t243 t244).bind fun bt247 => (some ((Int.tmod t219 7), Int.tmod t232 a1_0, 0, false, 0, bt247.1, t239))) = some (r1, r2, r3, r4, r5, r6, r7) := H
 have A67 := Aside0.mk A670
 clear A670
 replace H := Option.bind_eq_some_iff.mp H
 obtain ⟨⟨t247, t250⟩, A680, H⟩ := H
 replace H : (some ((Int.tmod t219 7), Int.tmod t232 a1_0, 0, false, 0, t247, t239)) = some (r1, r2, r3, r4, r5, r6, r7) := H
 have A68 := Aside0.mk A680
 clear A680
 simp only [Option.some.injEq, Prod.mk.injEq] at H
 obtain ⟨rfl, rfl, rfl, rfl, rfl, rfl, rfl⟩ := H
 try go_wp2
 have n0_ := Aside0.mk (blk_drew BK217.out)
 have n1_ := Aside0.mk (blk_drew BK218.out)
 have n2_ := Aside0.mk (blk_drew BK221.out)
 have n3_ := Aside0.mk (IsS54.drew HI0.out)
 have n4_ := Aside0.mk (keep_drew HK.out)
 have n5_ := Aside0.mk (below_drew1 HB.out)
 clear BK217
 clear BK218
 clear BK221
 clear HI0
 clear HK
 clear HB
 have BK217 := n0_
 have BK218 := n1_
 have BK221 := n2_
 have HI0 := n3_
 have HK := n4_
 have HB := n5_
 clear n0_ n1_ n2_ n3_ n4_ n5_
 refine start_ (n := 7) (S := fun w' => w'.cell? ⟨gb217, 0, none⟩ = some (.int .i64 a1_0) ∧ w'.cell? ⟨gb217, 1, none⟩ = some (.slice A1_1 l1_1.length c1_1) ∧ w'.cell? ⟨gb217, 2, none⟩ = some (.slice A1_2 l1_2.length c1_2) ∧ w'.cell? ⟨gb217, 3, none⟩ = some (.slice A1_3 l1_3.length c1_3)) (ds := []) #[false, false, false, false, false, false, false] (by kernel_rfl) rfl rfl ⟨(blk_cell BK217.out 0).trans rfl, (blk_cell BK217.out 1).trans rfl, (blk_cell BK217.out 2).trans rfl, (blk_cell BK217.out 3).trans rfl⟩ (fun hHeld => ?_)
 generalize wc.drew = w69 at BK217 BK218 BK221 HI0 HK HB hHeld ⊢
 refine pure_ (i := 0) (N := some 54) (v := ?_) (a' := ?_) #[true, false, false, false, false, false, false] rfl rfl (by kernel_rfl) (fun _ _ _ h => h) (Or.inl ⟨by rfl, ?_⟩) ?_ ?_
 rotate_left
 ·intro w'
  go_simp
  with_reducible rfl
 rotate_left
 ·simp only [Act.put, List.setIfInBounds_toArray, List.set_cons_zero, List.set_cons_succ, i64_w, i32_w]
  rfl
 refine pure_ (i := 2) (N := some 56) (v := ?_) (a' := ?_) #[true, false, true, false, false, false, false] rfl rfl (by kernel_rfl) (fun _ _ _ h => h) (Or.inl ⟨by rfl, ?_⟩) ?_ ?_
 rotate_left
 ·intro w'
  go_simp
  with_reducible rfl
 rotate_left
 ·simp only [Act.put, List.setIfInBounds_toArray, List.set_cons_zero, List.set_cons_succ, i64_w, i32_w]
  rfl
 refine take_ (i := 3) (N := some 57) (v := ?_) (a' := ?_) #[true, false, true, true, false, false, false] rfl rfl (by kernel_rfl) (fun _ _ _ h => h) (Or.inl ⟨by rfl, ?_⟩) hHeld ?_ ?_
 rotate_left
 ·rintro w' ⟨s0, s1, s2, s3⟩
  go_simp
  with_reducible rfl
 rotate_left
 ·simp only [Act.put, List.setIfInBounds_toArray, List.set_cons_zero, List.set_cons_succ, i64_w, i32_w]
  rfl
 refine one_ (i := 1) (N := some 55) #[true, true, true, true, false, false, false] rfl rfl (by kernel_rfl) (by decide) (fun K hK => ?_)
 refine goes_ Tryd.func28 (by kernel_rfl) rfl #[.pointer (some ⟨g, 0, none⟩)] (by rfl) rfl rfl (by (try simp only [List.map_toArray, List.map_cons, List.map_nil]); first | done | rfl | (simp only [List.length_drop, List.length_take]; rfl)) ?_
 with_reducible refine (script_reader_next.calls g s0_0 t220 t232 t233 w0 _ ?side1 ?side2 A61.out).mono ?_
 (case side1 => repeat (first | (with_reducible first | exact HI0.out | apply IsS54.alloc | apply IsS54.drewN | apply IsS54.drew | apply IsS54.set_1 | refine IsS54.far ?_ NB0_217.out _ | refine IsS54.far ?_ NB0_218.out _ | refine IsS54.far ?_ NB0_221.out _) | exact HI0.out))
 (case side2 => repeat (first | (with_reducible first | exact HB.out | apply below_alloc | apply pw_below_drewN | apply below_drew1 | refine below_set ?_ (IsS54.ge HI0.out) | refine below_set ?_ GE217.out | refine below_set ?_ GE218.out | refine below_set ?_ GE221.out) | exact HB.out))
 rintro e w70 ⟨rfl, hi, hb, hk⟩
 refine ⟨_, rfl, ?_⟩
 have n0_ := Aside0.mk (KeepBut.blk hk (g' := gb217) (o := .cells #[.int .i64 a1_0, .slice A1_1 l1_1.length c1_1, .slice A1_2 l1_2.length c1_2, .slice A1_3 l1_3.length c1_3] 28 (0, 0)) (by (with_reducible repeat (first | refine blk_drewN ?_ _ | refine blk_drew ?_ | refine blk_alloc ?_ _)); exact BK217.out) NB217_0.out (by simp))
 have n1_ := Aside0.mk (KeepBut.blk hk (g' := gb218) (o := .cells #[.int .i64 0, .int .i64 0, .int .i64 0, .bool false, .int .u64 0, .slice none 0 0] 39 (0, 0)) (by (with_reducible repeat (first | refine blk_drewN ?_ _ | refine blk_drew ?_ | refine blk_alloc ?_ _)); exact BK218.out) NB218_0.out (by simp))
 have n2_ := Aside0.mk (KeepBut.blk hk (g' := gb221) (o := .cells #[.int .i64 (Int.tmod t219 7), .int .i64 0, .int .i64 0, .bool false, .int .u64 0, .slice none 0 0] 39 (0, 0)) (by (with_reducible repeat (first | refine blk_drewN ?_ _ | refine blk_drew ?_ | refine blk_alloc ?_ _)); exact BK221.out) NB221_0.out (by simp))
 have n3_ := Aside0.mk (KeepBut.trans (by repeat (first | (with_reducible first | exact HK.out | apply KeepBut.set_ | apply keep_drewN | apply keep_drew | apply keep_alloc | refine keep_far ?_ GW217.out _ | refine keep_far ?_ GW218.out _ | refine keep_far ?_ GW221.out _) | exact HK.out)) hk (.inl rfl))
 have n4_ := Aside0.mk (hb)
 have n5_ := Aside0.mk (hi)
 clear BK217
 clear BK218
 clear BK221
 clear HK
 clear HB
 clear HI0
 have BK217 := n0_
 have BK218 := n1_
 have BK221 := n2_
 have HK := n3_
 have HB := n4_
 have HI0 := n5_
 clear n0_ n1_ n2_ n3_ n4_ n5_
 (try clear hb)
 (try clear hb2)
 (try clear hk)
 (try clear hi)
 refine hK.out _ _ ⟨(blk_cell BK217.out 0).trans rfl, (blk_cell BK217.out 1).trans rfl, (blk_cell BK217.out 2).trans rfl, (blk_cell BK217.out 3).trans rfl⟩ (fun hHeld => ?_)
 clear hK K
 refine norm_ (a' := ?_) ?_ ?_
 rotate_left
 ·show Act.put _ (some 55) _ = _
  simp only [Act.put, List.setIfInBounds_toArray, List.set_cons_zero, List.set_cons_succ, i64_w, i32_w]
  rfl
 refine pure_ (i := 4) (N := some 58) (v := ?_) (a' := ?_) #[true, true, true, true, true, false, false] rfl rfl (by kernel_rfl) (fun _ _ _ h => h) (Or.inl ⟨by rfl, ?_⟩) ?_ ?_
 rotate_left
 ·intro w'
  go_simp
  with_reducible rfl
 rotate_left
 ·simp only [Act.put, List.setIfInBounds_toArray, List.set_cons_zero, List.set_cons_succ, i64_w, i32_w]
  rfl
 refine pure_ (i := 5) (N := some 59) (v := ?_) (a' := ?_) #[true, true, true, true, true, true, false] rfl rfl (by kernel_rfl) (fun _ _ _ h => h) (Or.inl ⟨by rfl, ?_⟩) ?_ ?_
 rotate_left
 ·intro w'
  go_simp
  with_reducible rfl
 rotate_left
 ·simp only [Act.put, List.setIfInBounds_toArray, List.set_cons_zero, List.set_cons_succ, i64_w, i32_w]
  rfl
 refine one_ (i := 6) (N := none) #[true, true, true, true, true, true, true] rfl rfl (by kernel_rfl) (by decide) (fun K hK => ?_)
 have hs71 : w70.cell? ⟨gb221, 1, none⟩ = some (.int .i64 0) := (blk_cell BK221.out 1).trans rfl
 have hfs71 := blk_frozen BK221.out 1
 have hns71_0 := NB217_221.out
 have hns71_1 := NB218_221.out
 have hms71_0 := NB221_217.out
 have hms71_1 := NB221_218.out
 refine skip_ (w1 := ?_) (by rfl) rfl ?_ ?_
 rotate_left
 ·go_simp
  rfl
 refine hK.out _ _ ⟨((cell_far (p := ⟨gb221, _, none⟩) NB217_221.out _).trans (hHeld.1)), ((cell_far (p := ⟨gb221, _, none⟩) NB217_221.out _).trans (hHeld.2.1)), ((cell_far (p := ⟨gb221, _, none⟩) NB217_221.out _).trans (hHeld.2.2.1)), ((cell_far (p := ⟨gb221, _, none⟩) NB217_221.out _).trans (hHeld.2.2.2))⟩ (fun hHeld => ?_)
 clear hK K
 refine done_ (by kernel_rfl) ?_
 try go_wp2_with (first | ((with_reducible refine gate_callee (f := 28) rfl ?_); refine goesL_ (some 62) rfl rfl Tryd.func28 (by kernel_rfl) rfl #[.pointer (some ⟨g, 0, none⟩)] rfl (by (try simp only [List.map_toArray, List.map_cons, List.map_nil]); first | done | rfl | (simp only [List.length_drop, List.length_take]; rfl)) ?_; (with_reducible refine (script_reader_next.calls g s0_0 t233 t234 t235 w0 _ ?side1 ?side2 A63.out).mono ?_); (case side1 => repeat (first | (with_reducible first | exact HI0.out | apply IsS54.alloc | apply IsS54.drewN | apply IsS54.drew | apply IsS54.set_1 | refine IsS54.far ?_ NB0_217.out _ | refine IsS54.far ?_ NB0_218.out _ | refine IsS54.far ?_ NB0_221.out _) | exact HI0.out)); (case side2 => repeat (first | (with_reducible first | exact HB.out | apply below_alloc | apply pw_below_drewN | apply below_drew1 | refine below_set ?_ (IsS54.ge HI0.out) | refine below_set ?_ GE217.out | refine below_set ?_ GE218.out | refine below_set ?_ GE221.out) | exact HB.out)); rintro e w72 ⟨rfl, hi, hb, hk⟩; refine ⟨_, rfl, ?_⟩; have n0_ := Aside0.mk (KeepBut.blk hk (g' := gb217) (o := .cells #[.int .i64 a1_0, .slice A1_1 l1_1.length c1_1, .slice A1_2 l1_2.length c1_2, .slice A1_3 l1_3.length c1_3] 28 (0, 0)) (by (with_reducible repeat (first | refine blk_drewN ?_ _ | refine blk_drew ?_ | refine blk_alloc ?_ _)); refine blk_far ?_ NB217_221.out _; (with_reducible repeat (first | refine blk_drewN ?_ _ | refine blk_drew ?_ | refine blk_alloc ?_ _)); exact BK217.out) NB217_0.out (by simp)); have n1_ := Aside0.mk (KeepBut.blk hk (g' := gb218) (o := .cells #[.int .i64 0, .int .i64 0, .int .i64 0, .bool false, .int .u64 0, .slice none 0 0] 39 (0, 0)) (by (with_reducible repeat (first | refine blk_drewN ?_ _ | refine blk_drew ?_ | refine blk_alloc ?_ _)); refine blk_far ?_ NB218_221.out _; (with_reducible repeat (first | refine blk_drewN ?_ _ | refine blk_drew ?_ | refine blk_alloc ?_ _)); exact BK218.out) NB218_0.out (by simp)); have n2_ := Aside0.mk (KeepBut.blk hk (g' := gb221) (o := .cells #[.int .i64 (Int.tmod t219 7), .int .i64 (Int.tmod t232 a1_0), .int .i64 0, .bool false, .int .u64 0, .slice none 0 0] 39 (0, 0)) (by (with_reducible repeat (first | refine blk_drewN ?_ _ | refine blk_drew ?_ | refine blk_alloc ?_ _)); refine blk_put (cs := #[.int .i64 (Int.tmod t219 7), .int .i64 0, .int .i64 0, .bool false, .int .u64 0, .slice none 0 0]) ?_ 1 _ rfl; (with_reducible repeat (first | refine blk_drewN ?_ _ | refine blk_drew ?_ | refine blk_alloc ?_ _)); exact BK221.out) NB221_0.out (by simp)); have n3_ := Aside0.mk (KeepBut.trans (by repeat (first | (with_reducible first | exact HK.out | apply KeepBut.set_ | apply keep_drewN | apply keep_drew | apply keep_alloc | refine keep_far ?_ GW217.out _ | refine keep_far ?_ GW218.out _ | refine keep_far ?_ GW221.out _) | exact HK.out)) hk (.inl rfl)); have n4_ := Aside0.mk (hb); have n5_ := Aside0.mk (hi); clear BK217; clear BK218; clear BK221; clear HK; clear HB; clear HI0; have BK217 := n0_; have BK218 := n1_; have BK221 := n2_; have HK := n3_; have HB := n4_; have HI0 := n5_; clear n0_ n1_ n2_ n3_ n4_ n5_; (try clear hb); (try clear hb2); (try clear hk); (try clear hi)) | ((with_reducible refine gate_callee (f := 31) rfl ?_); refine goesL_ (some 64) rfl rfl Tryd.func31 (by kernel_rfl) rfl #[.pointer (some ⟨g, 0, none⟩), .int .i64 (Int.tmod t234 60)] rfl (by (try simp only [List.map_toArray, List.map_cons, List.map_nil]); first | done | rfl | (simp only [List.length_drop, List.length_take]; rfl)) ?_; (with_reducible refine (script_reader_some.calls kj41 g s0_0 t235 (Int.tmod t234 60) t236 t239 w0 _ ?side1 ?side2 A64.out).mono ?_); (case side1 => repeat (first | (with_reducible first | exact HI0.out | apply IsS54.alloc | apply IsS54.drewN | apply IsS54.drew | apply IsS54.set_1 | refine IsS54.far ?_ NB0_217.out _ | refine IsS54.far ?_ NB0_218.out _ | refine IsS54.far ?_ NB0_221.out _) | exact HI0.out)); (case side2 => repeat (first | (with_reducible first | exact HB.out | apply below_alloc | apply pw_below_drewN | apply below_drew1 | refine below_set ?_ (IsS54.ge HI0.out) | refine below_set ?_ GE217.out | refine below_set ?_ GE218.out | refine below_set ?_ GE221.out) | exact HB.out)); rintro e w73 ⟨v237, rfl, ho0, hi, hb, hk⟩; refine ⟨_, rfl, ?_⟩; have n0_ := Aside0.mk (KeepBut.blk hk (g' := gb217) (o := .cells #[.int .i64 a1_0, .slice A1_1 l1_1.length c1_1, .slice A1_2 l1_2.length c1_2, .slice A1_3 l1_3.length c1_3] 28 (0, 0)) (by (with_reducible repeat (first | refine blk_drewN ?_ _ | refine blk_drew ?_ | refine blk_alloc ?_ _)); exact BK217.out) NB217_0.out (by simp)); have n1_ := Aside0.mk (KeepBut.blk hk (g' := gb218) (o := .cells #[.int .i64 0, .int .i64 0, .int .i64 0, .bool false, .int .u64 0, .slice none 0 0] 39 (0, 0)) (by (with_reducible repeat (first | refine blk_drewN ?_ _ | refine blk_drew ?_ | refine blk_alloc ?_ _)); exact BK218.out) NB218_0.out (by simp)); have n2_ := Aside0.mk (KeepBut.blk hk (g' := gb221) (o := .cells #[.int .i64 (Int.tmod t219 7), .int .i64 (Int.tmod t232 a1_0), .int .i64 0, .bool false, .int .u64 0, .slice none 0 0] 39 (0, 0)) (by (with_reducible repeat (first | refine blk_drewN ?_ _ | refine blk_drew ?_ | refine blk_alloc ?_ _)); exact BK221.out) NB221_0.out (by simp)); have n3_ := Aside0.mk (Kd.R_lower ho0 (keep_size (w := w) (g := g) (row := none) (by repeat (first | (with_reducible first | exact HK.out | apply KeepBut.set_ | apply keep_drewN | apply keep_drew | apply keep_alloc | refine keep_far ?_ GW217.out _ | refine keep_far ?_ GW218.out _ | refine keep_far ?_ GW221.out _) | exact HK.out)))); have n4_ := Aside0.mk (KeepBut.trans (by repeat (first | (with_reducible first | exact HK.out | apply KeepBut.set_ | apply keep_drewN | apply keep_drew | apply keep_alloc | refine keep_far ?_ GW217.out _ | refine keep_far ?_ GW218.out _ | refine keep_far ?_ GW221.out _) | exact HK.out)) hk (.inl rfl)); have n5_ := Aside0.mk (hb); have n6_ := Aside0.mk (hi); clear BK217; clear BK218; clear BK221; clear HK; clear HB; clear HI0; have BK217 := n0_; have BK218 := n1_; have BK221 := n2_; have HO238 := n3_; have HK := n4_; have HB := n5_; have HI0 := n6_; clear n0_ n1_ n2_ n3_ n4_ n5_ n6_; (try clear hb); (try clear hb2); (try clear hk); (try clear hi); (try clear ho0); obtain ⟨Ao74, co74, eo74⟩ := Kd.R_slice HO238.out; subst eo74; have hnb75 := NB221_217.out; have hnc75 := NB217_221.out; have hnb76 := NB221_218.out; have hnc76 := NB218_221.out; have hnb77 := NB221_0.out; have hnc77 := NB0_221.out; have hcz78_0 : w73.cell? ⟨gb221, 0, none⟩ = some (.int .i64 (Int.tmod t219 7)) := (blk_cell BK221.out 0).trans rfl; have hcz78_1 : w73.cell? ⟨gb221, 1, none⟩ = some (.int .i64 (Int.tmod t232 a1_0)) := (blk_cell BK221.out 1).trans rfl; have hcz78_2 : w73.cell? ⟨gb221, 2, none⟩ = some (.int .i64 0) := (blk_cell BK221.out 2).trans rfl; have hcz78_3 : w73.cell? ⟨gb221, 3, none⟩ = some (.bool false) := (blk_cell BK221.out 3).trans rfl; have hcz78_4 : w73.cell? ⟨gb221, 4, none⟩ = some (.int .u64 0) := (blk_cell BK221.out 4).trans rfl; have hcz78_5 : w73.cell? ⟨gb221, 5, none⟩ = some (.slice none 0 0) := (blk_cell BK221.out 5).trans rfl; have hfz78_0 := blk_frozen BK221.out 0; have hfz78_1 := blk_frozen BK221.out 1; have hfz78_2 := blk_frozen BK221.out 2; have hfz78_3 := blk_frozen BK221.out 3; have hfz78_4 := blk_frozen BK221.out 4; have hfz78_5 := blk_frozen BK221.out 5))
 have n0_ : Aside0 (Kd.R (Kd.int .u8) 5 (w73.setCell ⟨gb221, 5, none⟩ (.slice Ao74 t236.length co74)) w.heap.size (fun _ => True) (.slice Ao74 t236.length co74) t236) := ⟨by (with_reducible repeat (first | apply Kd.R_alloc | apply Kd.R_drewN | apply Kd.R_drew)); exact Kd.R_mono (Kd.R_far (p := ⟨gb221, 5, none⟩) (Kd.R_types HO238.out BK221.out (by decide)) (fun _ hk => hk.2) (.slice Ao74 t236.length co74)) (fun _ hk => trivial)⟩
 have n1_ : Aside0 ((w73.setCell ⟨gb221, 5, none⟩ (.slice Ao74 t236.length co74)).heap[gb217]? = some (.cells #[.int .i64 a1_0, .slice A1_1 l1_1.length c1_1, .slice A1_2 l1_2.length c1_2, .slice A1_3 l1_3.length c1_3] 28 (0, 0))) := ⟨by (with_reducible repeat (first | refine blk_drewN ?_ _ | refine blk_drew ?_ | refine blk_alloc ?_ _)); refine blk_far ?_ NB217_221.out _; (with_reducible repeat (first | refine blk_drewN ?_ _ | refine blk_drew ?_ | refine blk_alloc ?_ _)); exact BK217.out⟩
 have n2_ : Aside0 ((w73.setCell ⟨gb221, 5, none⟩ (.slice Ao74 t236.length co74)).heap[gb218]? = some (.cells #[.int .i64 0, .int .i64 0, .int .i64 0, .bool false, .int .u64 0, .slice none 0 0] 39 (0, 0))) := ⟨by (with_reducible repeat (first | refine blk_drewN ?_ _ | refine blk_drew ?_ | refine blk_alloc ?_ _)); refine blk_far ?_ NB218_221.out _; (with_reducible repeat (first | refine blk_drewN ?_ _ | refine blk_drew ?_ | refine blk_alloc ?_ _)); exact BK218.out⟩
 have n3_ : Aside0 ((w73.setCell ⟨gb221, 5, none⟩ (.slice Ao74 t236.length co74)).heap[gb221]? = some (.cells #[.int .i64 (Int.tmod t219 7), .int .i64 (Int.tmod t232 a1_0), .int .i64 0, .bool false, .int .u64 0, .slice Ao74 t236.length co74] 39 (0, 0))) := ⟨by (with_reducible repeat (first | refine blk_drewN ?_ _ | refine blk_drew ?_ | refine blk_alloc ?_ _)); refine blk_put (cs := #[.int .i64 (Int.tmod t219 7), .int .i64 (Int.tmod t232 a1_0), .int .i64 0, .bool false, .int .u64 0, .slice none 0 0]) ?_ 5 _ rfl; (with_reducible repeat (first | refine blk_drewN ?_ _ | refine blk_drew ?_ | refine blk_alloc ?_ _)); exact BK221.out⟩
 have n4_ : Aside0 (IsS54 w0 (w73.setCell ⟨gb221, 5, none⟩ (.slice Ao74 t236.length co74)) g s0_0 t239) := ⟨by repeat (first | (with_reducible first | exact HI0.out | apply IsS54.alloc | apply IsS54.drewN | apply IsS54.drew | apply IsS54.set_1 | refine IsS54.far ?_ NB0_217.out _ | refine IsS54.far ?_ NB0_218.out _ | refine IsS54.far ?_ NB0_221.out _) | exact HI0.out)⟩
 have n5_ : Aside0 (KeepBut w (w73.setCell ⟨gb221, 5, none⟩ (.slice Ao74 t236.length co74)) g none) := ⟨by repeat (first | (with_reducible first | exact HK.out | apply KeepBut.set_ | apply keep_drewN | apply keep_drew | apply keep_alloc | refine keep_far ?_ GW217.out _ | refine keep_far ?_ GW218.out _ | refine keep_far ?_ GW221.out _) | exact HK.out)⟩
 have n6_ : Aside0 (Below w0.heap.size w0 (w73.setCell ⟨gb221, 5, none⟩ (.slice Ao74 t236.length co74))) := ⟨by repeat (first | (with_reducible first | exact HB.out | apply below_alloc | apply pw_below_drewN | apply below_drew1 | refine below_set ?_ (IsS54.ge HI0.out) | refine below_set ?_ GE217.out | refine below_set ?_ GE218.out | refine below_set ?_ GE221.out) | exact HB.out)⟩
 (try clear HO238)
 (try clear BK217)
 (try clear BK218)
 (try clear BK221)
 (try clear HI0)
 (try clear HK)
 (try clear HB)
 (try simp only [setCell_drewN_])
 generalize (w73.setCell ⟨gb221, 5, none⟩ (.slice Ao74 t236.length co74)) = w79 at n0_ n1_ n2_ n3_ n4_ n5_ n6_ ⊢
 have HO238 := n0_
 have BK217 := n1_
 have BK218 := n2_
 have BK221 := n3_
 have HI0 := n4_
 have HK := n5_
 have HB := n6_
 clear n0_ n1_ n2_ n3_ n4_ n5_ n6_
 have n0_ := Aside0.mk (Kd.R_drew HO238.out)
 have n1_ := Aside0.mk (blk_drew BK217.out)
 have n2_ := Aside0.mk (blk_drew BK218.out)
 have n3_ := Aside0.mk (blk_drew BK221.out)
 have n4_ := Aside0.mk (IsS54.drew HI0.out)
 have n5_ := Aside0.mk (keep_drew HK.out)
 have n6_ := Aside0.mk (below_drew1 HB.out)
 clear HO238
 clear BK217
 clear BK218
 clear BK221
 clear HI0
 clear HK
 clear HB
 have HO238 := n0_
 have BK217 := n1_
 have BK218 := n2_
 have BK221 := n3_
 have HI0 := n4_
 have HK := n5_
 have HB := n6_
 clear n0_ n1_ n2_ n3_ n4_ n5_ n6_
 refine start_ (n := 10) (S := fun w' => w'.cell? ⟨gb221, 0, none⟩ = some (.int .i64 (Int.tmod t219 7)) ∧ w'.cell? ⟨gb221, 1, none⟩ = some (.int .i64 (Int.tmod t232 a1_0)) ∧ w'.cell? ⟨gb221, 2, none⟩ = some (.int .i64 0) ∧ w'.cell? ⟨gb221, 3, none⟩ = some (.bool false) ∧ w'.cell? ⟨gb221, 4, none⟩ = some (.int .u64 0) ∧ w'.cell? ⟨gb221, 5, none⟩ = some (.slice Ao74 t236.length co74)) (ds := [9]) #[false, false, false, false, false, false, false, false, false, false] (by kernel_rfl) rfl rfl ⟨(blk_cell BK221.out 0).trans rfl, (blk_cell BK221.out 1).trans rfl, (blk_cell BK221.out 2).trans rfl, (blk_cell BK221.out 3).trans rfl, (blk_cell BK221.out 4).trans rfl, (blk_cell BK221.out 5).trans rfl⟩ (fun hHeld => ?_); refine with_tabW script_reader_op.tab17 script_reader_op.bits17 (fun HT_ HW_ => ?_)
 generalize w79.drew = w80 at HO238 BK217 BK218 BK221 HI0 HK HB hHeld ⊢
 refine pure_ (i := 1) (N := some 70) (v := ?_) (a' := ?_) #[false, true, false, false, false, false, false, false, false, false] rfl rfl (any_of HT_.out (by kernel_rfl)) (fun _ _ _ h => h) (Or.inl ⟨by rfl, ?_⟩) ?_ ?_
 rotate_left
 ·intro w'
  go_simp
  with_reducible rfl
 rotate_left
 ·simp only [Act.put, List.setIfInBounds_toArray, List.set_cons_zero, List.set_cons_succ, i64_w, i32_w]
  rfl
 refine take_ (i := 2) (N := some 71) (v := ?_) (a' := ?_) #[false, true, true, false, false, false, false, false, false, false] rfl rfl (take_ofW HT_.out HW_.out (by kernel_rfl)) (fun _ _ _ h => h) (Or.inl ⟨by rfl, ?_⟩) hHeld ?_ ?_
 rotate_left
 ·rintro w' ⟨s0, s1, s2, s3, s4, s5⟩
  go_simp
  with_reducible rfl
 rotate_left
 ·simp only [Act.put, List.setIfInBounds_toArray, List.set_cons_zero, List.set_cons_succ, i64_w, i32_w]
  rfl
 refine one_ (i := 0) (N := some 69) #[true, true, true, false, false, false, false, false, false, false] rfl rfl (one_of HT_.out (by kernel_rfl)) (by decide) (fun K hK => ?_)
 refine goes_ Tryd.func30 (by kernel_rfl) rfl #[.int .i64 3, .int .i64 0] (by rfl) rfl rfl (by (try simp only [List.map_toArray, List.map_cons, List.map_nil]); first | done | rfl | (simp only [List.length_drop, List.length_take]; rfl)) ?_
 with_reducible refine (script_address.calls 3 0 t240 _ A66.out).mono ?_
 rintro e w' ⟨rfl, ⟨nd, rfl⟩⟩
 refine ⟨_, rfl, ?_⟩
 refine hK.out _ _ ⟨(blk_cell BK221.out 0).trans rfl, (blk_cell BK221.out 1).trans rfl, (blk_cell BK221.out 2).trans rfl, (blk_cell BK221.out 3).trans rfl, (blk_cell BK221.out 4).trans rfl, (blk_cell BK221.out 5).trans rfl⟩ (fun hHeld => ?_)
 clear hK K
 refine norm_ (a' := ?_) ?_ ?_
 rotate_left
 ·show Act.put _ (some 69) _ = _
  simp only [Act.put, List.setIfInBounds_toArray, List.set_cons_zero, List.set_cons_succ, i64_w, i32_w]
  rfl
 refine one_ (i := 3) (N := some 72) #[true, true, true, true, false, false, false, false, false, false] rfl rfl (one_of HT_.out (by kernel_rfl)) (by decide) (fun K hK => ?_)
 refine goes_ Tryd.func33 (by kernel_rfl) rfl #[.int .u64 t240, .slice Ao74 t236.length co74] (by rfl) rfl rfl (by (try simp only [List.map_toArray, List.map_cons, List.map_nil]); first | done | rfl | (simp only [List.length_drop, List.length_take]; rfl)) ?_
 with_reducible refine (frame_Wrap.calls t240 _ _ t236 t241 t242 t243 t244 _ ?side1 ?side2 A67.out ?sideG).mono ?_
 (case sideG => first | exact HG | exact ⟨HG.out.below (by repeat (first | (with_reducible first | exact HB.out | apply below_alloc | apply pw_below_drewN | apply below_drew1) | exact HB.out))⟩)
 (case side1 => repeat (first | exact (Kd.R_reads' HO238.out).2.2 | (with_reducible refine Kd.C_alloc ?_ _) | (with_reducible refine Kd.C_drewN ?_ _) | (with_reducible refine Kd.C_drew ?_)))
 (case side2 => exact (Kd.R_reads' HO238.out).2.1)
 rintro e w81 ⟨v245, rfl, ho0, hb⟩
 refine ⟨_, rfl, ?_⟩
 have n0_ := Aside0.mk (Kd.R_elder' (by (with_reducible repeat (first | apply Kd.R_alloc | apply Kd.R_drewN | apply Kd.R_drew)); exact HO238.out) (Kd.R_base ho0) hb)
 have n1_ := Aside0.mk (Kd.R_lower (Kd.R_new' ho0 (Kd.R_lt (by (with_reducible repeat (first | apply Kd.R_alloc | apply Kd.R_drewN | apply Kd.R_drew)); exact HO238.out))) (keep_size (w := w) (g := g) (row := none) (by repeat (first | (with_reducible first | exact HK.out | apply KeepBut.set_ | apply keep_drewN | apply keep_drew | apply keep_alloc | refine keep_far ?_ GW217.out _ | refine keep_far ?_ GW218.out _ | refine keep_far ?_ GW221.out _) | exact HK.out))))
 have n2_ := Aside0.mk (blk_below (g := gb217) (o := .cells #[.int .i64 a1_0, .slice A1_1 l1_1.length c1_1, .slice A1_2 l1_2.length c1_2, .slice A1_3 l1_3.length c1_3] 28 (0, 0)) (by (with_reducible repeat (first | refine blk_drewN ?_ _ | refine blk_drew ?_ | refine blk_alloc ?_ _)); exact BK217.out) hb)
 have n3_ := Aside0.mk (blk_below (g := gb218) (o := .cells #[.int .i64 0, .int .i64 0, .int .i64 0, .bool false, .int .u64 0, .slice none 0 0] 39 (0, 0)) (by (with_reducible repeat (first | refine blk_drewN ?_ _ | refine blk_drew ?_ | refine blk_alloc ?_ _)); exact BK218.out) hb)
 have n4_ := Aside0.mk (blk_below (g := gb221) (o := .cells #[.int .i64 (Int.tmod t219 7), .int .i64 (Int.tmod t232 a1_0), .int .i64 0, .bool false, .int .u64 0, .slice Ao74 t236.length co74] 39 (0, 0)) (by (with_reducible repeat (first | refine blk_drewN ?_ _ | refine blk_drew ?_ | refine blk_alloc ?_ _)); exact BK221.out) hb)
 have n5_ := Aside0.mk (IsS54.below (by repeat (first | (with_reducible first | exact HI0.out | apply IsS54.alloc | apply IsS54.drewN | apply IsS54.drew | apply IsS54.set_1 | refine IsS54.far ?_ NB0_217.out _ | refine IsS54.far ?_ NB0_218.out _ | refine IsS54.far ?_ NB0_221.out _) | exact HI0.out)) hb)
 have n6_ := Aside0.mk (KeepBut.trans (by repeat (first | (with_reducible first | exact HK.out | apply KeepBut.set_ | apply keep_drewN | apply keep_drew | apply keep_alloc | refine keep_far ?_ GW217.out _ | refine keep_far ?_ GW218.out _ | refine keep_far ?_ GW221.out _) | exact HK.out)) (KeepBut.of_below hb g none) (.inl rfl))
 have n7_ := Aside0.mk (below_step (by repeat (first | (with_reducible first | exact HB.out | apply below_alloc | apply pw_below_drewN | apply below_drew1 | refine below_set ?_ (IsS54.ge HI0.out) | refine below_set ?_ GE217.out | refine below_set ?_ GE218.out | refine below_set ?_ GE221.out) | exact HB.out)) hb)
 clear HO238
 clear BK217
 clear BK218
 clear BK221
 clear HI0
 clear HK
 clear HB
 have HO238 := n0_
 have HO246 := n1_
 have BK217 := n2_
 have BK218 := n3_
 have BK221 := n4_
 have HI0 := n5_
 have HK := n6_
 have HB := n7_
 clear n0_ n1_ n2_ n3_ n4_ n5_ n6_ n7_
 (try clear hb)
 (try clear hb2)
 (try clear hk)
 (try clear hi)
 (try clear ho0)
 obtain ⟨Ao82, co82, eo82⟩ := Kd.R_slice HO246.out
 (first | subst eo82 | (injection eo82 with f1_ f2_ f3_; have f4_ := f1_.symm; have f5_ := f3_.symm; clear f1_ f2_ f3_; subst f4_; subst f5_))
 refine hK.out _ _ ⟨(blk_cell BK221.out 0).trans rfl, (blk_cell BK221.out 1).trans rfl, (blk_cell BK221.out 2).trans rfl, (blk_cell BK221.out 3).trans rfl, (blk_cell BK221.out 4).trans rfl, (blk_cell BK221.out 5).trans rfl⟩ (fun hHeld => ?_)
 clear hK K
 refine norm_ (a' := ?_) ?_ ?_
 rotate_left
 ·show Act.put _ (some 72) _ = _
  simp only [Act.put, List.setIfInBounds_toArray, List.set_cons_zero, List.set_cons_succ, i64_w, i32_w]
  rfl
 refine one_ (i := 4) (N := some 73) #[true, true, true, true, true, false, false, false, false, false] rfl rfl (one_of HT_.out (by kernel_rfl)) (by decide) (fun K hK => ?_)
 refine goes_ Tryd.func32 (by kernel_rfl) rfl #[.agg #[.int .u64 t241, .int .u64 t242, .int .u16 t243, .slice Ao82 t244.length co82]] (by rfl) rfl rfl (by (try simp only [List.map_toArray, List.map_cons, List.map_nil]); first | done | rfl | (simp only [List.length_drop, List.length_take]; rfl)) ?_
 with_reducible refine (frame_Put.calls kj41 t241 t242 t243 _ _ t244 t247 t250 _ ?side1 ?side2 A68.out).mono ?_
 (case side1 => repeat (first | exact (Kd.R_reads' HO246.out).2.2 | (with_reducible refine Kd.C_alloc ?_ _) | (with_reducible refine Kd.C_drewN ?_ _) | (with_reducible refine Kd.C_drew ?_)))
 (case side2 => exact (Kd.R_reads' HO246.out).2.1)
 rintro e w83 ⟨v248, rfl, ho0, hb⟩
 refine ⟨_, rfl, ?_⟩
 have n0_ := Aside0.mk (Kd.R_elder' (by (with_reducible repeat (first | apply Kd.R_alloc | apply Kd.R_drewN | apply Kd.R_drew)); exact HO238.out) (Kd.R_base ho0) hb)
 have n1_ := Aside0.mk (Kd.R_elder' (by (with_reducible repeat (first | apply Kd.R_alloc | apply Kd.R_drewN | apply Kd.R_drew)); exact HO246.out) (Kd.R_base ho0) hb)
 have n2_ := Aside0.mk (Kd.R_lower (Kd.R_new' (Kd.R_new' ho0 (Kd.R_lt (by (with_reducible repeat (first | apply Kd.R_alloc | apply Kd.R_drewN | apply Kd.R_drew)); exact HO238.out))) (Kd.R_lt (by (with_reducible repeat (first | apply Kd.R_alloc | apply Kd.R_drewN | apply Kd.R_drew)); exact HO246.out))) (keep_size (w := w) (g := g) (row := none) (by repeat (first | (with_reducible first | exact HK.out | apply KeepBut.set_ | apply keep_drewN | apply keep_drew | apply keep_alloc | refine keep_far ?_ GW217.out _ | refine keep_far ?_ GW218.out _ | refine keep_far ?_ GW221.out _) | exact HK.out))))
 have n3_ := Aside0.mk (blk_below (g := gb217) (o := .cells #[.int .i64 a1_0, .slice A1_1 l1_1.length c1_1, .slice A1_2 l1_2.length c1_2, .slice A1_3 l1_3.length c1_3] 28 (0, 0)) (by (with_reducible repeat (first | refine blk_drewN ?_ _ | refine blk_drew ?_ | refine blk_alloc ?_ _)); exact BK217.out) hb)
 have n4_ := Aside0.mk (blk_below (g := gb218) (o := .cells #[.int .i64 0, .int .i64 0, .int .i64 0, .bool false, .int .u64 0, .slice none 0 0] 39 (0, 0)) (by (with_reducible repeat (first | refine blk_drewN ?_ _ | refine blk_drew ?_ | refine blk_alloc ?_ _)); exact BK218.out) hb)
 have n5_ := Aside0.mk (blk_below (g := gb221) (o := .cells #[.int .i64 (Int.tmod t219 7), .int .i64 (Int.tmod t232 a1_0), .int .i64 0, .bool false, .int .u64 0, .slice Ao74 t236.length co74] 39 (0, 0)) (by (with_reducible repeat (first | refine blk_drewN ?_ _ | refine blk_drew ?_ | refine blk_alloc ?_ _)); exact BK221.out) hb)
 have n6_ := Aside0.mk (IsS54.below (by repeat (first | (with_reducible first | exact HI0.out | apply IsS54.alloc | apply IsS54.drewN | apply IsS54.drew | apply IsS54.set_1 | refine IsS54.far ?_ NB0_217.out _ | refine IsS54.far ?_ NB0_218.out _ | refine IsS54.far ?_ NB0_221.out _) | exact HI0.out)) hb)
 have n7_ := Aside0.mk (KeepBut.trans (by repeat (first | (with_reducible first | exact HK.out | apply KeepBut.set_ | apply keep_drewN | apply keep_drew | apply keep_alloc | refine keep_far ?_ GW217.out _ | refine keep_far ?_ GW218.out _ | refine keep_far ?_ GW221.out _) | exact HK.out)) (KeepBut.of_below hb g none) (.inl rfl))
 have n8_ := Aside0.mk (below_step (by repeat (first | (with_reducible first | exact HB.out | apply below_alloc | apply pw_below_drewN | apply below_drew1 | refine below_set ?_ (IsS54.ge HI0.out) | refine below_set ?_ GE217.out | refine below_set ?_ GE218.out | refine below_set ?_ GE221.out) | exact HB.out)) hb)
 clear HO238
 clear HO246
 clear BK217
 clear BK218
 clear BK221
 clear HI0
 clear HK
 clear HB
 have HO238 := n0_
 have HO246 := n1_
 have HO249 := n2_
 have BK217 := n3_
 have BK218 := n4_
 have BK221 := n5_
 have HI0 := n6_
 have HK := n7_
 have HB := n8_
 clear n0_ n1_ n2_ n3_ n4_ n5_ n6_ n7_ n8_
 (try clear hb)
 (try clear hb2)
 (try clear hk)
 (try clear hi)
 (try clear ho0)
 obtain ⟨Ao84, co84, eo84⟩ := Kd.R_slice HO249.out
 (first | subst eo84 | (injection eo84 with f1_ f2_ f3_; have f4_ := f1_.symm; have f5_ := f3_.symm; clear f1_ f2_ f3_; subst f4_; subst f5_))
 refine hK.out _ _ ⟨(blk_cell BK221.out 0).trans rfl, (blk_cell BK221.out 1).trans rfl, (blk_cell BK221.out 2).trans rfl, (blk_cell BK221.out 3).trans rfl, (blk_cell BK221.out 4).trans rfl, (blk_cell BK221.out 5).trans rfl⟩ (fun hHeld => ?_)
 clear hK K
 refine norm_ (a' := ?_) ?_ ?_
 rotate_left
 ·show Act.put _ (some 73) _ = _
  simp only [Act.put, List.setIfInBounds_toArray, List.set_cons_zero, List.set_cons_succ, i64_w, i32_w]
  rfl
 refine pure_ (i := 5) (N := some 68) (v := ?_) (a' := ?_) #[true, true, true, true, true, true, false, false, false, false] rfl rfl (any_of HT_.out (by kernel_rfl)) (fun _ _ _ h => h) (Or.inl ⟨by rfl, ?_⟩) ?_ ?_
 rotate_left
 ·intro w'
  go_simp
  with_reducible rfl
 rotate_left
 ·simp only [Act.put, List.setIfInBounds_toArray, List.set_cons_zero, List.set_cons_succ, i64_w, i32_w]
  rfl
 refine pure_ (i := 6) (N := some 74) (v := ?_) (a' := ?_) #[true, true, true, true, true, true, true, false, false, false] rfl rfl (any_of HT_.out (by kernel_rfl)) (fun _ _ _ h => h) (Or.inl ⟨by rfl, ?_⟩) ?_ ?_
 rotate_left
 ·intro w'
  go_simp
  with_reducible rfl
 rotate_left
 ·simp only [Act.put, List.setIfInBounds_toArray, List.set_cons_zero, List.set_cons_succ, i64_w, i32_w]
  rfl
 refine pure_ (i := 7) (N := some 75) (v := ?_) (a' := ?_) #[true, true, true, true, true, true, true, true, false, false] rfl rfl (any_of HT_.out (by kernel_rfl)) (fun _ _ _ h => h) (Or.inl ⟨by rfl, ?_⟩) ?_ ?_
 rotate_left
 ·intro w'
  go_simp
  with_reducible rfl
 rotate_left
 ·simp only [Act.put, List.setIfInBounds_toArray, List.set_cons_zero, List.set_cons_succ, i64_w, i32_w]
  rfl
 refine pure_ (i := 8) (N := some 76) (v := ?_) (a' := ?_) #[true, true, true, true, true, true, true, true, true, false] rfl rfl (any_of HT_.out (by kernel_rfl)) (fun _ _ _ h => h) (Or.inl ⟨by rfl, ?_⟩) ?_ ?_
 rotate_left
 ·intro w'
  go_simp
  with_reducible rfl
 rotate_left
 ·simp only [Act.put, List.setIfInBounds_toArray, List.set_cons_zero, List.set_cons_succ, i64_w, i32_w]
  rfl
 refine last_ (i := 9) (N := none) #[true, true, true, true, true, true, true, true, true, true] rfl rfl (one_of HT_.out (by kernel_rfl)) (by decide) (fun K hK => ?_)
 have hs85 : w83.cell? ⟨gb221, 5, none⟩ = some (.slice Ao74 t236.length co74) := (blk_cell BK221.out 5).trans rfl
 have hfs85 := blk_frozen BK221.out 5
 have hns85_0 := NB217_221.out
 have hns85_1 := NB218_221.out
 have hms85_0 := NB221_217.out
 have hms85_1 := NB221_218.out
 refine skip_ (w1 := ?_) (by rfl) rfl ?_ ?_
 rotate_left
 ·go_simp
  rfl
 refine hK.out _ _ ?_
 clear hK K
 refine done_ (done_of HT_.out (by kernel_rfl)) ?_
 have hcz86_0 : w83.cell? ⟨gb221, 0, none⟩ = some (.int .i64 (Int.tmod t219 7)) := (blk_cell BK221.out 0).trans rfl
 have hcz86_1 : w83.cell? ⟨gb221, 1, none⟩ = some (.int .i64 (Int.tmod t232 a1_0)) := (blk_cell BK221.out 1).trans rfl
 have hcz86_2 : w83.cell? ⟨gb221, 2, none⟩ = some (.int .i64 0) := (blk_cell BK221.out 2).trans rfl
 have hcz86_3 : w83.cell? ⟨gb221, 3, none⟩ = some (.bool false) := (blk_cell BK221.out 3).trans rfl
 have hcz86_4 : w83.cell? ⟨gb221, 4, none⟩ = some (.int .u64 0) := (blk_cell BK221.out 4).trans rfl
 have hcz86_5 : w83.cell? ⟨gb221, 5, none⟩ = some (.slice Ao74 t236.length co74) := (blk_cell BK221.out 5).trans rfl
 have hfz86_0 := blk_frozen BK221.out 0
 have hfz86_1 := blk_frozen BK221.out 1
 have hfz86_2 := blk_frozen BK221.out 2
 have hfz86_3 := blk_frozen BK221.out 3
 have hfz86_4 := blk_frozen BK221.out 4
 have hfz86_5 := blk_frozen BK221.out 5
 have hnb87 := NB218_217.out
 have hnc87 := NB217_218.out
 have hnb88 := NB218_0.out
 have hnc88 := NB0_218.out
 have hcz89_0 : w83.cell? ⟨gb218, 0, none⟩ = some (.int .i64 0) := (blk_cell BK218.out 0).trans rfl
 have hcz89_1 : w83.cell? ⟨gb218, 1, none⟩ = some (.int .i64 0) := (blk_cell BK218.out 1).trans rfl
 have hcz89_2 : w83.cell? ⟨gb218, 2, none⟩ = some (.int .i64 0) := (blk_cell BK218.out 2).trans rfl
 have hcz89_3 : w83.cell? ⟨gb218, 3, none⟩ = some (.bool false) := (blk_cell BK218.out 3).trans rfl
 have hcz89_4 : w83.cell? ⟨gb218, 4, none⟩ = some (.int .u64 0) := (blk_cell BK218.out 4).trans rfl
 have hcz89_5 : w83.cell? ⟨gb218, 5, none⟩ = some (.slice none 0 0) := (blk_cell BK218.out 5).trans rfl
 have hfz89_0 := blk_frozen BK218.out 0
 have hfz89_1 := blk_frozen BK218.out 1
 have hfz89_2 := blk_frozen BK218.out 2
 have hfz89_3 := blk_frozen BK218.out 3
 have hfz89_4 := blk_frozen BK218.out 4
 have hfz89_5 := blk_frozen BK218.out 5
 try go_wp2
 refine bodyPost_ret (results_cell_row rfl _ _ gb218 39 #[.int .i64 (Int.tmod t219 7), .int .i64 (Int.tmod t232 a1_0), .int .i64 0, .bool false, .int .u64 0, .slice Ao84 t247.length co84] (0, 0) _ rfl (by (with_reducible repeat (first | refine blk_drewN ?_ _ | refine blk_drew ?_ | refine blk_alloc ?_ _)); refine blk_put (cs := #[.int .i64 (Int.tmod t219 7), .int .i64 (Int.tmod t232 a1_0), .int .i64 0, .bool false, .int .u64 0, .slice none 0 0]) ?_ 5 _ rfl; (with_reducible repeat (first | refine blk_drewN ?_ _ | refine blk_drew ?_ | refine blk_alloc ?_ _)); refine blk_put (cs := #[.int .i64 (Int.tmod t219 7), .int .i64 (Int.tmod t232 a1_0), .int .i64 0, .bool false, .int .u64 0, .slice none 0 0]) ?_ 4 _ rfl; (with_reducible repeat (first | refine blk_drewN ?_ _ | refine blk_drew ?_ | refine blk_alloc ?_ _)); refine blk_put (cs := #[.int .i64 (Int.tmod t219 7), .int .i64 (Int.tmod t232 a1_0), .int .i64 0, .bool false, .int .u64 0, .slice none 0 0]) ?_ 3 _ rfl; (with_reducible repeat (first | refine blk_drewN ?_ _ | refine blk_drew ?_ | refine blk_alloc ?_ _)); refine blk_put (cs := #[.int .i64 (Int.tmod t219 7), .int .i64 (Int.tmod t232 a1_0), .int .i64 0, .bool false, .int .u64 0, .slice none 0 0]) ?_ 2 _ rfl; (with_reducible repeat (first | refine blk_drewN ?_ _ | refine blk_drew ?_ | refine blk_alloc ?_ _)); refine blk_put (cs := #[.int .i64 (Int.tmod t219 7), .int .i64 0, .int .i64 0, .bool false, .int .u64 0, .slice none 0 0]) ?_ 1 _ rfl; (with_reducible repeat (first | refine blk_drewN ?_ _ | refine blk_drew ?_ | refine blk_alloc ?_ _)); refine blk_put (cs := #[.int .i64 0, .int .i64 0, .int .i64 0, .bool false, .int .u64 0, .slice none 0 0]) ?_ 0 _ rfl; (with_reducible repeat (first | refine blk_drewN ?_ _ | refine blk_drew ?_ | refine blk_alloc ?_ _)); refine blk_far ?_ NB218_221.out _; (with_reducible repeat (first | refine blk_drewN ?_ _ | refine blk_drew ?_ | refine blk_alloc ?_ _)); exact BK218.out) Tryd.underlying39 rfl (by kernel_rfl)) rfl ?_
 exact ⟨_, by first | rfl | (simp [errW_none, errW_some] <;> rfl) | (simp [*, errW_none, errW_some] <;> rfl), by (with_reducible repeat (first | apply Kd.R_alloc | apply Kd.R_drewN | apply Kd.R_drew)); exact Kd.R_mono (Kd.R_far (p := ⟨gb218, 5, none⟩) (Kd.R_far (p := ⟨gb218, 4, none⟩) (Kd.R_far (p := ⟨gb218, 3, none⟩) (Kd.R_far (p := ⟨gb218, 2, none⟩) (Kd.R_far (p := ⟨gb218, 1, none⟩) (Kd.R_far (p := ⟨gb218, 0, none⟩) (Kd.R_far (p := ⟨gb221, 5, none⟩) (Kd.R_types (Kd.R_types HO249.out BK221.out (by decide)) BK218.out (by decide)) (fun _ hk => hk.1.2) (.slice Ao84 t247.length co84)) (fun _ hk => hk.2) (.int .i64 (Int.tmod t219 7))) (fun _ hk => hk.2) (.int .i64 (Int.tmod t232 a1_0))) (fun _ hk => hk.2) (.int .i64 0)) (fun _ hk => hk.2) (.bool false)) (fun _ hk => hk.2) (.int .u64 0)) (fun _ hk => hk.2) (.slice Ao84 t247.length co84)) (fun _ hk => trivial), by repeat (first | (with_reducible first | exact HI0.out | apply IsS54.alloc | apply IsS54.drewN | apply IsS54.drew | apply IsS54.set_1 | refine IsS54.far ?_ NB0_217.out _ | refine IsS54.far ?_ NB0_218.out _ | refine IsS54.far ?_ NB0_221.out _) | exact HI0.out), by repeat (first | (with_reducible first | exact HB.out | apply below_alloc | apply pw_below_drewN | apply below_drew1 | refine below_set ?_ (IsS54.ge HI0.out) | refine below_set ?_ GE217.out | refine below_set ?_ GE218.out | refine below_set ?_ GE221.out) | exact HB.out), by repeat (first | (with_reducible first | exact HK.out | apply KeepBut.set_ | apply keep_drewN | apply keep_drew | apply keep_alloc | refine keep_far ?_ GW217.out _ | refine keep_far ?_ GW218.out _ | refine keep_far ?_ GW221.out _) | exact HK.out)⟩
end Go.Proofs.YtiikllgppmmiaaaDoor.OScriptTells
