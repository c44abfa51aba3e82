/- What Go functions that the law ScriptTells uses come to, and why: part 3. Made out of the kit's print by a program of this session (wip/tools/stub.py, splice.py), functions that it does not take told by hand. -/
import Derived.Test.YtiikllgppmmiaaaDoorOScriptTellsx2
namespace Go.Proofs.YtiikllgppmmiaaaDoor.OScriptTells
open Go.RowKit Go.Proofs.YtiikllgppmmiaaaDoorW.PrintWords Go.Proofs.YtiikllgppmmiaaaDoorW.PrintLast Go.Proofs.YtiikllgppmmiaaaDoorW.PrintMore
attribute [local go_sem] max2_int min2_int max_two min_two max_three min_three max_four min_four   -- for this text's walks alone
set_option linter.unusedVariables false
set_option linter.unusedSimpArgs false

/-! ### script_reader_topo: function 16 -/
mutual
def script_reader_topo.l0 : Nat → Int → Int → List Int → Int → Int → List (S51) → List (List Int) → Option (Int × (List (S51)) × (List (List Int)) × (List (S66)) × Int)
  | 0, _, _, _, _, _, _, _ => none
  | k + 1, x16, x17, x1000, x1001, x128000, x128001, x128002 => if x17 < x16 then ((script_reader_conf.f k x1000 x1001 x17).bind fun bt130 => (script_reader_topo.l1 k ([] : List Int) x16 x17 (bt130.2.2.2.2.2.2.2.1.length : Int) 0 x1000 bt130.2.2.2.2.2.2.2.2 x128000 x128001 x128002 bt130.1 bt130.2.1 bt130.2.2.1 bt130.2.2.2.1 bt130.2.2.2.2.1 bt130.2.2.2.2.2.1 bt130.2.2.2.2.2.2.1 bt130.2.2.2.2.2.2.2.1)) else ((script_reader_next.f x1000 x1001).bind fun bt162 => (script_reader_topo.l2 k (Int.tmod bt162.1 4) 0 x1000 bt162.2 x128000 x128001 x128002 ([] : List (S66))))
def script_reader_topo.l1 : Nat → List Int → Int → Int → Int → Int → List Int → Int → Int → List (S51) → List (List Int) → Int → Int → Int → Int → Int → Int → Int → List (S63) → Option (Int × (List (S51)) × (List (List Int)) × (List (S66)) × Int)
  | 0, _, _, _, _, _, _, _, _, _, _, _, _, _, _, _, _, _, _ => none
  | k + 1, x6, x16, x17, x25, x26, x1000, x1001, x128000, x128001, x128002, x142000, x142001, x142002, x142003, x142004, x142005, x142006, x142007 => if x26 < x25 then ((script_reader_next.f x1000 x1001).bind fun bt142 => (if x128000 = 0 then (none) else ((some (([Int.tmod bt142.1 x128000] : List Int) : List Int)).bind fun y144 => (if x6.length + y144.length < 17592186044416 then (script_reader_topo.l1 k (x6 ++ y144) x16 x17 x25 (wrap64 (x26 + 1)) x1000 bt142.2 x128000 x128001 x128002 x142000 x142001 x142002 x142003 x142004 x142005 x142006 x142007) else (none))))) else ((some (([(⟨x142000, x142001, x142002, x142003, x142004, x142005, x142006, x142007⟩ : S51)] : List (S51)) : List (S51))).bind fun y150 => (if x128001.length + y150.length < 1759218604441 then ((some (([x6] : List (List Int)) : List (List Int))).bind fun y156 => (if x128002.length + y156.length < 5864062014805 then (script_reader_topo.l0 k x16 (wrap64 (x17 + 1)) x1000 x1001 x128000 (x128001 ++ y150) (x128002 ++ y156)) else (none))) else (none)))
def script_reader_topo.l2 : Nat → Int → Int → List Int → Int → Int → List (S51) → List (List Int) → List (S66) → Option (Int × (List (S51)) × (List (List Int)) × (List (S66)) × Int)
  | 0, _, _, _, _, _, _, _, _ => none
  | k + 1, x52, x53, x1000, x1001, x128000, x128001, x128002, x128003 => if x53 < x52 then ((script_address.f 2 x53).bind fun t164 => ((script_reader_next.f x1000 x1001).bind fun bt165 => (if x128000 = 0 then (none) else ((some (([(⟨t164, Int.tmod bt165.1 x128000⟩ : S66)] : List (S66)) : List (S66))).bind fun y167 => (if x128003.length + y167.length < 8796093022208 then (script_reader_topo.l2 k x52 (wrap64 (x53 + 1)) x1000 bt165.2 x128000 x128001 x128002 (x128003 ++ y167)) else (none)))))) else (some (x128000, x128001, x128002, x128003, x1001))
end
def script_reader_topo.f (k : Nat) (s0_0 : List Int) (s0_1 : Int) : Option (Int × (List (S51)) × (List (List Int)) × (List (S66)) × Int) := (script_reader_next.f s0_0 s0_1).bind fun bt125 => ((script_reader_next.f s0_0 bt125.2).bind fun bt128 => (script_reader_topo.l0 k (wrap64 (1 + (Int.tmod bt128.1 4))) 0 s0_0 bt128.2 (wrap64 (1 + (Int.tmod bt125.1 5))) ([] : List (S51)) ([] : List (List Int))))
theorem script_reader_topo.mono_l : ∀ k, (∀ y0 y1 y2 y3 y4 y5 y6, LeO (script_reader_topo.l0 k y0 y1 y2 y3 y4 y5 y6) (script_reader_topo.l0 (k + 1) y0 y1 y2 y3 y4 y5 y6)) ∧ (∀ y0 y1 y2 y3 y4 y5 y6 y7 y8 y9 y10 y11 y12 y13 y14 y15 y16 y17, LeO (script_reader_topo.l1 k y0 y1 y2 y3 y4 y5 y6 y7 y8 y9 y10 y11 y12 y13 y14 y15 y16 y17) (script_reader_topo.l1 (k + 1) y0 y1 y2 y3 y4 y5 y6 y7 y8 y9 y10 y11 y12 y13 y14 y15 y16 y17)) ∧ (∀ y0 y1 y2 y3 y4 y5 y6 y7, LeO (script_reader_topo.l2 k y0 y1 y2 y3 y4 y5 y6 y7) (script_reader_topo.l2 (k + 1) y0 y1 y2 y3 y4 y5 y6 y7))
  | 0 => ⟨fun _ _ _ _ _ _ _ r h => by simp [script_reader_topo.l0] at h, fun _ _ _ _ _ _ _ _ _ _ _ _ _ _ _ _ _ _ r h => by simp [script_reader_topo.l1] at h, fun _ _ _ _ _ _ _ _ r h => by simp [script_reader_topo.l2] at h⟩
  | k + 1 => by
    obtain ⟨ih0, ih1, ih2⟩ := script_reader_topo.mono_l k
    refine ⟨?_, ?_, ?_⟩
    · intro y0 y1 y2 y3 y4 y5 y6
      unfold script_reader_topo.l0
      repeat' first
      | (with_reducible exact ih0 _ _ _ _ _ _ _)
      | (with_reducible exact ih1 _ _ _ _ _ _ _ _ _ _ _ _ _ _ _ _ _ _)
      | (with_reducible exact ih2 _ _ _ _ _ _ _ _)
      | (with_reducible exact script_reader_conf.mono _ _ _ _)
      | (with_reducible exact LeO.refl _)
      | (with_reducible exact LeO.none _)
      | (with_reducible refine LeO.ite ?_ ?_)
      | (with_reducible refine LeO.bind ?_ (fun _ => ?_))
      | exact ih0 _ _ _ _ _ _ _
      | exact ih1 _ _ _ _ _ _ _ _ _ _ _ _ _ _ _ _ _ _
      | exact ih2 _ _ _ _ _ _ _ _
      | exact script_reader_conf.mono _ _ _ _
      | exact LeO.none _
      | refine LeO.ite ?_ ?_
      | refine LeO.bind ?_ (fun _ => ?_)
    · intro y0 y1 y2 y3 y4 y5 y6 y7 y8 y9 y10 y11 y12 y13 y14 y15 y16 y17
      unfold script_reader_topo.l1
      repeat' first
      | (with_reducible exact ih0 _ _ _ _ _ _ _)
      | (with_reducible exact ih1 _ _ _ _ _ _ _ _ _ _ _ _ _ _ _ _ _ _)
      | (with_reducible exact ih2 _ _ _ _ _ _ _ _)
      | (with_reducible exact script_reader_conf.mono _ _ _ _)
      | (with_reducible exact LeO.refl _)
      | (with_reducible exact LeO.none _)
      | (with_reducible refine LeO.ite ?_ ?_)
      | (with_reducible refine LeO.bind ?_ (fun _ => ?_))
      | exact ih0 _ _ _ _ _ _ _
      | exact ih1 _ _ _ _ _ _ _ _ _ _ _ _ _ _ _ _ _ _
      | exact ih2 _ _ _ _ _ _ _ _
      | exact script_reader_conf.mono _ _ _ _
      | exact LeO.none _
      | refine LeO.ite ?_ ?_
      | refine LeO.bind ?_ (fun _ => ?_)
    · intro y0 y1 y2 y3 y4 y5 y6 y7
      unfold script_reader_topo.l2
      repeat' first
      | (with_reducible exact ih0 _ _ _ _ _ _ _)
      | (with_reducible exact ih1 _ _ _ _ _ _ _ _ _ _ _ _ _ _ _ _ _ _)
      | (with_reducible exact ih2 _ _ _ _ _ _ _ _)
      | (with_reducible exact script_reader_conf.mono _ _ _ _)
      | (with_reducible exact LeO.refl _)
      | (with_reducible exact LeO.none _)
      | (with_reducible refine LeO.ite ?_ ?_)
      | (with_reducible refine LeO.bind ?_ (fun _ => ?_))
      | exact ih0 _ _ _ _ _ _ _
      | exact ih1 _ _ _ _ _ _ _ _ _ _ _ _ _ _ _ _ _ _
      | exact ih2 _ _ _ _ _ _ _ _
      | exact script_reader_conf.mono _ _ _ _
      | exact LeO.none _
      | refine LeO.ite ?_ ?_
      | refine LeO.bind ?_ (fun _ => ?_)
theorem script_reader_topo.mono : ∀ a0 a1 k, LeO (script_reader_topo.f k a0 a1) (script_reader_topo.f (k + 1) a0 a1) := by
  intro a0 a1 k
  obtain ⟨ih0, ih1, ih2⟩ := script_reader_topo.mono_l k
  unfold script_reader_topo.f
  repeat' first
      | (with_reducible exact ih0 _ _ _ _ _ _ _)
      | (with_reducible exact ih1 _ _ _ _ _ _ _ _ _ _ _ _ _ _ _ _ _ _)
      | (with_reducible exact ih2 _ _ _ _ _ _ _ _)
      | (with_reducible exact script_reader_conf.mono _ _ _ _)
      | (with_reducible exact LeO.refl _)
      | (with_reducible exact LeO.none _)
      | (with_reducible refine LeO.ite ?_ ?_)
      | (with_reducible refine LeO.bind ?_ (fun _ => ?_))
      | exact ih0 _ _ _ _ _ _ _
      | exact ih1 _ _ _ _ _ _ _ _ _ _ _ _ _ _ _ _ _ _
      | exact ih2 _ _ _ _ _ _ _ _
      | exact script_reader_conf.mono _ _ _ _
      | exact LeO.none _
      | refine LeO.ite ?_ ?_
      | refine LeO.bind ?_ (fun _ => ?_)
def script_reader_topo.T9 : Bool × List (List Nat × List Nat) := (true, [([], []), ([], []), ([1], [1]), ([], []), ([3], [3]), ([2, 4], [2, 4]), ([5], [5]), ([0, 6, 2], [0, 6]), ([7, 7, 0, 1, 2, 3, 4, 5, 6, 7], [0, 7])])
def script_reader_topo.B9 : List Nat := [0, 0, 2, 0, 8, 30, 62, 127, 255]
theorem script_reader_topo.tab9 : rtab .any (opsOf Tryd.f16 9) = script_reader_topo.T9 := by kernel_rfl
theorem script_reader_topo.bits9 : waitsOk script_reader_topo.T9.2 script_reader_topo.B9 = true := by kernel_rfl
def script_reader_topo.T11 : Bool × List (List Nat × List Nat) := (true, [([], []), ([0], [0]), ([], []), ([2], [2]), ([1, 3], [1, 3]), ([], []), ([5], [5]), ([], []), ([7], [7]), ([6, 8, 4], [6, 8]), ([0, 1, 2, 3, 4, 5, 6], []), ([10, 4, 9, 0, 1, 2, 3, 4, 5, 6], [4, 10]), ([0, 1, 2, 3, 4, 5, 6, 7, 8, 9, 10, 11], []), ([12, 9, 11, 0, 1, 2, 3, 4, 5, 6, 7, 8, 9, 10, 11], [9, 12])])
def script_reader_topo.B11 : List Nat := [0, 1, 0, 4, 15, 0, 32, 0, 128, 511, 127, 2047, 4095, 8191]
theorem script_reader_topo.tab11 : rtab .any (opsOf Tryd.f16 11) = script_reader_topo.T11 := by kernel_rfl
theorem script_reader_topo.bits11 : waitsOk script_reader_topo.T11.2 script_reader_topo.B11 = true := by kernel_rfl
def script_reader_topo.T16 : Bool × List (List Nat × List Nat) := (true, [([], []), ([0], [0]), ([], []), ([2], [2]), ([], []), ([4, 3], [4]), ([], []), ([6], [6]), ([5, 7], [5, 7]), ([3, 8], [3, 8]), ([9], [9]), ([1, 10, 5], [1, 10]), ([0, 1, 2, 3, 4, 5, 6, 7, 8, 9, 10, 11], []), ([12, 11, 11, 0, 1, 2, 3, 4, 5, 6, 7, 8, 9, 10, 11], [11, 12])])
def script_reader_topo.B16 : List Nat := [0, 1, 0, 4, 0, 28, 0, 64, 252, 508, 1020, 2047, 4095, 8191]
theorem script_reader_topo.tab16 : rtab .any (opsOf Tryd.f16 16) = script_reader_topo.T16 := by kernel_rfl
theorem script_reader_topo.bits16 : waitsOk script_reader_topo.T16.2 script_reader_topo.B16 = true := by kernel_rfl
set_option maxHeartbeats 8000000 in
set_option maxRecDepth 100000 in
theorem script_reader_topo.calls (k : Nat) (g : Nat) (s0_0 : List Int) (s0_1 : Int) (r1 : Int) (r2 : List (S51)) (r3 : List (List Int)) (r4 : List (S66)) (r5 : Int) (w0 w : World) (hI : IsS54 w0 w g s0_0 s0_1) (hB : Below w0.heap.size w0 w) (h : script_reader_topo.f k s0_0 s0_1 = some (r1, r2, r3, r4, r5)) :
  Calls Tryd.prog 16 #[.pointer (some ⟨g, 0, none⟩)] w fun e w' => ∃ v1_ v2_ v3_ : Value, e = .returned (.agg #[.int .i64 r1, v1_, v2_, v3_]) ∧ Kd.N k51 51 w' w.heap.size (fun k_ => (w.heap.size ≤ k_) ∧ some k_ ≠ (v2_ : Value).ownBlock ∧ some k_ ≠ (v3_ : Value).ownBlock) v1_ r2 ∧ Kd.N (Kd.slice 3 (Kd.int .i64)) 64 w' w.heap.size (fun k_ => (w.heap.size ≤ k_) ∧ some k_ ≠ (v1_ : Value).ownBlock ∧ some k_ ≠ (v3_ : Value).ownBlock) v2_ r3 ∧ Kd.R k66 66 w' w.heap.size (fun k_ => (w.heap.size ≤ k_)) v3_ r4 ∧ IsS54 w0 w' g s0_0 r5 ∧ Below w0.heap.size w0 w' ∧ KeepBut w w' g none := by
 have hu28 := Tryd.underlying28
 have hu51 := Tryd.underlying51
 have hu66 := Tryd.underlying66
 have HI0 := Aside0.mk hI
 have HK := Aside0.mk (KeepBut.refl w g none)
 have HL := Aside0.mk hB.size
 clear hI
 have HW0 := Aside0.mk hB.size
 have HB := Aside0.mk hB
 clear hB
 have H : ((script_reader_next.f s0_0 s0_1).bind fun bt125 => ((script_reader_next.f s0_0 bt125.2).bind fun bt128 => (script_reader_topo.l0 k (wrap64 (1 + (Int.tmod bt128.1 4))) 0 s0_0 bt128.2 (wrap64 (1 + (Int.tmod bt125.1 5))) ([] : List (S51)) ([] : List (List Int))))) = some (r1, r2, r3, r4, r5) := h
 clear h
 replace H := Option.bind_eq_some_iff.mp H
 obtain ⟨⟨t125, t126⟩, A20, H⟩ := H
 replace H : ((script_reader_next.f s0_0 t126).bind fun bt128 => (script_reader_topo.l0 k (wrap64 (1 + (Int.tmod bt128.1 4))) 0 s0_0 bt128.2 (wrap64 (1 + (Int.tmod t125 5))) ([] : List (S51)) ([] : List (List Int)))) = some (r1, r2, r3, r4, r5) := H
 have A2 := Aside0.mk A20
 clear A20
 replace H := Option.bind_eq_some_iff.mp H
 obtain ⟨⟨t128, t129⟩, A30, H⟩ := H
 replace H : (script_reader_topo.l0 k (wrap64 (1 + (Int.tmod t128 4))) 0 s0_0 t129 (wrap64 (1 + (Int.tmod t125 5))) ([] : List (S51)) ([] : List (List Int))) = some (r1, r2, r3, r4, r5) := H
 have A3 := Aside0.mk A30
 clear A30
 have H' := Aside0.mk H
 clear H
 go_enter Tryd.func16, Tryd.ntmps16
 go_wp2_with (first | ((with_reducible refine gate_dst (N := 2) rfl ?_); refine box_event ?hg (N := 2) ?hd (cs := #[.int .i64 0, .slice none 0 0, .slice none 0 0, .slice none 0 0]) (t := 28) ?hr ?_; (case hd => rfl); (case hg => rfl); (case hr => first | (go_simp; done) | (go_simp; rfl)); intro gb124 hg w4 hbox hb; have n0_ := Aside0.mk (IsS54.below (by repeat (first | (with_reducible first | exact HI0.out | apply IsS54.alloc | apply IsS54.drewN | apply IsS54.drew | apply IsS54.set_1) | exact HI0.out)) hb); have n1_ := Aside0.mk (KeepBut.trans (by repeat (first | (with_reducible first | exact HK.out | apply KeepBut.set_ | apply keep_drewN | apply keep_drew | apply keep_alloc) | exact HK.out)) (KeepBut.of_below hb g none) (.inl rfl)); have n2_ := Aside0.mk (below_step (by repeat (first | (with_reducible first | exact HB.out | apply below_alloc | apply pw_below_drewN | apply below_drew1 | refine below_set ?_ (IsS54.ge HI0.out)) | exact HB.out)) hb); have n3_ := Aside0.mk (hbox); have n4_ := Aside0.mk ((by rw [hg]; exact (keep_size (w := w) (g := g) (row := none) (by repeat (first | (with_reducible first | exact HK.out | apply KeepBut.set_ | apply keep_drewN | apply keep_drew | apply keep_alloc) | exact HK.out))) : w.heap.size ≤ gb124)); have n5_ := Aside0.mk ((Nat.le_trans HW0.out (by rw [hg]; exact (keep_size (w := w) (g := g) (row := none) (by repeat (first | (with_reducible first | exact HK.out | apply KeepBut.set_ | apply keep_drewN | apply keep_drew | apply keep_alloc) | exact HK.out))) : w.heap.size ≤ gb124) : w0.heap.size ≤ gb124)); have n6_ := Aside0.mk ((by rw [hg]; exact Nat.ne_of_lt (IsS54.lt (show IsS54 w0 _ g s0_0 s0_1 from by repeat (first | (with_reducible first | exact HI0.out | apply IsS54.alloc | apply IsS54.drewN | apply IsS54.drew | apply IsS54.set_1) | exact HI0.out))) : g ≠ gb124)); have n7_ := Aside0.mk ((by rw [hg]; exact Nat.ne_of_gt (IsS54.lt (show IsS54 w0 _ g s0_0 s0_1 from by repeat (first | (with_reducible first | exact HI0.out | apply IsS54.alloc | apply IsS54.drewN | apply IsS54.drew | apply IsS54.set_1) | exact HI0.out))) : gb124 ≠ g)); clear HI0; clear HK; clear HB; have HI0 := n0_; have HK := n1_; have HB := n2_; have BK124 := n3_; have GW124 := n4_; have GE124 := n5_; have NB0_124 := n6_; have NB124_0 := n7_; clear n0_ n1_ n2_ n3_ n4_ n5_ n6_ n7_; clear hb hbox hg) | ((with_reducible refine gate_callee (f := 28) rfl ?_); refine goesL_ (some 9) rfl rfl Tryd.func28 (by kernel_rfl) rfl #[.pointer (some ⟨g, 0, none⟩)] rfl (by (try simp only [List.map_toArray, List.map_cons, List.map_nil]); first | done | rfl | (simp only [List.length_drop, List.length_take]; rfl)) ?_; (with_reducible refine (script_reader_next.calls g s0_0 s0_1 t125 t126 w0 _ ?side1 ?side2 A2.out).mono ?_); (case side1 => repeat (first | (with_reducible first | exact HI0.out | apply IsS54.alloc | apply IsS54.drewN | apply IsS54.drew | apply IsS54.set_1 | refine IsS54.far ?_ NB0_124.out _) | exact HI0.out)); (case side2 => repeat (first | (with_reducible first | exact HB.out | apply below_alloc | apply pw_below_drewN | apply below_drew1 | refine below_set ?_ (IsS54.ge HI0.out) | refine below_set ?_ GE124.out) | exact HB.out)); rintro e w5 ⟨rfl, hi, hb, hk⟩; refine ⟨_, rfl, ?_⟩; have n0_ := Aside0.mk (KeepBut.blk hk (g' := gb124) (o := .cells #[.int .i64 0, .slice none 0 0, .slice none 0 0, .slice none 0 0] 28 (0, 0)) (by (with_reducible repeat (first | refine blk_drewN ?_ _ | refine blk_drew ?_ | refine blk_alloc ?_ _)); exact BK124.out) NB124_0.out (by simp)); have n1_ := Aside0.mk (KeepBut.trans (by repeat (first | (with_reducible first | exact HK.out | apply KeepBut.set_ | apply keep_drewN | apply keep_drew | apply keep_alloc | refine keep_far ?_ GW124.out _) | exact HK.out)) hk (.inl rfl)); have n2_ := Aside0.mk (hb); have n3_ := Aside0.mk (hi); clear BK124; clear HK; clear HB; clear HI0; have BK124 := n0_; have HK := n1_; have HB := n2_; have HI0 := n3_; clear n0_ n1_ n2_ n3_; (try clear hb); (try clear hb2); (try clear hk); (try clear hi)) | ((with_reducible refine gate_dst (N := 3) rfl ?_); refine box_event ?hg (N := 3) ?hd (cs := #[.int .i64 0, .slice none 0 0, .slice none 0 0, .slice none 0 0]) (t := 28) ?hr ?_; (case hd => rfl); (case hg => rfl); (case hr => first | (go_simp; done) | (go_simp; rfl)); intro gb127 hg w6 hbox hb; have n0_ := Aside0.mk (IsS54.below (by repeat (first | (with_reducible first | exact HI0.out | apply IsS54.alloc | apply IsS54.drewN | apply IsS54.drew | apply IsS54.set_1 | refine IsS54.far ?_ NB0_124.out _) | exact HI0.out)) hb); have n1_ := Aside0.mk (blk_below (g := gb124) (o := .cells #[.int .i64 0, .slice none 0 0, .slice none 0 0, .slice none 0 0] 28 (0, 0)) (by (with_reducible repeat (first | refine blk_drewN ?_ _ | refine blk_drew ?_ | refine blk_alloc ?_ _)); exact BK124.out) hb); have n2_ := Aside0.mk (KeepBut.trans (by repeat (first | (with_reducible first | exact HK.out | apply KeepBut.set_ | apply keep_drewN | apply keep_drew | apply keep_alloc | refine keep_far ?_ GW124.out _) | exact HK.out)) (KeepBut.of_below hb g none) (.inl rfl)); have n3_ := Aside0.mk (below_step (by repeat (first | (with_reducible first | exact HB.out | apply below_alloc | apply pw_below_drewN | apply below_drew1 | refine below_set ?_ (IsS54.ge HI0.out) | refine below_set ?_ GE124.out) | exact HB.out)) hb); have n4_ := Aside0.mk (hbox); have n5_ := Aside0.mk ((by rw [hg]; exact (keep_size (w := w) (g := g) (row := none) (by repeat (first | (with_reducible first | exact HK.out | apply KeepBut.set_ | apply keep_drewN | apply keep_drew | apply keep_alloc | refine keep_far ?_ GW124.out _) | exact HK.out))) : w.heap.size ≤ gb127)); have n6_ := Aside0.mk ((Nat.le_trans HW0.out (by rw [hg]; exact (keep_size (w := w) (g := g) (row := none) (by repeat (first | (with_reducible first | exact HK.out | apply KeepBut.set_ | apply keep_drewN | apply keep_drew | apply keep_alloc | refine keep_far ?_ GW124.out _) | exact HK.out))) : w.heap.size ≤ gb127) : w0.heap.size ≤ gb127)); have n7_ := Aside0.mk ((by rw [hg]; exact Nat.ne_of_lt (blk_lt (g := gb124) (o := .cells #[.int .i64 0, .slice none 0 0, .slice none 0 0, .slice none 0 0] 28 (0, 0)) (by (with_reducible repeat (first | refine blk_drewN ?_ _ | refine blk_drew ?_ | refine blk_alloc ?_ _)); exact BK124.out)) : gb124 ≠ gb127)); have n8_ := Aside0.mk ((by rw [hg]; exact Nat.ne_of_gt (blk_lt (g := gb124) (o := .cells #[.int .i64 0, .slice none 0 0, .slice none 0 0, .slice none 0 0] 28 (0, 0)) (by (with_reducible repeat (first | refine blk_drewN ?_ _ | refine blk_drew ?_ | refine blk_alloc ?_ _)); exact BK124.out)) : gb127 ≠ gb124)); have n9_ := Aside0.mk ((by rw [hg]; exact Nat.ne_of_lt (IsS54.lt (show IsS54 w0 _ g s0_0 t126 from by repeat (first | (with_reducible first | exact HI0.out | apply IsS54.alloc | apply IsS54.drewN | apply IsS54.drew | apply IsS54.set_1 | refine IsS54.far ?_ NB0_124.out _) | exact HI0.out))) : g ≠ gb127)); have n10_ := Aside0.mk ((by rw [hg]; exact Nat.ne_of_gt (IsS54.lt (show IsS54 w0 _ g s0_0 t126 from by repeat (first | (with_reducible first | exact HI0.out | apply IsS54.alloc | apply IsS54.drewN | apply IsS54.drew | apply IsS54.set_1 | refine IsS54.far ?_ NB0_124.out _) | exact HI0.out))) : gb127 ≠ g)); clear HI0; clear BK124; clear HK; clear HB; have HI0 := n0_; have BK124 := n1_; have HK := n2_; have HB := n3_; have BK127 := n4_; have GW127 := n5_; have GE127 := n6_; have NB124_127 := n7_; have NB127_124 := n8_; have NB0_127 := n9_; have NB127_0 := n10_; clear n0_ n1_ n2_ n3_ n4_ n5_ n6_ n7_ n8_ n9_ n10_; clear hb hbox hg; have hnb7 := NB127_124.out; have hnc7 := NB124_127.out; have hnb8 := NB127_0.out; have hnc8 := NB0_127.out; have hcz9_0 : w6.cell? ⟨gb127, 0, none⟩ = some (.int .i64 0) := (blk_cell BK127.out 0).trans rfl; have hcz9_1 : w6.cell? ⟨gb127, 1, none⟩ = some (.slice none 0 0) := (blk_cell BK127.out 1).trans rfl; have hcz9_2 : w6.cell? ⟨gb127, 2, none⟩ = some (.slice none 0 0) := (blk_cell BK127.out 2).trans rfl; have hcz9_3 : w6.cell? ⟨gb127, 3, none⟩ = some (.slice none 0 0) := (blk_cell BK127.out 3).trans rfl; have hfz9_0 := blk_frozen BK127.out 0; have hfz9_1 := blk_frozen BK127.out 1; have hfz9_2 := blk_frozen BK127.out 2; have hfz9_3 := blk_frozen BK127.out 3) | ((with_reducible refine gate_callee (f := 28) rfl ?_); refine goesL_ (some 14) rfl rfl Tryd.func28 (by kernel_rfl) rfl #[.pointer (some ⟨g, 0, none⟩)] rfl (by (try simp only [List.map_toArray, List.map_cons, List.map_nil]); first | done | rfl | (simp only [List.length_drop, List.length_take]; rfl)) ?_; (with_reducible refine (script_reader_next.calls g s0_0 t126 t128 t129 w0 _ ?side1 ?side2 A3.out).mono ?_); (case side1 => repeat (first | (with_reducible first | exact HI0.out | apply IsS54.alloc | apply IsS54.drewN | apply IsS54.drew | apply IsS54.set_1 | refine IsS54.far ?_ NB0_124.out _ | refine IsS54.far ?_ NB0_127.out _) | exact HI0.out)); (case side2 => repeat (first | (with_reducible first | exact HB.out | apply below_alloc | apply pw_below_drewN | apply below_drew1 | refine below_set ?_ (IsS54.ge HI0.out) | refine below_set ?_ GE124.out | refine below_set ?_ GE127.out) | exact HB.out)); rintro e w10 ⟨rfl, hi, hb, hk⟩; refine ⟨_, rfl, ?_⟩; have n0_ := Aside0.mk (KeepBut.blk hk (g' := gb124) (o := .cells #[.int .i64 0, .slice none 0 0, .slice none 0 0, .slice none 0 0] 28 (0, 0)) (by (with_reducible repeat (first | refine blk_drewN ?_ _ | refine blk_drew ?_ | refine blk_alloc ?_ _)); refine blk_far ?_ NB124_127.out _; (with_reducible repeat (first | refine blk_drewN ?_ _ | refine blk_drew ?_ | refine blk_alloc ?_ _)); refine blk_far ?_ NB124_127.out _; (with_reducible repeat (first | refine blk_drewN ?_ _ | refine blk_drew ?_ | refine blk_alloc ?_ _)); refine blk_far ?_ NB124_127.out _; (with_reducible repeat (first | refine blk_drewN ?_ _ | refine blk_drew ?_ | refine blk_alloc ?_ _)); refine blk_far ?_ NB124_127.out _; (with_reducible repeat (first | refine blk_drewN ?_ _ | refine blk_drew ?_ | refine blk_alloc ?_ _)); exact BK124.out) NB124_0.out (by simp)); have n1_ := Aside0.mk (KeepBut.blk hk (g' := gb127) (o := .cells #[.int .i64 (wrap64 (1 + (Int.tmod t125 5))), .slice none 0 0, .slice none 0 0, .slice none 0 0] 28 (0, 0)) (by (with_reducible repeat (first | refine blk_drewN ?_ _ | refine blk_drew ?_ | refine blk_alloc ?_ _)); refine blk_put (cs := #[.int .i64 (wrap64 (1 + (Int.tmod t125 5))), .slice none 0 0, .slice none 0 0, .slice none 0 0]) ?_ 3 _ rfl; (with_reducible repeat (first | refine blk_drewN ?_ _ | refine blk_drew ?_ | refine blk_alloc ?_ _)); refine blk_put (cs := #[.int .i64 (wrap64 (1 + (Int.tmod t125 5))), .slice none 0 0, .slice none 0 0, .slice none 0 0]) ?_ 2 _ rfl; (with_reducible repeat (first | refine blk_drewN ?_ _ | refine blk_drew ?_ | refine blk_alloc ?_ _)); refine blk_put (cs := #[.int .i64 (wrap64 (1 + (Int.tmod t125 5))), .slice none 0 0, .slice none 0 0, .slice none 0 0]) ?_ 1 _ rfl; (with_reducible repeat (first | refine blk_drewN ?_ _ | refine blk_drew ?_ | refine blk_alloc ?_ _)); refine blk_put (cs := #[.int .i64 0, .slice none 0 0, .slice none 0 0, .slice none 0 0]) ?_ 0 _ rfl; (with_reducible repeat (first | refine blk_drewN ?_ _ | refine blk_drew ?_ | refine blk_alloc ?_ _)); exact BK127.out) NB127_0.out (by simp)); have n2_ := Aside0.mk (KeepBut.trans (by repeat (first | (with_reducible first | exact HK.out | apply KeepBut.set_ | apply keep_drewN | apply keep_drew | apply keep_alloc | refine keep_far ?_ GW124.out _ | refine keep_far ?_ GW127.out _) | exact HK.out)) hk (.inl rfl)); have n3_ := Aside0.mk (hb); have n4_ := Aside0.mk (hi); clear BK124; clear BK127; clear HK; clear HB; clear HI0; have BK124 := n0_; have BK127 := n1_; have HK := n2_; have HB := n3_; have HI0 := n4_; clear n0_ n1_ n2_ n3_ n4_; (try clear hb); (try clear hb2); (try clear hk); (try clear hi)) | (go_at_call 28; (with_reducible refine (script_reader_next.calls g s0_0 s0_1 t125 t126 w0 _ ?side1 ?side2 A2.out).mono ?_); (case side1 => repeat (first | (with_reducible first | exact HI0.out | apply IsS54.alloc | apply IsS54.drewN | apply IsS54.drew | apply IsS54.set_1 | refine IsS54.far ?_ NB0_124.out _) | exact HI0.out)); (case side2 => repeat (first | (with_reducible first | exact HB.out | apply below_alloc | apply pw_below_drewN | apply below_drew1 | refine below_set ?_ (IsS54.ge HI0.out) | refine below_set ?_ GE124.out) | exact HB.out)); rintro e w5 ⟨rfl, hi, hb, hk⟩; have n0_ := Aside0.mk (KeepBut.blk hk (g' := gb124) (o := .cells #[.int .i64 0, .slice none 0 0, .slice none 0 0, .slice none 0 0] 28 (0, 0)) (by (with_reducible repeat (first | refine blk_drewN ?_ _ | refine blk_drew ?_ | refine blk_alloc ?_ _)); exact BK124.out) NB124_0.out (by simp)); have n1_ := Aside0.mk (KeepBut.trans (by repeat (first | (with_reducible first | exact HK.out | apply KeepBut.set_ | apply keep_drewN | apply keep_drew | apply keep_alloc | refine keep_far ?_ GW124.out _) | exact HK.out)) hk (.inl rfl)); have n2_ := Aside0.mk (hb); have n3_ := Aside0.mk (hi); clear BK124; clear HK; clear HB; clear HI0; have BK124 := n0_; have HK := n1_; have HB := n2_; have HI0 := n3_; clear n0_ n1_ n2_ n3_; (try clear hb); (try clear hb2); (try clear hk); (try clear hi)) | (go_at_call 28; (with_reducible refine (script_reader_next.calls g s0_0 t126 t128 t129 w0 _ ?side1 ?side2 A3.out).mono ?_); (case side1 => repeat (first | (with_reducible first | exact HI0.out | apply IsS54.alloc | apply IsS54.drewN | apply IsS54.drew | apply IsS54.set_1 | refine IsS54.far ?_ NB0_124.out _ | refine IsS54.far ?_ NB0_127.out _) | exact HI0.out)); (case side2 => repeat (first | (with_reducible first | exact HB.out | apply below_alloc | apply pw_below_drewN | apply below_drew1 | refine below_set ?_ (IsS54.ge HI0.out) | refine below_set ?_ GE124.out | refine below_set ?_ GE127.out) | exact HB.out)); rintro e w10 ⟨rfl, hi, hb, hk⟩; have n0_ := Aside0.mk (KeepBut.blk hk (g' := gb124) (o := .cells #[.int .i64 0, .slice none 0 0, .slice none 0 0, .slice none 0 0] 28 (0, 0)) (by (with_reducible repeat (first | refine blk_drewN ?_ _ | refine blk_drew ?_ | refine blk_alloc ?_ _)); refine blk_far ?_ NB124_127.out _; (with_reducible repeat (first | refine blk_drewN ?_ _ | refine blk_drew ?_ | refine blk_alloc ?_ _)); refine blk_far ?_ NB124_127.out _; (with_reducible repeat (first | refine blk_drewN ?_ _ | refine blk_drew ?_ | refine blk_alloc ?_ _)); refine blk_far ?_ NB124_127.out _; (with_reducible repeat (first | refine blk_drewN ?_ _ | refine blk_drew ?_ | refine blk_alloc ?_ _)); refine blk_far ?_ NB124_127.out _; (with_reducible repeat (first | refine blk_drewN ?_ _ | refine blk_drew ?_ | refine blk_alloc ?_ _)); exact BK124.out) NB124_0.out (by simp)); have n1_ := Aside0.mk (KeepBut.blk hk (g' := gb127) (o := .cells #[.int .i64 (wrap64 (1 + (Int.tmod t125 5))), .slice none 0 0, .slice none 0 0, .slice none 0 0] 28 (0, 0)) (by (with_reducible repeat (first | refine blk_drewN ?_ _ | refine blk_drew ?_ | refine blk_alloc ?_ _)); refine blk_put (cs := #[.int .i64 (wrap64 (1 + (Int.tmod t125 5))), .slice none 0 0, .slice none 0 0, .slice none 0 0]) ?_ 3 _ rfl; (with_reducible repeat (first | refine blk_drewN ?_ _ | refine blk_drew ?_ | refine blk_alloc ?_ _)); refine blk_put (cs := #[.int .i64 (wrap64 (1 + (Int.tmod t125 5))), .slice none 0 0, .slice none 0 0, .slice none 0 0]) ?_ 2 _ rfl; (with_reducible repeat (first | refine blk_drewN ?_ _ | refine blk_drew ?_ | refine blk_alloc ?_ _)); refine blk_put (cs := #[.int .i64 (wrap64 (1 + (Int.tmod t125 5))), .slice none 0 0, .slice none 0 0, .slice none 0 0]) ?_ 1 _ rfl; (with_reducible repeat (first | refine blk_drewN ?_ _ | refine blk_drew ?_ | refine blk_alloc ?_ _)); refine blk_put (cs := #[.int .i64 0, .slice none 0 0, .slice none 0 0, .slice none 0 0]) ?_ 0 _ rfl; (with_reducible repeat (first | refine blk_drewN ?_ _ | refine blk_drew ?_ | refine blk_alloc ?_ _)); exact BK127.out) NB127_0.out (by simp)); have n2_ := Aside0.mk (KeepBut.trans (by repeat (first | (with_reducible first | exact HK.out | apply KeepBut.set_ | apply keep_drewN | apply keep_drew | apply keep_alloc | refine keep_far ?_ GW124.out _ | refine keep_far ?_ GW127.out _) | exact HK.out)) hk (.inl rfl)); have n3_ := Aside0.mk (hb); have n4_ := Aside0.mk (hi); clear BK124; clear BK127; clear HK; clear HB; clear HI0; have BK124 := n0_; have BK127 := n1_; have HK := n2_; have HB := n3_; have HI0 := n4_; clear n0_ n1_ n2_ n3_ n4_; (try clear hb); (try clear hb2); (try clear hk); (try clear hi)))
 go_loopg [17] k (fun kq v17 w' => ∃ (x17_1 : Int) (x1001_1 : Int) (x128001_1 : List (S51)) (x128002_1 : List (List Int)) (u128001 : Value) (u128002 : Value), v17 = .int .i64 x17_1 ∧ Aside0 (script_reader_topo.l0 kq (wrap64 (1 + (Int.tmod t128 4))) x17_1 s0_0 x1001_1 (wrap64 (1 + (Int.tmod t125 5))) x128001_1 x128002_1 = some (r1, r2, r3, r4, r5)) ∧ Aside0 (kq ≤ k) ∧ Aside0 (Kd.N k51 51 w' w.heap.size (fun k_ => (w.heap.size ≤ k_) ∧ some k_ ≠ (u128002 : Value).ownBlock ∧ k_ ≠ gb124 ∧ k_ ≠ gb127 ∧ k_ ≠ g) u128001 x128001_1) ∧ Aside0 (Kd.N (Kd.slice 3 (Kd.int .i64)) 64 w' w.heap.size (fun k_ => (w.heap.size ≤ k_) ∧ some k_ ≠ (u128001 : Value).ownBlock ∧ k_ ≠ gb124 ∧ k_ ≠ gb127 ∧ k_ ≠ g) u128002 x128002_1) ∧ Aside0 (w'.heap[gb124]? = some (.cells #[.int .i64 0, (.slice none 0 0), (.slice none 0 0), (.slice none 0 0)] 28 (0, 0))) ∧ Aside0 (w'.heap[gb127]? = some (.cells #[.int .i64 (wrap64 (1 + (Int.tmod t125 5))), u128001, u128002, (.slice none 0 0)] 28 (0, 0))) ∧ Aside0 (IsS54 w0 w' g s0_0 x1001_1) ∧ Aside0 (KeepBut w w' g none) ∧ Aside0 (Below w0.heap.size w0 w'))
 case atStart => exact ⟨(0), (t129), (([] : List (S51))), (([] : List (List Int))), (.slice none 0 0), (.slice none 0 0), (by first | rfl | (simp; done) | (simp [*]; done)), H', ⟨Nat.le_refl _⟩, ⟨by first | exact Kd.S_nil _ _ _ _ _ | exact Kd.N_nil _ _ _ _ _ | exact Kd.V_nil _ _ _ _ _ | exact Kd.Q_nil _ _ _ _ _ | exact Kd.R_nil _ _ _ _ _⟩, ⟨by first | exact Kd.S_nil _ _ _ _ _ | exact Kd.N_nil _ _ _ _ _ | exact Kd.V_nil _ _ _ _ _ | exact Kd.Q_nil _ _ _ _ _ | exact Kd.R_nil _ _ _ _ _⟩, ⟨by (with_reducible repeat (first | refine blk_drewN ?_ _ | refine blk_drew ?_ | refine blk_alloc ?_ _)); exact BK124.out⟩, ⟨by (with_reducible repeat (first | refine blk_drewN ?_ _ | refine blk_drew ?_ | refine blk_alloc ?_ _)); exact BK127.out⟩, ⟨by repeat (first | (with_reducible first | exact HI0.out | apply IsS54.alloc | apply IsS54.drewN | apply IsS54.drew | apply IsS54.set_1 | refine IsS54.far ?_ NB0_124.out _ | refine IsS54.far ?_ NB0_127.out _) | exact HI0.out)⟩, ⟨by repeat (first | (with_reducible first | exact HK.out | apply KeepBut.set_ | apply keep_drewN | apply keep_drew | apply keep_alloc | refine keep_far ?_ GW124.out _ | refine keep_far ?_ GW127.out _) | exact HK.out)⟩, ⟨by repeat (first | (with_reducible first | exact HB.out | apply below_alloc | apply pw_below_drewN | apply below_drew1 | refine below_set ?_ (IsS54.ge HI0.out) | refine below_set ?_ GE124.out | refine below_set ?_ GE127.out) | exact HB.out)⟩⟩
 clear H'
 try clear c1
 try clear c2
 try clear p2
 try clear p6
 try clear c7
 try clear c8
 try clear hcz9_0
 try clear hcz9_1
 try clear hcz9_2
 try clear hcz9_3
 try clear hfz9_0
 try clear hfz9_1
 try clear hfz9_2
 try clear hfz9_3
 obtain ⟨x17_1, x1001_1, x128001_1, x128002_1, u128001, u128002, rfl, HA, HK1, HO_128001, HO_128002, BK124, BK127, HI0, HK, HB⟩ := hrel
 cases gk with
 | zero => exact absurd HA.out (by simp [script_reader_topo.l0])
 | succ k1 => ?_
 have H := HA.out
 clear HA
 simp only [script_reader_topo.l0] at H
 by_cases c11 : x17_1 < (wrap64 (1 + (Int.tmod t128 4)))
 rotate_left
 ·rw [if_neg c11] at H
  have c11b0 : decide (x17_1 < (wrap64 (1 + (Int.tmod t128 4)))) = false := decide_eq_false c11
  clear c11
  replace H := Option.bind_eq_some_iff.mp H
  obtain ⟨⟨t162, t163⟩, A490, H⟩ := H
  replace H : (script_reader_topo.l2 k1 (Int.tmod t162 4) 0 s0_0 t163 (wrap64 (1 + (Int.tmod t125 5))) x128001_1 x128002_1 ([] : List (S66))) = some (r1, r2, r3, r4, r5) := H
  have A49 := Aside0.mk A490
  clear A490
  have H' := Aside0.mk H
  clear H
  go_wp2_with (first | ((with_reducible refine gate_callee (f := 28) rfl ?_); refine goesL_ (some 51) rfl rfl Tryd.func28 (by kernel_rfl) rfl #[.pointer (some ⟨g, 0, none⟩)] rfl (by (try simp only [List.map_toArray, List.map_cons, List.map_nil]); first | done | rfl | (simp only [List.length_drop, List.length_take]; rfl)) ?_; (with_reducible refine (script_reader_next.calls g s0_0 x1001_1 t162 t163 w0 _ ?side1 ?side2 A49.out).mono ?_); (case side1 => repeat (first | (with_reducible first | exact HI0.out | apply IsS54.alloc | apply IsS54.drewN | apply IsS54.drew | apply IsS54.set_1 | refine IsS54.far ?_ NB0_124.out _ | refine IsS54.far ?_ NB0_127.out _) | exact HI0.out)); (case side2 => repeat (first | (with_reducible first | exact HB.out | apply below_alloc | apply pw_below_drewN | apply below_drew1 | refine below_set ?_ (IsS54.ge HI0.out) | refine below_set ?_ GE124.out | refine below_set ?_ GE127.out) | exact HB.out)); rintro e w50 ⟨rfl, hi, hb, hk⟩; refine ⟨_, rfl, ?_⟩; have n0_ := Aside0.mk (Kd.N_mono (Kd.N_keep (Kd.N_mono (ok := fun k_ => (((w.heap.size ≤ k_)) ∧ (some k_ ≠ (u128002 : Value).ownBlock ∧ (k_ ≠ gb124 ∧ (k_ ≠ gb127 ∧ k_ ≠ g))))) (by (with_reducible repeat (first | apply Kd.N_alloc | apply Kd.N_drewN | apply Kd.N_drew)); exact HO_128001.out) (fun k_ hk_ => (⟨hk_, hk_.2.2.2.2⟩ : _ ∧ k_ ≠ g))) hk (fun _ h => h.2)) (fun _ h => h.1)); have n1_ := Aside0.mk (Kd.N_mono (Kd.N_keep (Kd.N_mono (ok := fun k_ => (((w.heap.size ≤ k_)) ∧ (some k_ ≠ (u128001 : Value).ownBlock ∧ (k_ ≠ gb124 ∧ (k_ ≠ gb127 ∧ k_ ≠ g))))) (by (with_reducible repeat (first | apply Kd.N_alloc | apply Kd.N_drewN | apply Kd.N_drew)); exact HO_128002.out) (fun k_ hk_ => (⟨hk_, hk_.2.2.2.2⟩ : _ ∧ k_ ≠ g))) hk (fun _ h => h.2)) (fun _ h => h.1)); have n2_ := Aside0.mk (KeepBut.blk hk (g' := gb124) (o := .cells #[.int .i64 0, .slice none 0 0, .slice none 0 0, .slice none 0 0] 28 (0, 0)) (by (with_reducible repeat (first | refine blk_drewN ?_ _ | refine blk_drew ?_ | refine blk_alloc ?_ _)); exact BK124.out) NB124_0.out (by simp)); have n3_ := Aside0.mk (KeepBut.blk hk (g' := gb127) (o := .cells #[.int .i64 (wrap64 (1 + (Int.tmod t125 5))), u128001, u128002, .slice none 0 0] 28 (0, 0)) (by (with_reducible repeat (first | refine blk_drewN ?_ _ | refine blk_drew ?_ | refine blk_alloc ?_ _)); exact BK127.out) NB127_0.out (by simp)); have n4_ := Aside0.mk (KeepBut.trans (by repeat (first | (with_reducible first | exact HK.out | apply KeepBut.set_ | apply keep_drewN | apply keep_drew | apply keep_alloc | refine keep_far ?_ GW124.out _ | refine keep_far ?_ GW127.out _) | exact HK.out)) hk (.inl rfl)); have n5_ := Aside0.mk (hb); have n6_ := Aside0.mk (hi); clear HO_128001; clear HO_128002; clear BK124; clear BK127; clear HK; clear HB; clear HI0; have HO_128001 := n0_; have HO_128002 := n1_; have BK124 := n2_; have BK127 := n3_; have HK := n4_; have HB := n5_; have HI0 := n6_; clear n0_ n1_ n2_ n3_ n4_ n5_ n6_; (try clear hb); (try clear hb2); (try clear hk); (try clear hi)) | (go_at_call 28; (with_reducible refine (script_reader_next.calls g s0_0 x1001_1 t162 t163 w0 _ ?side1 ?side2 A49.out).mono ?_); (case side1 => repeat (first | (with_reducible first | exact HI0.out | apply IsS54.alloc | apply IsS54.drewN | apply IsS54.drew | apply IsS54.set_1 | refine IsS54.far ?_ NB0_124.out _ | refine IsS54.far ?_ NB0_127.out _) | exact HI0.out)); (case side2 => repeat (first | (with_reducible first | exact HB.out | apply below_alloc | apply pw_below_drewN | apply below_drew1 | refine below_set ?_ (IsS54.ge HI0.out) | refine below_set ?_ GE124.out | refine below_set ?_ GE127.out) | exact HB.out)); rintro e w50 ⟨rfl, hi, hb, hk⟩; have n0_ := Aside0.mk (Kd.N_mono (Kd.N_keep (Kd.N_mono (ok := fun k_ => (((w.heap.size ≤ k_)) ∧ (some k_ ≠ (u128002 : Value).ownBlock ∧ (k_ ≠ gb124 ∧ (k_ ≠ gb127 ∧ k_ ≠ g))))) (by (with_reducible repeat (first | apply Kd.N_alloc | apply Kd.N_drewN | apply Kd.N_drew)); exact HO_128001.out) (fun k_ hk_ => (⟨hk_, hk_.2.2.2.2⟩ : _ ∧ k_ ≠ g))) hk (fun _ h => h.2)) (fun _ h => h.1)); have n1_ := Aside0.mk (Kd.N_mono (Kd.N_keep (Kd.N_mono (ok := fun k_ => (((w.heap.size ≤ k_)) ∧ (some k_ ≠ (u128001 : Value).ownBlock ∧ (k_ ≠ gb124 ∧ (k_ ≠ gb127 ∧ k_ ≠ g))))) (by (with_reducible repeat (first | apply Kd.N_alloc | apply Kd.N_drewN | apply Kd.N_drew)); exact HO_128002.out) (fun k_ hk_ => (⟨hk_, hk_.2.2.2.2⟩ : _ ∧ k_ ≠ g))) hk (fun _ h => h.2)) (fun _ h => h.1)); have n2_ := Aside0.mk (KeepBut.blk hk (g' := gb124) (o := .cells #[.int .i64 0, .slice none 0 0, .slice none 0 0, .slice none 0 0] 28 (0, 0)) (by (with_reducible repeat (first | refine blk_drewN ?_ _ | refine blk_drew ?_ | refine blk_alloc ?_ _)); exact BK124.out) NB124_0.out (by simp)); have n3_ := Aside0.mk (KeepBut.blk hk (g' := gb127) (o := .cells #[.int .i64 (wrap64 (1 + (Int.tmod t125 5))), u128001, u128002, .slice none 0 0] 28 (0, 0)) (by (with_reducible repeat (first | refine blk_drewN ?_ _ | refine blk_drew ?_ | refine blk_alloc ?_ _)); exact BK127.out) NB127_0.out (by simp)); have n4_ := Aside0.mk (KeepBut.trans (by repeat (first | (with_reducible first | exact HK.out | apply KeepBut.set_ | apply keep_drewN | apply keep_drew | apply keep_alloc | refine keep_far ?_ GW124.out _ | refine keep_far ?_ GW127.out _) | exact HK.out)) hk (.inl rfl)); have n5_ := Aside0.mk (hb); have n6_ := Aside0.mk (hi); clear HO_128001; clear HO_128002; clear BK124; clear BK127; clear HK; clear HB; clear HI0; have HO_128001 := n0_; have HO_128002 := n1_; have BK124 := n2_; have BK127 := n3_; have HK := n4_; have HB := n5_; have HI0 := n6_; clear n0_ n1_ n2_ n3_ n4_ n5_ n6_; (try clear hb); (try clear hb2); (try clear hk); (try clear hi)))
  go_loopg [53] k1 (fun kq v53 w' => ∃ (x53_2 : Int) (x1001_2 : Int) (x128003_2 : List (S66)) (u128003 : Value), v53 = .int .i64 x53_2 ∧ Aside0 (script_reader_topo.l2 kq (Int.tmod t162 4) x53_2 s0_0 x1001_2 (wrap64 (1 + (Int.tmod t125 5))) x128001_1 x128002_1 x128003_2 = some (r1, r2, r3, r4, r5)) ∧ Aside0 (kq ≤ k1) ∧ Aside0 (Kd.N k51 51 w' w.heap.size (fun k_ => (w.heap.size ≤ k_) ∧ some k_ ≠ (u128002 : Value).ownBlock ∧ some k_ ≠ (u128003 : Value).ownBlock ∧ k_ ≠ gb124 ∧ k_ ≠ gb127 ∧ k_ ≠ g) u128001 x128001_1) ∧ Aside0 (Kd.N (Kd.slice 3 (Kd.int .i64)) 64 w' w.heap.size (fun k_ => (w.heap.size ≤ k_) ∧ some k_ ≠ (u128001 : Value).ownBlock ∧ some k_ ≠ (u128003 : Value).ownBlock ∧ k_ ≠ gb124 ∧ k_ ≠ gb127 ∧ k_ ≠ g) u128002 x128002_1) ∧ Aside0 (Kd.R k66 66 w' w.heap.size (fun k_ => (w.heap.size ≤ k_)) u128003 x128003_2) ∧ Aside0 (w'.heap[gb124]? = some (.cells #[.int .i64 0, (.slice none 0 0), (.slice none 0 0), (.slice none 0 0)] 28 (0, 0))) ∧ Aside0 (w'.heap[gb127]? = some (.cells #[.int .i64 (wrap64 (1 + (Int.tmod t125 5))), u128001, u128002, u128003] 28 (0, 0))) ∧ Aside0 (IsS54 w0 w' g s0_0 x1001_2) ∧ Aside0 (KeepBut w w' g none) ∧ Aside0 (Below w0.heap.size w0 w'))
  case atStart => exact ⟨(0), (t163), (([] : List (S66))), (.slice none 0 0), (by first | rfl | (simp; done) | (simp [*]; done)), H', ⟨Nat.le_refl _⟩, ⟨by (with_reducible repeat (first | apply Kd.N_alloc | apply Kd.N_drewN | apply Kd.N_drew)); exact Kd.N_mono HO_128001.out (fun _ hk => ⟨hk.1, ⟨hk.2.1, ⟨(by simp [Value.ownBlock]), ⟨hk.2.2.1, ⟨hk.2.2.2.1, hk.2.2.2.2⟩⟩⟩⟩⟩)⟩, ⟨by (with_reducible repeat (first | apply Kd.N_alloc | apply Kd.N_drewN | apply Kd.N_drew)); exact Kd.N_mono HO_128002.out (fun _ hk => ⟨hk.1, ⟨hk.2.1, ⟨(by simp [Value.ownBlock]), ⟨hk.2.2.1, ⟨hk.2.2.2.1, hk.2.2.2.2⟩⟩⟩⟩⟩)⟩, ⟨by first | exact Kd.R_nil _ _ _ _ _ | exact Kd.N_nil _ _ _ _ _ | exact Kd.V_nil _ _ _ _ _ | exact Kd.Q_nil _ _ _ _ _ | exact Kd.S_nil _ _ _ _ _⟩, ⟨by (with_reducible repeat (first | refine blk_drewN ?_ _ | refine blk_drew ?_ | refine blk_alloc ?_ _)); exact BK124.out⟩, ⟨by (with_reducible repeat (first | refine blk_drewN ?_ _ | refine blk_drew ?_ | refine blk_alloc ?_ _)); exact BK127.out⟩, ⟨by repeat (first | (with_reducible first | exact HI0.out | apply IsS54.alloc | apply IsS54.drewN | apply IsS54.drew | apply IsS54.set_1 | refine IsS54.far ?_ NB0_124.out _ | refine IsS54.far ?_ NB0_127.out _) | exact HI0.out)⟩, ⟨by repeat (first | (with_reducible first | exact HK.out | apply KeepBut.set_ | apply keep_drewN | apply keep_drew | apply keep_alloc | refine keep_far ?_ GW124.out _ | refine keep_far ?_ GW127.out _) | exact HK.out)⟩, ⟨by repeat (first | (with_reducible first | exact HB.out | apply below_alloc | apply pw_below_drewN | apply below_drew1 | refine below_set ?_ (IsS54.ge HI0.out) | refine below_set ?_ GE124.out | refine below_set ?_ GE127.out) | exact HB.out)⟩⟩
  clear H'
  try clear c1
  try clear c2
  try clear p2
  try clear c3
  try clear p6
  try clear c8
  try clear c11
  try clear c11b0
  try clear c28
  try clear c30
  try clear c31
  obtain ⟨x53_2, x1001_2, x128003_2, u128003, rfl, HA, HK2, HO_128001, HO_128002, HO_128003, BK124, BK127, HI0, HK, HB⟩ := hrel
  cases gk with
  | zero => exact absurd HA.out (by simp [script_reader_topo.l2])
  | succ k2 => ?_
  have H := HA.out
  clear HA
  simp only [script_reader_topo.l2] at H
  by_cases c51 : x53_2 < (Int.tmod t162 4)
  rotate_left
  ·rw [if_neg c51] at H
   have c51b0 : decide (x53_2 < (Int.tmod t162 4)) = false := decide_eq_false c51
   clear c51
   simp only [Option.some.injEq, Prod.mk.injEq] at H
   obtain ⟨rfl, rfl, rfl, rfl, rfl⟩ := H
   have hnb64 := NB127_124.out
   have hnc64 := NB124_127.out
   have hnb65 := NB127_0.out
   have hnc65 := NB0_127.out
   have hcz66_0 : wr.cell? ⟨gb127, 0, none⟩ = some (.int .i64 (wrap64 (1 + (Int.tmod t125 5)))) := (blk_cell BK127.out 0).trans rfl
   have hcz66_1 : wr.cell? ⟨gb127, 1, none⟩ = some (u128001) := (blk_cell BK127.out 1).trans rfl
   have hcz66_2 : wr.cell? ⟨gb127, 2, none⟩ = some (u128002) := (blk_cell BK127.out 2).trans rfl
   have hcz66_3 : wr.cell? ⟨gb127, 3, none⟩ = some (u128003) := (blk_cell BK127.out 3).trans rfl
   have hfz66_0 := blk_frozen BK127.out 0
   have hfz66_1 := blk_frozen BK127.out 1
   have hfz66_2 := blk_frozen BK127.out 2
   have hfz66_3 := blk_frozen BK127.out 3
   have hnb67 := NB124_0.out
   have hnc67 := NB0_124.out
   have hcz68_0 : wr.cell? ⟨gb124, 0, none⟩ = some (.int .i64 0) := (blk_cell BK124.out 0).trans rfl
   have hcz68_1 : wr.cell? ⟨gb124, 1, none⟩ = some (.slice none 0 0) := (blk_cell BK124.out 1).trans rfl
   have hcz68_2 : wr.cell? ⟨gb124, 2, none⟩ = some (.slice none 0 0) := (blk_cell BK124.out 2).trans rfl
   have hcz68_3 : wr.cell? ⟨gb124, 3, none⟩ = some (.slice none 0 0) := (blk_cell BK124.out 3).trans rfl
   have hfz68_0 := blk_frozen BK124.out 0
   have hfz68_1 := blk_frozen BK124.out 1
   have hfz68_2 := blk_frozen BK124.out 2
   have hfz68_3 := blk_frozen BK124.out 3
   obtain ⟨Ao69, co69, eo69⟩ := Kd.N_slice HO_128001.out
   subst eo69
   obtain ⟨Ao70, co70, eo70⟩ := Kd.N_slice HO_128002.out
   subst eo70
   obtain ⟨Ao71, co71, eo71⟩ := Kd.R_slice HO_128003.out
   subst eo71
   go_wp2
   refine bodyPost_ret (results_cell_row rfl _ _ gb124 28 #[.int .i64 (wrap64 (1 + (Int.tmod t125 5))), .slice Ao69 x128001_1.length co69, .slice Ao70 x128002_1.length co70, .slice Ao71 x128003_2.length co71] (0, 0) _ rfl (by (with_reducible repeat (first | refine blk_drewN ?_ _ | refine blk_drew ?_ | refine blk_alloc ?_ _)); refine blk_put (cs := #[.int .i64 (wrap64 (1 + (Int.tmod t125 5))), .slice Ao69 x128001_1.length co69, .slice Ao70 x128002_1.length co70, .slice none 0 0]) ?_ 3 _ rfl; (with_reducible repeat (first | refine blk_drewN ?_ _ | refine blk_drew ?_ | refine blk_alloc ?_ _)); refine blk_put (cs := #[.int .i64 (wrap64 (1 + (Int.tmod t125 5))), .slice Ao69 x128001_1.length co69, .slice none 0 0, .slice none 0 0]) ?_ 2 _ rfl; (with_reducible repeat (first | refine blk_drewN ?_ _ | refine blk_drew ?_ | refine blk_alloc ?_ _)); refine blk_put (cs := #[.int .i64 (wrap64 (1 + (Int.tmod t125 5))), .slice none 0 0, .slice none 0 0, .slice none 0 0]) ?_ 1 _ rfl; (with_reducible repeat (first | refine blk_drewN ?_ _ | refine blk_drew ?_ | refine blk_alloc ?_ _)); refine blk_put (cs := #[.int .i64 0, .slice none 0 0, .slice none 0 0, .slice none 0 0]) ?_ 0 _ rfl; (with_reducible repeat (first | refine blk_drewN ?_ _ | refine blk_drew ?_ | refine blk_alloc ?_ _)); exact BK124.out) Tryd.underlying28 rfl (by kernel_rfl)) rfl ?_
   exact ⟨_, _, _, by first | rfl | (simp [errW_none, errW_some] <;> rfl) | (simp [*, errW_none, errW_some] <;> rfl), by (with_reducible repeat (first | apply Kd.N_alloc | apply Kd.N_drewN | apply Kd.N_drew)); exact Kd.N_mono (Kd.N_far (p := ⟨gb124, 3, none⟩) (Kd.N_far (p := ⟨gb124, 2, none⟩) (Kd.N_far (p := ⟨gb124, 1, none⟩) (Kd.N_far (p := ⟨gb124, 0, none⟩) (Kd.N_mono HO_128001.out (fun k_ hk => (⟨hk, hk.2.2.2.1⟩ : _ ∧ k_ ≠ gb124))) (fun _ hk => hk.2) (.int .i64 (wrap64 (1 + (Int.tmod t125 5))))) (fun _ hk => hk.2) (.slice Ao69 x128001_1.length co69)) (fun _ hk => hk.2) (.slice Ao70 x128002_1.length co70)) (fun _ hk => hk.2) (.slice Ao71 x128003_2.length co71)) (fun _ hk => ⟨hk.1.1, ⟨hk.1.2.1, hk.1.2.2.1⟩⟩), by (with_reducible repeat (first | apply Kd.N_alloc | apply Kd.N_drewN | apply Kd.N_drew)); exact Kd.N_mono (Kd.N_far (p := ⟨gb124, 3, none⟩) (Kd.N_far (p := ⟨gb124, 2, none⟩) (Kd.N_far (p := ⟨gb124, 1, none⟩) (Kd.N_far (p := ⟨gb124, 0, none⟩) (Kd.N_mono HO_128002.out (fun k_ hk => (⟨hk, hk.2.2.2.1⟩ : _ ∧ k_ ≠ gb124))) (fun _ hk => hk.2) (.int .i64 (wrap64 (1 + (Int.tmod t125 5))))) (fun _ hk => hk.2) (.slice Ao69 x128001_1.length co69)) (fun _ hk => hk.2) (.slice Ao70 x128002_1.length co70)) (fun _ hk => hk.2) (.slice Ao71 x128003_2.length co71)) (fun _ hk => ⟨hk.1.1, ⟨hk.1.2.1, hk.1.2.2.1⟩⟩), by (with_reducible repeat (first | apply Kd.R_alloc | apply Kd.R_drewN | apply Kd.R_drew)); exact Kd.R_mono (Kd.R_far (p := ⟨gb124, 3, none⟩) (Kd.R_far (p := ⟨gb124, 2, none⟩) (Kd.R_far (p := ⟨gb124, 1, none⟩) (Kd.R_far (p := ⟨gb124, 0, none⟩) (Kd.R_types HO_128003.out BK124.out (by decide)) (fun _ hk => hk.2) (.int .i64 (wrap64 (1 + (Int.tmod t125 5))))) (fun _ hk => hk.2) (.slice Ao69 x128001_1.length co69)) (fun _ hk => hk.2) (.slice Ao70 x128002_1.length co70)) (fun _ hk => hk.2) (.slice Ao71 x128003_2.length co71)) (fun _ hk => hk.1), by repeat (first | (with_reducible first | exact HI0.out | apply IsS54.alloc | apply IsS54.drewN | apply IsS54.drew | apply IsS54.set_1 | refine IsS54.far ?_ NB0_124.out _ | refine IsS54.far ?_ NB0_127.out _) | exact HI0.out), by repeat (first | (with_reducible first | exact HB.out | apply below_alloc | apply pw_below_drewN | apply below_drew1 | refine below_set ?_ (IsS54.ge HI0.out) | refine below_set ?_ GE124.out | refine below_set ?_ GE127.out) | exact HB.out), by repeat (first | (with_reducible first | exact HK.out | apply KeepBut.set_ | apply keep_drewN | apply keep_drew | apply keep_alloc | refine keep_far ?_ GW124.out _ | refine keep_far ?_ GW127.out _) | exact HK.out)⟩
  rw [if_pos c51] at H
  have c51b0 : decide (x53_2 < (Int.tmod t162 4)) = true := decide_eq_true c51
  clear c51
  replace H := Option.bind_eq_some_iff.mp H
  obtain ⟨t164, A520, H⟩ := H
  replace H : ((script_reader_next.f s0_0 x1001_2).bind fun bt165 => (if (wrap64 (1 + (Int.tmod t125 5))) = 0 then (none) else ((some (([(⟨t164, Int.tmod bt165.1 (wrap64 (1 + (Int.tmod t125 5)))⟩ : S66)] : List (S66)) : List (S66))).bind fun y167 => (if x128003_2.length + y167.length < 8796093022208 then (script_reader_topo.l2 k2 (Int.tmod t162 4) (wrap64 (x53_2 + 1)) s0_0 bt165.2 (wrap64 (1 + (Int.tmod t125 5))) x128001_1 x128002_1 (x128003_2 ++ y167)) else (none))))) = some (r1, r2, r3, r4, r5) := H
  have A52 := Aside0.mk A520
  clear A520
  replace H := Option.bind_eq_some_iff.mp H
  obtain ⟨⟨t165, t166⟩, A530, H⟩ := H
  replace H : (if (wrap64 (1 + (Int.tmod t125 5))) = 0 then (none) else ((some (([(⟨t164, Int.tmod t165 (wrap64 (1 + (Int.tmod t125 5)))⟩ : S66)] : List (S66)) : List (S66))).bind fun y167 => (if x128003_2.length + y167.length < 8796093022208 then (script_reader_topo.l2 k2 (Int.tmod t162 4) (wrap64 (x53_2 + 1)) s0_0 t166 (wrap64 (1 + (Int.tmod t125 5))) x128001_1 x128002_1 (x128003_2 ++ y167)) else (none)))) = some (r1, r2, r3, r4, r5) := H
  have A53 := Aside0.mk A530
  clear A530
  by_cases c54 : (wrap64 (1 + (Int.tmod t125 5))) = 0
  ·rw [if_pos c54] at H
   exact absurd H (by simp)
  rw [if_neg c54] at H
  have c54b0 : ((wrap64 (1 + (Int.tmod t125 5))) == 0) = false := beq_eq_false_iff_ne.mpr c54
  have c54b1 : ((wrap64 (1 + (Int.tmod t125 5))) != 0) = true := bne_iff_ne.mpr c54
  obtain ⟨y167, hy167⟩ : ∃ y_ : List (S66), y_ = (([(⟨t164, Int.tmod t165 (wrap64 (1 + (Int.tmod t125 5)))⟩ : S66)] : List (S66))) := ⟨_, rfl⟩
  replace H : (if x128003_2.length + y167.length < 8796093022208 then (script_reader_topo.l2 k2 (Int.tmod t162 4) (wrap64 (x53_2 + 1)) s0_0 t166 (wrap64 (1 + (Int.tmod t125 5))) x128001_1 x128002_1 (x128003_2 ++ y167)) else (none)) = some (r1, r2, r3, r4, r5) := by first | (rw [hy167]; with_reducible exact H) | (have H2_ := (Option.bind_some _ _).symm.trans H; rw [hy167]; with_reducible exact H2_) | (have H2_ := (Option.bind_some _ _).symm.trans H; with_reducible exact H2_) | with_reducible exact H | (rw [hy167]; exact H) | exact H
  have Ny167 := Aside0.mk hy167
  clear hy167
  by_cases c55 : x128003_2.length + y167.length < 8796093022208
  rotate_left
  ·rw [if_neg c55] at H
   exact absurd H (by simp)
  rw [if_pos c55] at H
  have LMc55 := Aside0.mk c55
  clear c55
  obtain ⟨y170, hy170⟩ : ∃ y_ : List (S66), y_ = (x128003_2 ++ y167) := ⟨_, rfl⟩
  replace H : (script_reader_topo.l2 k2 (Int.tmod t162 4) (wrap64 (x53_2 + 1)) s0_0 t166 (wrap64 (1 + (Int.tmod t125 5))) x128001_1 x128002_1 y170) = some (r1, r2, r3, r4, r5) := by first | (rw [hy170]; with_reducible exact H) | (have H2_ := (Option.bind_some _ _).symm.trans H; rw [hy170]; with_reducible exact H2_) | (have H2_ := (Option.bind_some _ _).symm.trans H; with_reducible exact H2_) | with_reducible exact H | (rw [hy170]; exact H) | exact H
  have Ny170 := Aside0.mk hy170
  clear hy170
  have H' := Aside0.mk H
  clear H
  try go_wp2
  have n0_ := Aside0.mk (Kd.N_drew HO_128001.out)
  have n1_ := Aside0.mk (Kd.N_drew HO_128002.out)
  have n2_ := Aside0.mk (Kd.R_drew HO_128003.out)
  have n3_ := Aside0.mk (blk_drew BK124.out)
  have n4_ := Aside0.mk (blk_drew BK127.out)
  have n5_ := Aside0.mk (IsS54.drew HI0.out)
  have n6_ := Aside0.mk (keep_drew HK.out)
  have n7_ := Aside0.mk (below_drew1 HB.out)
  clear HO_128001
  clear HO_128002
  clear HO_128003
  clear BK124
  clear BK127
  clear HI0
  clear HK
  clear HB
  have HO_128001 := n0_
  have HO_128002 := n1_
  have HO_128003 := n2_
  have BK124 := n3_
  have BK127 := n4_
  have HI0 := n5_
  have HK := n6_
  have HB := n7_
  clear n0_ n1_ n2_ n3_ n4_ n5_ n6_ n7_
  refine start_ (n := 14) (S := fun w' => w'.cell? ⟨gb127, 0, none⟩ = some (.int .i64 (wrap64 (1 + (Int.tmod t125 5)))) ∧ w'.cell? ⟨gb127, 1, none⟩ = some (u128001) ∧ w'.cell? ⟨gb127, 2, none⟩ = some (u128002) ∧ w'.cell? ⟨gb127, 3, none⟩ = some (u128003)) (ds := [13]) #[false, false, false, false, false, false, false, false, false, false, false, false, false, false] (by kernel_rfl) rfl rfl ⟨(blk_cell BK127.out 0).trans rfl, (blk_cell BK127.out 1).trans rfl, (blk_cell BK127.out 2).trans rfl, (blk_cell BK127.out 3).trans rfl⟩ (fun hHeld => ?_); refine with_tabW script_reader_topo.tab16 script_reader_topo.bits16 (fun HT_ HW_ => ?_)
  generalize wr.drew = w56 at HO_128001 HO_128002 HO_128003 BK124 BK127 HI0 HK HB hHeld ⊢
  refine pure_ (i := 0) (N := some 56) (v := ?_) (a' := ?_) #[true, false, false, false, false, false, false, false, false, false, false, false, false, false] rfl rfl (any_of HT_.out (by kernel_rfl)) (fun _ _ _ h => h) (Or.inl ⟨by rfl, ?_⟩) ?_ ?_
  rotate_left
  ·intro w'
   go_simp
   with_reducible rfl
  rotate_left
  ·simp only [Act.put, List.setIfInBounds_toArray, List.set_cons_zero, List.set_cons_succ, i64_w, i32_w]
   rfl
  refine pure_ (i := 2) (N := some 58) (v := ?_) (a' := ?_) #[true, false, true, false, false, false, false, false, false, false, false, false, false, false] rfl rfl (any_of HT_.out (by kernel_rfl)) (fun _ _ _ h => h) (Or.inl ⟨by rfl, ?_⟩) ?_ ?_
  rotate_left
  ·intro w'
   go_simp
   with_reducible rfl
  rotate_left
  ·simp only [Act.put, List.setIfInBounds_toArray, List.set_cons_zero, List.set_cons_succ, i64_w, i32_w]
   rfl
  refine pure_ (i := 4) (N := some 60) (v := ?_) (a' := ?_) #[true, false, true, false, true, false, false, false, false, false, false, false, false, false] rfl rfl (any_of HT_.out (by kernel_rfl)) (fun _ _ _ h => h) (Or.inl ⟨by rfl, ?_⟩) ?_ ?_
  rotate_left
  ·intro w'
   go_simp
   with_reducible rfl
  rotate_left
  ·simp only [Act.put, List.setIfInBounds_toArray, List.set_cons_zero, List.set_cons_succ, i64_w, i32_w]
   rfl
  refine pure_ (i := 6) (N := some 62) (v := ?_) (a' := ?_) #[true, false, true, false, true, false, true, false, false, false, false, false, false, false] rfl rfl (any_of HT_.out (by kernel_rfl)) (fun _ _ _ h => h) (Or.inl ⟨by rfl, ?_⟩) ?_ ?_
  rotate_left
  ·intro w'
   go_simp
   with_reducible rfl
  rotate_left
  ·simp only [Act.put, List.setIfInBounds_toArray, List.set_cons_zero, List.set_cons_succ, i64_w, i32_w]
   rfl
  refine take_ (i := 1) (N := some 57) (v := ?_) (a' := ?_) #[true, true, true, false, true, false, true, false, false, false, false, false, false, false] rfl rfl (take_ofW HT_.out HW_.out (by kernel_rfl)) (fun _ _ _ h => h) (Or.inl ⟨by rfl, ?_⟩) hHeld ?_ ?_
  rotate_left
  ·rintro w' ⟨s0, s1, s2, s3⟩
   go_simp
   with_reducible rfl
  rotate_left
  ·simp only [Act.put, List.setIfInBounds_toArray, List.set_cons_zero, List.set_cons_succ, i64_w, i32_w]
   rfl
  refine take_ (i := 7) (N := some 63) (v := ?_) (a' := ?_) #[true, true, true, false, true, false, true, true, false, false, false, false, false, false] rfl rfl (take_ofW HT_.out HW_.out (by kernel_rfl)) (fun _ _ _ h => h) (Or.inl ⟨by rfl, ?_⟩) hHeld ?_ ?_
  rotate_left
  ·rintro w' ⟨s0, s1, s2, s3⟩
   go_simp
   with_reducible rfl
  rotate_left
  ·simp only [Act.put, List.setIfInBounds_toArray, List.set_cons_zero, List.set_cons_succ, i64_w, i32_w]
   rfl
  refine one_ (i := 3) (N := some 59) #[true, true, true, true, true, false, true, true, false, false, false, false, false, false] rfl rfl (one_of HT_.out (by kernel_rfl)) (by decide) (fun K hK => ?_)
  refine goes_ Tryd.func30 (by kernel_rfl) rfl #[.int .i64 2, .int .i64 x53_2] (by rfl) rfl rfl (by (try simp only [List.map_toArray, List.map_cons, List.map_nil]); first | done | rfl | (simp only [List.length_drop, List.length_take]; rfl)) ?_
  with_reducible refine (script_address.calls 2 x53_2 t164 _ A52.out).mono ?_
  rintro e w' ⟨rfl, ⟨nd, rfl⟩⟩
  refine ⟨_, rfl, ?_⟩
  refine hK.out _ _ ⟨(blk_cell BK127.out 0).trans rfl, (blk_cell BK127.out 1).trans rfl, (blk_cell BK127.out 2).trans rfl, (blk_cell BK127.out 3).trans rfl⟩ (fun hHeld => ?_)
  clear hK K
  refine norm_ (a' := ?_) ?_ ?_
  rotate_left
  ·show Act.put _ (some 59) _ = _
   simp only [Act.put, List.setIfInBounds_toArray, List.set_cons_zero, List.set_cons_succ, i64_w, i32_w]
   rfl
  refine one_ (i := 5) (N := some 61) #[true, true, true, true, true, true, true, true, false, false, false, false, false, false] rfl rfl (one_of HT_.out (by kernel_rfl)) (by decide) (fun K hK => ?_)
  refine goes_ Tryd.func28 (by kernel_rfl) rfl #[.pointer (some ⟨g, 0, none⟩)] (by rfl) rfl rfl (by (try simp only [List.map_toArray, List.map_cons, List.map_nil]); first | done | rfl | (simp only [List.length_drop, List.length_take]; rfl)) ?_
  with_reducible refine (script_reader_next.calls g s0_0 x1001_2 t165 t166 w0 _ ?side1 ?side2 A53.out).mono ?_
  (case side1 => repeat (first | (with_reducible first | exact HI0.out | apply IsS54.alloc | apply IsS54.drewN | apply IsS54.drew | apply IsS54.set_1 | refine IsS54.far ?_ NB0_124.out _ | refine IsS54.far ?_ NB0_127.out _) | exact HI0.out))
  (case side2 => repeat (first | (with_reducible first | exact HB.out | apply below_alloc | apply pw_below_drewN | apply below_drew1 | refine below_set ?_ (IsS54.ge HI0.out) | refine below_set ?_ GE124.out | refine below_set ?_ GE127.out) | exact HB.out))
  rintro e w57 ⟨rfl, hi, hb, hk⟩
  refine ⟨_, rfl, ?_⟩
  have n0_ := Aside0.mk (Kd.N_mono (Kd.N_keep (Kd.N_mono (ok := fun k_ => (((w.heap.size ≤ k_)) ∧ (some k_ ≠ (u128002 : Value).ownBlock ∧ (some k_ ≠ (u128003 : Value).ownBlock ∧ (k_ ≠ gb124 ∧ (k_ ≠ gb127 ∧ k_ ≠ g)))))) (by (with_reducible repeat (first | apply Kd.N_alloc | apply Kd.N_drewN | apply Kd.N_drew)); exact HO_128001.out) (fun k_ hk_ => (⟨hk_, hk_.2.2.2.2.2⟩ : _ ∧ k_ ≠ g))) hk (fun _ h => h.2)) (fun _ h => h.1))
  have n1_ := Aside0.mk (Kd.N_mono (Kd.N_keep (Kd.N_mono (ok := fun k_ => (((w.heap.size ≤ k_)) ∧ (some k_ ≠ (u128001 : Value).ownBlock ∧ (some k_ ≠ (u128003 : Value).ownBlock ∧ (k_ ≠ gb124 ∧ (k_ ≠ gb127 ∧ k_ ≠ g)))))) (by (with_reducible repeat (first | apply Kd.N_alloc | apply Kd.N_drewN | apply Kd.N_drew)); exact HO_128002.out) (fun k_ hk_ => (⟨hk_, hk_.2.2.2.2.2⟩ : _ ∧ k_ ≠ g))) hk (fun _ h => h.2)) (fun _ h => h.1))
  have n2_ := Aside0.mk (Kd.R_mono (Kd.R_keep (IsS54.apart (show IsS54 w0 _ g s0_0 x1001_2 from by repeat (first | (with_reducible first | exact HI0.out | apply IsS54.alloc | apply IsS54.drewN | apply IsS54.drew | apply IsS54.set_1 | refine IsS54.far ?_ NB0_124.out _ | refine IsS54.far ?_ NB0_127.out _) | exact HI0.out)) (by (with_reducible repeat (first | apply Kd.R_alloc | apply Kd.R_drewN | apply Kd.R_drew)); exact HO_128003.out) (by decide)) hk (fun _ h => h.2)) (fun _ h => h.1))
  have n3_ := Aside0.mk (KeepBut.blk hk (g' := gb124) (o := .cells #[.int .i64 0, .slice none 0 0, .slice none 0 0, .slice none 0 0] 28 (0, 0)) (by (with_reducible repeat (first | refine blk_drewN ?_ _ | refine blk_drew ?_ | refine blk_alloc ?_ _)); exact BK124.out) NB124_0.out (by simp))
  have n4_ := Aside0.mk (KeepBut.blk hk (g' := gb127) (o := .cells #[.int .i64 (wrap64 (1 + (Int.tmod t125 5))), u128001, u128002, u128003] 28 (0, 0)) (by (with_reducible repeat (first | refine blk_drewN ?_ _ | refine blk_drew ?_ | refine blk_alloc ?_ _)); exact BK127.out) NB127_0.out (by simp))
  have n5_ := Aside0.mk (KeepBut.trans (by repeat (first | (with_reducible first | exact HK.out | apply KeepBut.set_ | apply keep_drewN | apply keep_drew | apply keep_alloc | refine keep_far ?_ GW124.out _ | refine keep_far ?_ GW127.out _) | exact HK.out)) hk (.inl rfl))
  have n6_ := Aside0.mk (hb)
  have n7_ := Aside0.mk (hi)
  clear HO_128001
  clear HO_128002
  clear HO_128003
  clear BK124
  clear BK127
  clear HK
  clear HB
  clear HI0
  have HO_128001 := n0_
  have HO_128002 := n1_
  have HO_128003 := n2_
  have BK124 := n3_
  have BK127 := n4_
  have HK := n5_
  have HB := n6_
  have HI0 := n7_
  clear n0_ n1_ n2_ n3_ n4_ n5_ n6_ n7_
  (try clear hb)
  (try clear hb2)
  (try clear hk)
  (try clear hi)
  refine hK.out _ _ ⟨(blk_cell BK127.out 0).trans rfl, (blk_cell BK127.out 1).trans rfl, (blk_cell BK127.out 2).trans rfl, (blk_cell BK127.out 3).trans rfl⟩ (fun hHeld => ?_)
  clear hK K
  refine norm_ (a' := ?_) ?_ ?_
  rotate_left
  ·show Act.put _ (some 61) _ = _
   simp only [Act.put, List.setIfInBounds_toArray, List.set_cons_zero, List.set_cons_succ, i64_w, i32_w]
   rfl
  refine pure_ (i := 8) (N := some 64) (v := ?_) (a' := ?_) #[true, true, true, true, true, true, true, true, true, false, false, false, false, false] rfl rfl (any_of HT_.out (by kernel_rfl)) (fun _ _ _ h => h) (Or.inl ⟨by rfl, ?_⟩) ?_ ?_
  rotate_left
  ·intro w'
   go_simp
   with_reducible rfl
  rotate_left
  ·simp only [Act.put, List.setIfInBounds_toArray, List.set_cons_zero, List.set_cons_succ, i64_w, i32_w]
   rfl
  refine pure_ (i := 9) (N := some 65) (v := ?_) (a' := ?_) #[true, true, true, true, true, true, true, true, true, true, false, false, false, false] rfl rfl (any_of HT_.out (by kernel_rfl)) (fun _ _ _ h => h) (Or.inl ⟨by rfl, ?_⟩) ?_ ?_
  rotate_left
  ·intro w'
   go_simp
   with_reducible rfl
  rotate_left
  ·simp only [Act.put, List.setIfInBounds_toArray, List.set_cons_zero, List.set_cons_succ, i64_w, i32_w]
   rfl
  refine one_ (i := 10) (N := some 66) #[true, true, true, true, true, true, true, true, true, true, true, false, false, false] rfl rfl (one_of HT_.out (by kernel_rfl)) (by decide) (fun K hK => ?_)
  refine Kd.R_lit_step k66 _ 66 ?hg (N := 66) ?hd (xs := ([(⟨t164, Int.tmod t165 (wrap64 (1 + (Int.tmod t125 5)))⟩ : S66)] : List (S66))) (inner := [.int .u64 t164, .int .i64 (Int.tmod t165 (wrap64 (1 + (Int.tmod t125 5))))]) (ok := fun _ => True) (okp := fun _ => True) ?hr ?hp (fun _ hk => hk) trivial (Below.refl _ _) (Nat.le_refl _) (by simp) ?_; (case hd => rfl); (case hg => rfl); (case hr => first | (go_simp; done) | (go_simp; rfl)); (case hp => exact (Reps.c2 (show Kd.M k66 _ _ _ (⟨t164, Int.tmod t165 (wrap64 (1 + (Int.tmod t125 5)))⟩ : S66) [.int .u64 t164, .int .i64 (Int.tmod t165 (wrap64 (1 + (Int.tmod t125 5))))] from (k66_mkM _ _ _ (⟨t164, Int.tmod t165 (wrap64 (1 + (Int.tmod t125 5)))⟩ : S66) )) (Reps.none _ _)))
  intro v168 w58 ho59 hb hg_ hnew_
  clear hg_ hnew_
  (first | rw [← Ny167.out] at ho59 | (simp only [Int.reduceToNat] at ho59; rw [← Ny167.out] at ho59))
  have n0_ := Aside0.mk (Kd.N_elder' (by (with_reducible repeat (first | apply Kd.N_alloc | apply Kd.N_drewN | apply Kd.N_drew)); exact HO_128001.out) (Kd.R_base ho59) hb)
  have n1_ := Aside0.mk (Kd.N_elder' (by (with_reducible repeat (first | apply Kd.N_alloc | apply Kd.N_drewN | apply Kd.N_drew)); exact HO_128002.out) (Kd.R_base ho59) hb)
  have n2_ := Aside0.mk (Kd.R_elder' (by (with_reducible repeat (first | apply Kd.R_alloc | apply Kd.R_drewN | apply Kd.R_drew)); exact HO_128003.out) (Kd.R_base ho59) hb)
  have n3_ := Aside0.mk (Kd.R_lower (Kd.R_new' (Kd.R_newM (M := fun k_ => (w.heap.size ≤ k_)) ho59 (keep_size (w := w) (g := g) (row := none) (by repeat (first | (with_reducible first | exact HK.out | apply KeepBut.set_ | apply keep_drewN | apply keep_drew | apply keep_alloc | refine keep_far ?_ GW124.out _ | refine keep_far ?_ GW127.out _) | exact HK.out))) (fun k_ h_ => h_)) (Kd.R_lt (by (with_reducible repeat (first | apply Kd.R_alloc | apply Kd.R_drewN | apply Kd.R_drew)); exact HO_128003.out))) (keep_size (w := w) (g := g) (row := none) (by repeat (first | (with_reducible first | exact HK.out | apply KeepBut.set_ | apply keep_drewN | apply keep_drew | apply keep_alloc | refine keep_far ?_ GW124.out _ | refine keep_far ?_ GW127.out _) | exact HK.out))))
  have n4_ := Aside0.mk (blk_below (g := gb124) (o := .cells #[.int .i64 0, .slice none 0 0, .slice none 0 0, .slice none 0 0] 28 (0, 0)) (by (with_reducible repeat (first | refine blk_drewN ?_ _ | refine blk_drew ?_ | refine blk_alloc ?_ _)); exact BK124.out) hb)
  have n5_ := Aside0.mk (blk_below (g := gb127) (o := .cells #[.int .i64 (wrap64 (1 + (Int.tmod t125 5))), u128001, u128002, u128003] 28 (0, 0)) (by (with_reducible repeat (first | refine blk_drewN ?_ _ | refine blk_drew ?_ | refine blk_alloc ?_ _)); exact BK127.out) hb)
  have n6_ := Aside0.mk (IsS54.below (by repeat (first | (with_reducible first | exact HI0.out | apply IsS54.alloc | apply IsS54.drewN | apply IsS54.drew | apply IsS54.set_1 | refine IsS54.far ?_ NB0_124.out _ | refine IsS54.far ?_ NB0_127.out _) | exact HI0.out)) hb)
  have n7_ := Aside0.mk (KeepBut.trans (by repeat (first | (with_reducible first | exact HK.out | apply KeepBut.set_ | apply keep_drewN | apply keep_drew | apply keep_alloc | refine keep_far ?_ GW124.out _ | refine keep_far ?_ GW127.out _) | exact HK.out)) (KeepBut.of_below hb g none) (.inl rfl))
  have n8_ := Aside0.mk (below_step (by repeat (first | (with_reducible first | exact HB.out | apply below_alloc | apply pw_below_drewN | apply below_drew1 | refine below_set ?_ (IsS54.ge HI0.out) | refine below_set ?_ GE124.out | refine below_set ?_ GE127.out) | exact HB.out)) hb)
  clear HO_128001
  clear HO_128002
  clear HO_128003
  clear BK124
  clear BK127
  clear HI0
  clear HK
  clear HB
  have HO_128001 := n0_
  have HO_128002 := n1_
  have HO_128003 := n2_
  have HO169 := n3_
  have BK124 := n4_
  have BK127 := n5_
  have HI0 := n6_
  have HK := n7_
  have HB := n8_
  clear n0_ n1_ n2_ n3_ n4_ n5_ n6_ n7_ n8_
  clear hb ho59
  obtain ⟨Ao61, co61, eo61⟩ := Kd.R_slice HO169.out
  (first | subst eo61 | (injection eo61 with f1_ f2_ f3_; have f4_ := f1_.symm; have f5_ := f3_.symm; clear f1_ f2_ f3_; subst f4_; subst f5_))
  refine hK.out _ _ ⟨(blk_cell BK127.out 0).trans rfl, (blk_cell BK127.out 1).trans rfl, (blk_cell BK127.out 2).trans rfl, (blk_cell BK127.out 3).trans rfl⟩ (fun hHeld => ?_)
  clear hK K
  refine norm_ (a' := ?_) ?_ ?_
  rotate_left
  ·show Act.put _ (some 66) _ = _
   simp only [Act.put, List.setIfInBounds_toArray, List.set_cons_zero, List.set_cons_succ, i64_w, i32_w]
   rfl
  refine one_ (i := 11) (N := some 67) #[true, true, true, true, true, true, true, true, true, true, true, true, false, false] rfl rfl (one_of HT_.out (by kernel_rfl)) (by decide) (fun K hK => ?_)
  refine Kd.R_append_rows_step k66 w.heap.size (by rfl) (.tmp 57) (.tmp 66) 26 66 (.agg #[(.int .u64 0), (.int .i64 0)]) 16 rfl Tryd.underlying26 info66 rfl (by decide) (by omega) u128003 x128003_2 y167 _ _ _ (fun k_ => (w.heap.size ≤ k_) ∧ some k_ ≠ (.slice Ao61 y167.length co61 : Value).ownBlock) (fun _ => False) rfl rfl ?aO ?aR (fun _ _ h => h) (fun _ h => h.elim) ?aF (Below.refl _ _) ?aS ?aL ?_
  (case aR => repeat (first | exact (Kd.R_reads' HO169.out).2.2 | (with_reducible refine Kd.C_alloc ?_ _) | (with_reducible refine Kd.C_drewN ?_ _) | (with_reducible refine Kd.C_drew ?_)))
  (case aF => exact (fun k_ hk => ⟨(Nat.le_trans (keep_size (w := w) (g := g) (row := none) (by repeat (first | (with_reducible first | exact HK.out | apply KeepBut.set_ | apply keep_drewN | apply keep_drew | apply keep_alloc | refine keep_far ?_ GW124.out _ | refine keep_far ?_ GW127.out _) | exact HK.out))) hk), Kd.fresh' (Kd.R_lt (by (with_reducible repeat (first | apply Kd.R_alloc | apply Kd.R_drewN | apply Kd.R_drew)); exact HO169.out)) k_ hk⟩))
  (case aO => exact (by (with_reducible repeat (first | apply Kd.R_alloc | apply Kd.R_drewN | apply Kd.R_drew)); exact HO_128003.out))
  (case aS => exact (keep_size (w := w) (g := g) (row := none) (by repeat (first | (with_reducible first | exact HK.out | apply KeepBut.set_ | apply keep_drewN | apply keep_drew | apply keep_alloc | refine keep_far ?_ GW124.out _ | refine keep_far ?_ GW127.out _) | exact HK.out))))
  (case aL => have := LMc55.out; omega)
  intro v171 w60 ho hb hg hat
  rw [← Ny170.out] at ho
  have n0_ := Aside0.mk (Kd.N_afterv (ok := (fun k_ => (w.heap.size ≤ k_) ∧ some k_ ≠ (u128002 : Value).ownBlock ∧ some k_ ≠ (.slice Ao61 y167.length co61 : Value).ownBlock ∧ k_ ≠ gb124 ∧ k_ ≠ gb127 ∧ k_ ≠ g)) (by (with_reducible repeat (first | apply Kd.N_alloc | apply Kd.N_drewN | apply Kd.N_drew)); exact Kd.N_mono HO_128001.out (fun _ hk => ⟨⟨hk.1.1, ⟨hk.1.2.1, ⟨hk.2, ⟨hk.1.2.2.2.1, ⟨hk.1.2.2.2.2.1, hk.1.2.2.2.2.2⟩⟩⟩⟩⟩, hk.1.2.2.1⟩)) hg hat)
  have n1_ := Aside0.mk (Kd.N_afterv (ok := (fun k_ => (w.heap.size ≤ k_) ∧ some k_ ≠ (u128001 : Value).ownBlock ∧ some k_ ≠ (.slice Ao61 y167.length co61 : Value).ownBlock ∧ k_ ≠ gb124 ∧ k_ ≠ gb127 ∧ k_ ≠ g)) (by (with_reducible repeat (first | apply Kd.N_alloc | apply Kd.N_drewN | apply Kd.N_drew)); exact Kd.N_mono HO_128002.out (fun _ hk => ⟨⟨hk.1.1, ⟨hk.1.2.1, ⟨hk.2, ⟨hk.1.2.2.2.1, ⟨hk.1.2.2.2.2.1, hk.1.2.2.2.2.2⟩⟩⟩⟩⟩, hk.1.2.2.1⟩)) hg hat)
  have n2_ := Aside0.mk (blk_grown (g := gb124) (o := .cells #[.int .i64 0, .slice none 0 0, .slice none 0 0, .slice none 0 0] 28 (0, 0)) (by (with_reducible repeat (first | refine blk_drewN ?_ _ | refine blk_drew ?_ | refine blk_alloc ?_ _)); exact BK124.out) hg (Kd.R_ne HO_128003.out BK124.out (by decide)))
  have n3_ := Aside0.mk (blk_grown (g := gb127) (o := .cells #[.int .i64 (wrap64 (1 + (Int.tmod t125 5))), u128001, u128002, u128003] 28 (0, 0)) (by (with_reducible repeat (first | refine blk_drewN ?_ _ | refine blk_drew ?_ | refine blk_alloc ?_ _)); exact BK127.out) hg (Kd.R_ne HO_128003.out BK127.out (by decide)))
  have n4_ := Aside0.mk (IsS54.grown (by repeat (first | (with_reducible first | exact HI0.out | apply IsS54.alloc | apply IsS54.drewN | apply IsS54.drew | apply IsS54.set_1 | refine IsS54.far ?_ NB0_124.out _ | refine IsS54.far ?_ NB0_127.out _) | exact HI0.out)) hg (IsS54.own_ne HI0.out HO_128003.out (by decide)))
  have n5_ := Aside0.mk (Kd.R_after (ok := (fun k_ => (w.heap.size ≤ k_))) (by (with_reducible repeat (first | apply Kd.R_alloc | apply Kd.R_drewN | apply Kd.R_drew)); exact Kd.R_mono HO169.out (fun _ hk => ⟨hk.1.1, hk.2⟩)) hg hat)
  have n6_ := Aside0.mk (below_weaken (by repeat (first | (with_reducible first | exact HB.out | apply below_alloc | apply pw_below_drewN | apply below_drew1 | refine below_set ?_ (IsS54.ge HI0.out) | refine below_set ?_ GE124.out | refine below_set ?_ GE127.out) | exact HB.out)) HL.out hb)
  have n7_ := Aside0.mk (KeepBut.trans (by repeat (first | (with_reducible first | exact HK.out | apply KeepBut.set_ | apply keep_drewN | apply keep_drew | apply keep_alloc | refine keep_far ?_ GW124.out _ | refine keep_far ?_ GW127.out _) | exact HK.out)) (KeepBut.of_grown hg g) (Kd.R_base2 HO_128003.out))
  have n8_ := Aside0.mk (ho)
  clear HO_128001
  clear HO_128002
  clear BK124
  clear BK127
  clear HI0
  clear HO169
  clear HB
  clear HK
  clear HO_128003
  have HO_128001 := n0_
  have HO_128002 := n1_
  have BK124 := n2_
  have BK127 := n3_
  have HI0 := n4_
  have HO169 := n5_
  have HB := n6_
  have HK := n7_
  have HO172 := n8_
  clear n0_ n1_ n2_ n3_ n4_ n5_ n6_ n7_ n8_
  clear ho hb hg hat
  obtain ⟨Ao62, co62, eo62⟩ := Kd.R_slice HO172.out
  (first | subst eo62 | (injection eo62 with f1_ f2_ f3_; have f4_ := f1_.symm; have f5_ := f3_.symm; clear f1_ f2_ f3_; subst f4_; subst f5_))
  refine hK.out _ _ ⟨(blk_cell BK127.out 0).trans rfl, (blk_cell BK127.out 1).trans rfl, (blk_cell BK127.out 2).trans rfl, (blk_cell BK127.out 3).trans rfl⟩ (fun hHeld => ?_)
  clear hK K
  refine norm_ (a' := ?_) ?_ ?_
  rotate_left
  ·show Act.put _ (some 67) _ = _
   simp only [Act.put, List.setIfInBounds_toArray, List.set_cons_zero, List.set_cons_succ, i64_w, i32_w]
   rfl
  refine pure_ (i := 12) (N := some 68) (v := ?_) (a' := ?_) #[true, true, true, true, true, true, true, true, true, true, true, true, true, false] rfl rfl (any_of HT_.out (by kernel_rfl)) (fun _ _ _ h => h) (Or.inl ⟨by rfl, ?_⟩) ?_ ?_
  rotate_left
  ·intro w'
   go_simp
   with_reducible rfl
  rotate_left
  ·simp only [Act.put, List.setIfInBounds_toArray, List.set_cons_zero, List.set_cons_succ, i64_w, i32_w]
   rfl
  refine last_ (i := 13) (N := none) #[true, true, true, true, true, true, true, true, true, true, true, true, true, true] rfl rfl (one_of HT_.out (by kernel_rfl)) (by decide) (fun K hK => ?_)
  have hs63 : w60.cell? ⟨gb127, 3, none⟩ = some (u128003) := (blk_cell BK127.out 3).trans rfl
  have hfs63 := blk_frozen BK127.out 3
  have hns63_0 := NB124_127.out
  have hms63_0 := NB127_124.out
  refine skip_ (w1 := ?_) (by rfl) rfl ?_ ?_
  rotate_left
  ·go_simp
   rfl
  refine hK.out _ _ ?_
  clear hK K
  refine done_ (done_of HT_.out (by kernel_rfl)) ?_
  try go_wp2
  go_roundg k2
  case measure => have := HK1.out; have := HK2.out; omega
  case rel => exact ⟨(wrap64 (x53_2 + 1)), (t166), (y170), (.slice Ao62 y170.length co62), (by first | rfl | (simp; done) | (simp [*]; done)), H', ⟨by have := HK1.out; have := HK2.out; omega⟩, ⟨by (with_reducible repeat (first | apply Kd.N_alloc | apply Kd.N_drewN | apply Kd.N_drew)); exact Kd.N_mono (Kd.N_far (p := ⟨gb127, 3, none⟩) (Kd.N_mono HO_128001.out (fun k_ hk => (⟨hk, hk.1.2.2.2.2.1⟩ : _ ∧ k_ ≠ gb127))) (fun _ hk => hk.2) (.slice Ao62 y170.length co62)) (fun _ hk => ⟨hk.1.1.1, ⟨hk.1.1.2.1, ⟨hk.1.2, ⟨hk.1.1.2.2.2.1, ⟨hk.1.1.2.2.2.2.1, hk.1.1.2.2.2.2.2⟩⟩⟩⟩⟩)⟩, ⟨by (with_reducible repeat (first | apply Kd.N_alloc | apply Kd.N_drewN | apply Kd.N_drew)); exact Kd.N_mono (Kd.N_far (p := ⟨gb127, 3, none⟩) (Kd.N_mono HO_128002.out (fun k_ hk => (⟨hk, hk.1.2.2.2.2.1⟩ : _ ∧ k_ ≠ gb127))) (fun _ hk => hk.2) (.slice Ao62 y170.length co62)) (fun _ hk => ⟨hk.1.1.1, ⟨hk.1.1.2.1, ⟨hk.1.2, ⟨hk.1.1.2.2.2.1, ⟨hk.1.1.2.2.2.2.1, hk.1.1.2.2.2.2.2⟩⟩⟩⟩⟩)⟩, ⟨by (with_reducible repeat (first | apply Kd.R_alloc | apply Kd.R_drewN | apply Kd.R_drew)); exact Kd.R_mono (Kd.R_far (p := ⟨gb127, 3, none⟩) (Kd.R_types HO172.out BK127.out (by decide)) (fun _ hk => hk.2) (.slice Ao62 y170.length co62)) (fun _ hk => hk.1.1)⟩, ⟨by (with_reducible repeat (first | refine blk_drewN ?_ _ | refine blk_drew ?_ | refine blk_alloc ?_ _)); refine blk_far ?_ NB124_127.out _; (with_reducible repeat (first | refine blk_drewN ?_ _ | refine blk_drew ?_ | refine blk_alloc ?_ _)); exact BK124.out⟩, ⟨by (with_reducible repeat (first | refine blk_drewN ?_ _ | refine blk_drew ?_ | refine blk_alloc ?_ _)); refine blk_put (cs := #[.int .i64 (wrap64 (1 + (Int.tmod t125 5))), u128001, u128002, u128003]) ?_ 3 _ rfl; (with_reducible repeat (first | refine blk_drewN ?_ _ | refine blk_drew ?_ | refine blk_alloc ?_ _)); exact BK127.out⟩, ⟨by repeat (first | (with_reducible first | exact HI0.out | apply IsS54.alloc | apply IsS54.drewN | apply IsS54.drew | apply IsS54.set_1 | refine IsS54.far ?_ NB0_124.out _ | refine IsS54.far ?_ NB0_127.out _) | exact HI0.out)⟩, ⟨by repeat (first | (with_reducible first | exact HK.out | apply KeepBut.set_ | apply keep_drewN | apply keep_drew | apply keep_alloc | refine keep_far ?_ GW124.out _ | refine keep_far ?_ GW127.out _) | exact HK.out)⟩, ⟨by repeat (first | (with_reducible first | exact HB.out | apply below_alloc | apply pw_below_drewN | apply below_drew1 | refine below_set ?_ (IsS54.ge HI0.out) | refine below_set ?_ GE124.out | refine below_set ?_ GE127.out) | exact HB.out)⟩⟩
 rw [if_pos c11] at H
 have c11b0 : decide (x17_1 < (wrap64 (1 + (Int.tmod t128 4)))) = true := decide_eq_true c11
 clear c11
 replace H := Option.bind_eq_some_iff.mp H
 obtain ⟨⟨t130, t131, t132, t133, t134, t135, t136, t137, t140⟩, A120, H⟩ := H
 replace H : (script_reader_topo.l1 k1 ([] : List Int) (wrap64 (1 + (Int.tmod t128 4))) x17_1 (t137.length : Int) 0 s0_0 t140 (wrap64 (1 + (Int.tmod t125 5))) x128001_1 x128002_1 t130 t131 t132 t133 t134 t135 t136 t137) = some (r1, r2, r3, r4, r5) := H
 have A12 := Aside0.mk A120
 clear A120
 have H' := Aside0.mk H
 clear H
 go_wp2_with (first | ((with_reducible refine gate_callee (f := 29) rfl ?_); refine goesL_ (some 22) rfl rfl Tryd.func29 (by kernel_rfl) rfl #[.pointer (some ⟨g, 0, none⟩), .int .i64 x17_1] rfl (by (try simp only [List.map_toArray, List.map_cons, List.map_nil]); first | done | rfl | (simp only [List.length_drop, List.length_take]; rfl)) ?_; (with_reducible refine (script_reader_conf.calls k1 g s0_0 x1001_1 x17_1 t130 t131 t132 t133 t134 t135 t136 t137 t140 w0 _ ?side1 ?side2 A12.out).mono ?_); (case side1 => repeat (first | (with_reducible first | exact HI0.out | apply IsS54.alloc | apply IsS54.drewN | apply IsS54.drew | apply IsS54.set_1 | refine IsS54.far ?_ NB0_124.out _ | refine IsS54.far ?_ NB0_127.out _) | exact HI0.out)); (case side2 => repeat (first | (with_reducible first | exact HB.out | apply below_alloc | apply pw_below_drewN | apply below_drew1 | refine below_set ?_ (IsS54.ge HI0.out) | refine below_set ?_ GE124.out | refine below_set ?_ GE127.out) | exact HB.out)); rintro e w13 ⟨v138, rfl, ho0, hi, hb, hk⟩; refine ⟨_, rfl, ?_⟩; have n0_ := Aside0.mk (Kd.N_mono (Kd.N_told (Kd.N_oldK (Kd.N_mono (ok := fun k_ => (((w.heap.size ≤ k_)) ∧ (some k_ ≠ (u128002 : Value).ownBlock ∧ (k_ ≠ gb124 ∧ (k_ ≠ gb127 ∧ k_ ≠ g))))) (by (with_reducible repeat (first | apply Kd.N_alloc | apply Kd.N_drewN | apply Kd.N_drew)); exact HO_128001.out) (fun k_ hk_ => (⟨hk_, hk_.2.2.2.2⟩ : _ ∧ k_ ≠ g))) hk) (Kd.R_base ho0)) (fun _ h_ => h_.1)); have n1_ := Aside0.mk (Kd.N_mono (Kd.N_told (Kd.N_oldK (Kd.N_mono (ok := fun k_ => (((w.heap.size ≤ k_)) ∧ (some k_ ≠ (u128001 : Value).ownBlock ∧ (k_ ≠ gb124 ∧ (k_ ≠ gb127 ∧ k_ ≠ g))))) (by (with_reducible repeat (first | apply Kd.N_alloc | apply Kd.N_drewN | apply Kd.N_drew)); exact HO_128002.out) (fun k_ hk_ => (⟨hk_, hk_.2.2.2.2⟩ : _ ∧ k_ ≠ g))) hk) (Kd.R_base ho0)) (fun _ h_ => h_.1)); have n2_ := Aside0.mk (KeepBut.blk hk (g' := gb124) (o := .cells #[.int .i64 0, .slice none 0 0, .slice none 0 0, .slice none 0 0] 28 (0, 0)) (by (with_reducible repeat (first | refine blk_drewN ?_ _ | refine blk_drew ?_ | refine blk_alloc ?_ _)); exact BK124.out) NB124_0.out (by simp)); have n3_ := Aside0.mk (KeepBut.blk hk (g' := gb127) (o := .cells #[.int .i64 (wrap64 (1 + (Int.tmod t125 5))), u128001, u128002, .slice none 0 0] 28 (0, 0)) (by (with_reducible repeat (first | refine blk_drewN ?_ _ | refine blk_drew ?_ | refine blk_alloc ?_ _)); exact BK127.out) NB127_0.out (by simp)); have n4_ := Aside0.mk (Kd.R_lower (Kd.R_newM (M := fun k_ => (w.heap.size ≤ k_)) ho0 (keep_size (w := w) (g := g) (row := none) (by repeat (first | (with_reducible first | exact HK.out | apply KeepBut.set_ | apply keep_drewN | apply keep_drew | apply keep_alloc | refine keep_far ?_ GW124.out _ | refine keep_far ?_ GW127.out _) | exact HK.out))) (fun k_ h_ => h_)) (keep_size (w := w) (g := g) (row := none) (by repeat (first | (with_reducible first | exact HK.out | apply KeepBut.set_ | apply keep_drewN | apply keep_drew | apply keep_alloc | refine keep_far ?_ GW124.out _ | refine keep_far ?_ GW127.out _) | exact HK.out)))); have n5_ := Aside0.mk (KeepBut.trans (by repeat (first | (with_reducible first | exact HK.out | apply KeepBut.set_ | apply keep_drewN | apply keep_drew | apply keep_alloc | refine keep_far ?_ GW124.out _ | refine keep_far ?_ GW127.out _) | exact HK.out)) hk (.inl rfl)); have n6_ := Aside0.mk (hb); have n7_ := Aside0.mk (hi); clear HO_128001; clear HO_128002; clear BK124; clear BK127; clear HK; clear HB; clear HI0; have HO_128001 := n0_; have HO_128002 := n1_; have BK124 := n2_; have BK127 := n3_; have HO139 := n4_; have HK := n5_; have HB := n6_; have HI0 := n7_; clear n0_ n1_ n2_ n3_ n4_ n5_ n6_ n7_; (try clear hb); (try clear hb2); (try clear hk); (try clear hi); (try clear ho0)) | ((with_reducible refine gate_dst (N := 5) rfl ?_); refine box_event ?hg (N := 5) ?hd (cs := #[.int .u64 0, .int .u16 0, .int .i64 0, .int .i64 0, .int .i64 0, .int .i64 0, .int .i64 0, .slice none 0 0]) (t := 51) ?hr ?_; (case hd => rfl); (case hg => rfl); (case hr => first | (go_simp; done) | (go_simp; rfl)); intro gb141 hg w14 hbox hb; have n0_ := Aside0.mk (Kd.N_below (Kd.N_elderB (by (with_reducible repeat (first | apply Kd.N_alloc | apply Kd.N_drewN | apply Kd.N_drew)); exact HO_128001.out) gb141 (Nat.le_of_eq hg.symm)) hb); have n1_ := Aside0.mk (Kd.N_below (Kd.N_elderB (by (with_reducible repeat (first | apply Kd.N_alloc | apply Kd.N_drewN | apply Kd.N_drew)); exact HO_128002.out) gb141 (Nat.le_of_eq hg.symm)) hb); have n2_ := Aside0.mk (Kd.R_below (by (with_reducible repeat (first | apply Kd.R_alloc | apply Kd.R_drewN | apply Kd.R_drew)); exact HO139.out) hb); have n3_ := Aside0.mk (blk_below (g := gb124) (o := .cells #[.int .i64 0, .slice none 0 0, .slice none 0 0, .slice none 0 0] 28 (0, 0)) (by (with_reducible repeat (first | refine blk_drewN ?_ _ | refine blk_drew ?_ | refine blk_alloc ?_ _)); exact BK124.out) hb); have n4_ := Aside0.mk (blk_below (g := gb127) (o := .cells #[.int .i64 (wrap64 (1 + (Int.tmod t125 5))), u128001, u128002, .slice none 0 0] 28 (0, 0)) (by (with_reducible repeat (first | refine blk_drewN ?_ _ | refine blk_drew ?_ | refine blk_alloc ?_ _)); exact BK127.out) hb); have n5_ := Aside0.mk (IsS54.below (by repeat (first | (with_reducible first | exact HI0.out | apply IsS54.alloc | apply IsS54.drewN | apply IsS54.drew | apply IsS54.set_1 | refine IsS54.far ?_ NB0_124.out _ | refine IsS54.far ?_ NB0_127.out _) | exact HI0.out)) hb); have n6_ := Aside0.mk (KeepBut.trans (by repeat (first | (with_reducible first | exact HK.out | apply KeepBut.set_ | apply keep_drewN | apply keep_drew | apply keep_alloc | refine keep_far ?_ GW124.out _ | refine keep_far ?_ GW127.out _) | exact HK.out)) (KeepBut.of_below hb g none) (.inl rfl)); have n7_ := Aside0.mk (below_step (by repeat (first | (with_reducible first | exact HB.out | apply below_alloc | apply pw_below_drewN | apply below_drew1 | refine below_set ?_ (IsS54.ge HI0.out) | refine below_set ?_ GE124.out | refine below_set ?_ GE127.out) | exact HB.out)) hb); have n8_ := Aside0.mk (hbox); have n9_ := Aside0.mk ((by rw [hg]; exact (keep_size (w := w) (g := g) (row := none) (by repeat (first | (with_reducible first | exact HK.out | apply KeepBut.set_ | apply keep_drewN | apply keep_drew | apply keep_alloc | refine keep_far ?_ GW124.out _ | refine keep_far ?_ GW127.out _) | exact HK.out))) : w.heap.size ≤ gb141)); have n10_ := Aside0.mk ((Nat.le_trans HW0.out (by rw [hg]; exact (keep_size (w := w) (g := g) (row := none) (by repeat (first | (with_reducible first | exact HK.out | apply KeepBut.set_ | apply keep_drewN | apply keep_drew | apply keep_alloc | refine keep_far ?_ GW124.out _ | refine keep_far ?_ GW127.out _) | exact HK.out))) : w.heap.size ≤ gb141) : w0.heap.size ≤ gb141)); have n11_ := Aside0.mk ((by rw [hg]; exact Nat.ne_of_lt (blk_lt (g := gb124) (o := .cells #[.int .i64 0, .slice none 0 0, .slice none 0 0, .slice none 0 0] 28 (0, 0)) (by (with_reducible repeat (first | refine blk_drewN ?_ _ | refine blk_drew ?_ | refine blk_alloc ?_ _)); exact BK124.out)) : gb124 ≠ gb141)); have n12_ := Aside0.mk ((by rw [hg]; exact Nat.ne_of_gt (blk_lt (g := gb124) (o := .cells #[.int .i64 0, .slice none 0 0, .slice none 0 0, .slice none 0 0] 28 (0, 0)) (by (with_reducible repeat (first | refine blk_drewN ?_ _ | refine blk_drew ?_ | refine blk_alloc ?_ _)); exact BK124.out)) : gb141 ≠ gb124)); have n13_ := Aside0.mk ((by rw [hg]; exact Nat.ne_of_lt (blk_lt (g := gb127) (o := .cells #[.int .i64 (wrap64 (1 + (Int.tmod t125 5))), u128001, u128002, .slice none 0 0] 28 (0, 0)) (by (with_reducible repeat (first | refine blk_drewN ?_ _ | refine blk_drew ?_ | refine blk_alloc ?_ _)); exact BK127.out)) : gb127 ≠ gb141)); have n14_ := Aside0.mk ((by rw [hg]; exact Nat.ne_of_gt (blk_lt (g := gb127) (o := .cells #[.int .i64 (wrap64 (1 + (Int.tmod t125 5))), u128001, u128002, .slice none 0 0] 28 (0, 0)) (by (with_reducible repeat (first | refine blk_drewN ?_ _ | refine blk_drew ?_ | refine blk_alloc ?_ _)); exact BK127.out)) : gb141 ≠ gb127)); have n15_ := Aside0.mk ((by rw [hg]; exact Nat.ne_of_lt (IsS54.lt (show IsS54 w0 _ g s0_0 t140 from by repeat (first | (with_reducible first | exact HI0.out | apply IsS54.alloc | apply IsS54.drewN | apply IsS54.drew | apply IsS54.set_1 | refine IsS54.far ?_ NB0_124.out _ | refine IsS54.far ?_ NB0_127.out _) | exact HI0.out))) : g ≠ gb141)); have n16_ := Aside0.mk ((by rw [hg]; exact Nat.ne_of_gt (IsS54.lt (show IsS54 w0 _ g s0_0 t140 from by repeat (first | (with_reducible first | exact HI0.out | apply IsS54.alloc | apply IsS54.drewN | apply IsS54.drew | apply IsS54.set_1 | refine IsS54.far ?_ NB0_124.out _ | refine IsS54.far ?_ NB0_127.out _) | exact HI0.out))) : gb141 ≠ g)); clear HO_128001; clear HO_128002; clear HO139; clear BK124; clear BK127; clear HI0; clear HK; clear HB; have HO_128001 := n0_; have HO_128002 := n1_; have HO139 := n2_; have BK124 := n3_; have BK127 := n4_; have HI0 := n5_; have HK := n6_; have HB := n7_; have BK141 := n8_; have GW141 := n9_; have GE141 := n10_; have NB124_141 := n11_; have NB141_124 := n12_; have NB127_141 := n13_; have NB141_127 := n14_; have NB0_141 := n15_; have NB141_0 := n16_; clear n0_ n1_ n2_ n3_ n4_ n5_ n6_ n7_ n8_ n9_ n10_ n11_ n12_ n13_ n14_ n15_ n16_; clear hb hbox hg; have hnb15 := NB141_124.out; have hnc15 := NB124_141.out; have hnb16 := NB141_127.out; have hnc16 := NB127_141.out; have hnb17 := NB141_0.out; have hnc17 := NB0_141.out; have hcz18_0 : w14.cell? ⟨gb141, 0, none⟩ = some (.int .u64 0) := (blk_cell BK141.out 0).trans rfl; have hcz18_1 : w14.cell? ⟨gb141, 1, none⟩ = some (.int .u16 0) := (blk_cell BK141.out 1).trans rfl; have hcz18_2 : w14.cell? ⟨gb141, 2, none⟩ = some (.int .i64 0) := (blk_cell BK141.out 2).trans rfl; have hcz18_3 : w14.cell? ⟨gb141, 3, none⟩ = some (.int .i64 0) := (blk_cell BK141.out 3).trans rfl; have hcz18_4 : w14.cell? ⟨gb141, 4, none⟩ = some (.int .i64 0) := (blk_cell BK141.out 4).trans rfl; have hcz18_5 : w14.cell? ⟨gb141, 5, none⟩ = some (.int .i64 0) := (blk_cell BK141.out 5).trans rfl; have hcz18_6 : w14.cell? ⟨gb141, 6, none⟩ = some (.int .i64 0) := (blk_cell BK141.out 6).trans rfl; have hcz18_7 : w14.cell? ⟨gb141, 7, none⟩ = some (.slice none 0 0) := (blk_cell BK141.out 7).trans rfl; have hfz18_0 := blk_frozen BK141.out 0; have hfz18_1 := blk_frozen BK141.out 1; have hfz18_2 := blk_frozen BK141.out 2; have hfz18_3 := blk_frozen BK141.out 3; have hfz18_4 := blk_frozen BK141.out 4; have hfz18_5 := blk_frozen BK141.out 5; have hfz18_6 := blk_frozen BK141.out 6; have hfz18_7 := blk_frozen BK141.out 7; obtain ⟨Ao19, co19, eo19⟩ := Kd.R_slice HO139.out; subst eo19) | (go_at_call 29; (with_reducible refine (script_reader_conf.calls k1 g s0_0 x1001_1 x17_1 t130 t131 t132 t133 t134 t135 t136 t137 t140 w0 _ ?side1 ?side2 A12.out).mono ?_); (case side1 => repeat (first | (with_reducible first | exact HI0.out | apply IsS54.alloc | apply IsS54.drewN | apply IsS54.drew | apply IsS54.set_1 | refine IsS54.far ?_ NB0_124.out _ | refine IsS54.far ?_ NB0_127.out _) | exact HI0.out)); (case side2 => repeat (first | (with_reducible first | exact HB.out | apply below_alloc | apply pw_below_drewN | apply below_drew1 | refine below_set ?_ (IsS54.ge HI0.out) | refine below_set ?_ GE124.out | refine below_set ?_ GE127.out) | exact HB.out)); rintro e w13 ⟨v138, rfl, ho0, hi, hb, hk⟩; have n0_ := Aside0.mk (Kd.N_mono (Kd.N_told (Kd.N_oldK (Kd.N_mono (ok := fun k_ => (((w.heap.size ≤ k_)) ∧ (some k_ ≠ (u128002 : Value).ownBlock ∧ (k_ ≠ gb124 ∧ (k_ ≠ gb127 ∧ k_ ≠ g))))) (by (with_reducible repeat (first | apply Kd.N_alloc | apply Kd.N_drewN | apply Kd.N_drew)); exact HO_128001.out) (fun k_ hk_ => (⟨hk_, hk_.2.2.2.2⟩ : _ ∧ k_ ≠ g))) hk) (Kd.R_base ho0)) (fun _ h_ => h_.1)); have n1_ := Aside0.mk (Kd.N_mono (Kd.N_told (Kd.N_oldK (Kd.N_mono (ok := fun k_ => (((w.heap.size ≤ k_)) ∧ (some k_ ≠ (u128001 : Value).ownBlock ∧ (k_ ≠ gb124 ∧ (k_ ≠ gb127 ∧ k_ ≠ g))))) (by (with_reducible repeat (first | apply Kd.N_alloc | apply Kd.N_drewN | apply Kd.N_drew)); exact HO_128002.out) (fun k_ hk_ => (⟨hk_, hk_.2.2.2.2⟩ : _ ∧ k_ ≠ g))) hk) (Kd.R_base ho0)) (fun _ h_ => h_.1)); have n2_ := Aside0.mk (KeepBut.blk hk (g' := gb124) (o := .cells #[.int .i64 0, .slice none 0 0, .slice none 0 0, .slice none 0 0] 28 (0, 0)) (by (with_reducible repeat (first | refine blk_drewN ?_ _ | refine blk_drew ?_ | refine blk_alloc ?_ _)); exact BK124.out) NB124_0.out (by simp)); have n3_ := Aside0.mk (KeepBut.blk hk (g' := gb127) (o := .cells #[.int .i64 (wrap64 (1 + (Int.tmod t125 5))), u128001, u128002, .slice none 0 0] 28 (0, 0)) (by (with_reducible repeat (first | refine blk_drewN ?_ _ | refine blk_drew ?_ | refine blk_alloc ?_ _)); exact BK127.out) NB127_0.out (by simp)); have n4_ := Aside0.mk (Kd.R_lower (Kd.R_newM (M := fun k_ => (w.heap.size ≤ k_)) ho0 (keep_size (w := w) (g := g) (row := none) (by repeat (first | (with_reducible first | exact HK.out | apply KeepBut.set_ | apply keep_drewN | apply keep_drew | apply keep_alloc | refine keep_far ?_ GW124.out _ | refine keep_far ?_ GW127.out _) | exact HK.out))) (fun k_ h_ => h_)) (keep_size (w := w) (g := g) (row := none) (by repeat (first | (with_reducible first | exact HK.out | apply KeepBut.set_ | apply keep_drewN | apply keep_drew | apply keep_alloc | refine keep_far ?_ GW124.out _ | refine keep_far ?_ GW127.out _) | exact HK.out)))); have n5_ := Aside0.mk (KeepBut.trans (by repeat (first | (with_reducible first | exact HK.out | apply KeepBut.set_ | apply keep_drewN | apply keep_drew | apply keep_alloc | refine keep_far ?_ GW124.out _ | refine keep_far ?_ GW127.out _) | exact HK.out)) hk (.inl rfl)); have n6_ := Aside0.mk (hb); have n7_ := Aside0.mk (hi); clear HO_128001; clear HO_128002; clear BK124; clear BK127; clear HK; clear HB; clear HI0; have HO_128001 := n0_; have HO_128002 := n1_; have BK124 := n2_; have BK127 := n3_; have HO139 := n4_; have HK := n5_; have HB := n6_; have HI0 := n7_; clear n0_ n1_ n2_ n3_ n4_ n5_ n6_ n7_; (try clear hb); (try clear hb2); (try clear hk); (try clear hi); (try clear ho0)))
 go_loopg [6, 26] k1 (fun kq v6 v26 w' => ∃ (x6_2 : List Int) (x26_2 : Int) (x1001_2 : Int), v26 = .int .i64 x26_2 ∧ Aside0 (script_reader_topo.l1 kq x6_2 (wrap64 (1 + (Int.tmod t128 4))) x17_1 (t137.length : Int) x26_2 s0_0 x1001_2 (wrap64 (1 + (Int.tmod t125 5))) x128001_1 x128002_1 t130 t131 t132 t133 t134 t135 t136 t137 = some (r1, r2, r3, r4, r5)) ∧ Aside0 (kq ≤ k1) ∧ Aside0 (Kd.R (Kd.int .i64) 3 w' w.heap.size (fun k_ => (w.heap.size ≤ k_)) v6 x6_2) ∧ Aside0 (Kd.N k51 51 w' w.heap.size (fun k_ => (w.heap.size ≤ k_) ∧ some k_ ≠ (v6 : Value).ownBlock ∧ some k_ ≠ (u128002 : Value).ownBlock ∧ some k_ ≠ ((.slice Ao19 t137.length co19) : Value).ownBlock ∧ k_ ≠ gb124 ∧ k_ ≠ gb127 ∧ k_ ≠ gb141 ∧ k_ ≠ g) u128001 x128001_1) ∧ Aside0 (Kd.N (Kd.slice 3 (Kd.int .i64)) 64 w' w.heap.size (fun k_ => (w.heap.size ≤ k_) ∧ some k_ ≠ (v6 : Value).ownBlock ∧ some k_ ≠ (u128001 : Value).ownBlock ∧ some k_ ≠ ((.slice Ao19 t137.length co19) : Value).ownBlock ∧ k_ ≠ gb124 ∧ k_ ≠ gb127 ∧ k_ ≠ gb141 ∧ k_ ≠ g) u128002 x128002_1) ∧ Aside0 (Kd.R k63 63 w' w.heap.size (fun k_ => (w.heap.size ≤ k_)) (.slice Ao19 t137.length co19) t137) ∧ Aside0 (w'.heap[gb124]? = some (.cells #[.int .i64 0, (.slice none 0 0), (.slice none 0 0), (.slice none 0 0)] 28 (0, 0))) ∧ Aside0 (w'.heap[gb127]? = some (.cells #[.int .i64 (wrap64 (1 + (Int.tmod t125 5))), u128001, u128002, (.slice none 0 0)] 28 (0, 0))) ∧ Aside0 (w'.heap[gb141]? = some (.cells #[.int .u64 t130, .int .u16 t131, .int .i64 t132, .int .i64 t133, .int .i64 t134, .int .i64 t135, .int .i64 t136, (.slice Ao19 t137.length co19)] 51 (0, 0))) ∧ Aside0 (IsS54 w0 w' g s0_0 x1001_2) ∧ Aside0 (KeepBut w w' g none) ∧ Aside0 (Below w0.heap.size w0 w'))
 case atStart => exact ⟨(([] : List Int)), (0), (t140), (by first | rfl | (simp; done) | (simp [*]; done)), H', ⟨Nat.le_refl _⟩, ⟨by first | exact Kd.R_nil _ _ _ _ _ | exact Kd.N_nil _ _ _ _ _ | exact Kd.V_nil _ _ _ _ _ | exact Kd.Q_nil _ _ _ _ _ | exact Kd.S_nil _ _ _ _ _⟩, ⟨by (with_reducible repeat (first | apply Kd.N_alloc | apply Kd.N_drewN | apply Kd.N_drew)); exact Kd.N_mono (Kd.N_far (p := ⟨gb141, 7, none⟩) (Kd.N_far (p := ⟨gb141, 6, none⟩) (Kd.N_far (p := ⟨gb141, 5, none⟩) (Kd.N_far (p := ⟨gb141, 4, none⟩) (Kd.N_far (p := ⟨gb141, 3, none⟩) (Kd.N_far (p := ⟨gb141, 2, none⟩) (Kd.N_far (p := ⟨gb141, 1, none⟩) (Kd.N_far (p := ⟨gb141, 0, none⟩) (Kd.N_mono HO_128001.out (fun k_ hk => (⟨hk, hk.2⟩ : _ ∧ k_ ≠ gb141))) (fun _ hk => hk.2) (.int .u64 t130)) (fun _ hk => hk.2) (.int .u16 t131)) (fun _ hk => hk.2) (.int .i64 t132)) (fun _ hk => hk.2) (.int .i64 t133)) (fun _ hk => hk.2) (.int .i64 t134)) (fun _ hk => hk.2) (.int .i64 t135)) (fun _ hk => hk.2) (.int .i64 t136)) (fun _ hk => hk.2) (.slice Ao19 t137.length co19)) (fun _ hk => ⟨hk.1.1.1.1, ⟨(by simp [Value.ownBlock]), ⟨hk.1.1.1.2.1, ⟨hk.1.1.2, ⟨hk.1.1.1.2.2.1, ⟨hk.1.1.1.2.2.2.1, ⟨hk.1.2, hk.1.1.1.2.2.2.2⟩⟩⟩⟩⟩⟩⟩)⟩, ⟨by (with_reducible repeat (first | apply Kd.N_alloc | apply Kd.N_drewN | apply Kd.N_drew)); exact Kd.N_mono (Kd.N_far (p := ⟨gb141, 7, none⟩) (Kd.N_far (p := ⟨gb141, 6, none⟩) (Kd.N_far (p := ⟨gb141, 5, none⟩) (Kd.N_far (p := ⟨gb141, 4, none⟩) (Kd.N_far (p := ⟨gb141, 3, none⟩) (Kd.N_far (p := ⟨gb141, 2, none⟩) (Kd.N_far (p := ⟨gb141, 1, none⟩) (Kd.N_far (p := ⟨gb141, 0, none⟩) (Kd.N_mono HO_128002.out (fun k_ hk => (⟨hk, hk.2⟩ : _ ∧ k_ ≠ gb141))) (fun _ hk => hk.2) (.int .u64 t130)) (fun _ hk => hk.2) (.int .u16 t131)) (fun _ hk => hk.2) (.int .i64 t132)) (fun _ hk => hk.2) (.int .i64 t133)) (fun _ hk => hk.2) (.int .i64 t134)) (fun _ hk => hk.2) (.int .i64 t135)) (fun _ hk => hk.2) (.int .i64 t136)) (fun _ hk => hk.2) (.slice Ao19 t137.length co19)) (fun _ hk => ⟨hk.1.1.1.1, ⟨(by simp [Value.ownBlock]), ⟨hk.1.1.1.2.1, ⟨hk.1.1.2, ⟨hk.1.1.1.2.2.1, ⟨hk.1.1.1.2.2.2.1, ⟨hk.1.2, hk.1.1.1.2.2.2.2⟩⟩⟩⟩⟩⟩⟩)⟩, ⟨by (with_reducible repeat (first | apply Kd.R_alloc | apply Kd.R_drewN | apply Kd.R_drew)); exact Kd.R_mono (Kd.R_far (p := ⟨gb141, 7, none⟩) (Kd.R_far (p := ⟨gb141, 6, none⟩) (Kd.R_far (p := ⟨gb141, 5, none⟩) (Kd.R_far (p := ⟨gb141, 4, none⟩) (Kd.R_far (p := ⟨gb141, 3, none⟩) (Kd.R_far (p := ⟨gb141, 2, none⟩) (Kd.R_far (p := ⟨gb141, 1, none⟩) (Kd.R_far (p := ⟨gb141, 0, none⟩) (Kd.R_types HO139.out BK141.out (by decide)) (fun _ hk => hk.2) (.int .u64 t130)) (fun _ hk => hk.2) (.int .u16 t131)) (fun _ hk => hk.2) (.int .i64 t132)) (fun _ hk => hk.2) (.int .i64 t133)) (fun _ hk => hk.2) (.int .i64 t134)) (fun _ hk => hk.2) (.int .i64 t135)) (fun _ hk => hk.2) (.int .i64 t136)) (fun _ hk => hk.2) (.slice Ao19 t137.length co19)) (fun _ hk => hk.1.1)⟩, ⟨by (with_reducible repeat (first | refine blk_drewN ?_ _ | refine blk_drew ?_ | refine blk_alloc ?_ _)); refine blk_far ?_ NB124_141.out _; (with_reducible repeat (first | refine blk_drewN ?_ _ | refine blk_drew ?_ | refine blk_alloc ?_ _)); refine blk_far ?_ NB124_141.out _; (with_reducible repeat (first | refine blk_drewN ?_ _ | refine blk_drew ?_ | refine blk_alloc ?_ _)); refine blk_far ?_ NB124_141.out _; (with_reducible repeat (first | refine blk_drewN ?_ _ | refine blk_drew ?_ | refine blk_alloc ?_ _)); refine blk_far ?_ NB124_141.out _; (with_reducible repeat (first | refine blk_drewN ?_ _ | refine blk_drew ?_ | refine blk_alloc ?_ _)); refine blk_far ?_ NB124_141.out _; (with_reducible repeat (first | refine blk_drewN ?_ _ | refine blk_drew ?_ | refine blk_alloc ?_ _)); refine blk_far ?_ NB124_141.out _; (with_reducible repeat (first | refine blk_drewN ?_ _ | refine blk_drew ?_ | refine blk_alloc ?_ _)); refine blk_far ?_ NB124_141.out _; (with_reducible repeat (first | refine blk_drewN ?_ _ | refine blk_drew ?_ | refine blk_alloc ?_ _)); refine blk_far ?_ NB124_141.out _; (with_reducible repeat (first | refine blk_drewN ?_ _ | refine blk_drew ?_ | refine blk_alloc ?_ _)); exact BK124.out⟩, ⟨by (with_reducible repeat (first | refine blk_drewN ?_ _ | refine blk_drew ?_ | refine blk_alloc ?_ _)); refine blk_far ?_ NB127_141.out _; (with_reducible repeat (first | refine blk_drewN ?_ _ | refine blk_drew ?_ | refine blk_alloc ?_ _)); refine blk_far ?_ NB127_141.out _; (with_reducible repeat (first | refine blk_drewN ?_ _ | refine blk_drew ?_ | refine blk_alloc ?_ _)); refine blk_far ?_ NB127_141.out _; (with_reducible repeat (first | refine blk_drewN ?_ _ | refine blk_drew ?_ | refine blk_alloc ?_ _)); refine blk_far ?_ NB127_141.out _; (with_reducible repeat (first | refine blk_drewN ?_ _ | refine blk_drew ?_ | refine blk_alloc ?_ _)); refine blk_far ?_ NB127_141.out _; (with_reducible repeat (first | refine blk_drewN ?_ _ | refine blk_drew ?_ | refine blk_alloc ?_ _)); refine blk_far ?_ NB127_141.out _; (with_reducible repeat (first | refine blk_drewN ?_ _ | refine blk_drew ?_ | refine blk_alloc ?_ _)); refine blk_far ?_ NB127_141.out _; (with_reducible repeat (first | refine blk_drewN ?_ _ | refine blk_drew ?_ | refine blk_alloc ?_ _)); refine blk_far ?_ NB127_141.out _; (with_reducible repeat (first | refine blk_drewN ?_ _ | refine blk_drew ?_ | refine blk_alloc ?_ _)); exact BK127.out⟩, ⟨by (with_reducible repeat (first | refine blk_drewN ?_ _ | refine blk_drew ?_ | refine blk_alloc ?_ _)); refine blk_put (cs := #[.int .u64 t130, .int .u16 t131, .int .i64 t132, .int .i64 t133, .int .i64 t134, .int .i64 t135, .int .i64 t136, .slice none 0 0]) ?_ 7 _ rfl; (with_reducible repeat (first | refine blk_drewN ?_ _ | refine blk_drew ?_ | refine blk_alloc ?_ _)); refine blk_put (cs := #[.int .u64 t130, .int .u16 t131, .int .i64 t132, .int .i64 t133, .int .i64 t134, .int .i64 t135, .int .i64 0, .slice none 0 0]) ?_ 6 _ rfl; (with_reducible repeat (first | refine blk_drewN ?_ _ | refine blk_drew ?_ | refine blk_alloc ?_ _)); refine blk_put (cs := #[.int .u64 t130, .int .u16 t131, .int .i64 t132, .int .i64 t133, .int .i64 t134, .int .i64 0, .int .i64 0, .slice none 0 0]) ?_ 5 _ rfl; (with_reducible repeat (first | refine blk_drewN ?_ _ | refine blk_drew ?_ | refine blk_alloc ?_ _)); refine blk_put (cs := #[.int .u64 t130, .int .u16 t131, .int .i64 t132, .int .i64 t133, .int .i64 0, .int .i64 0, .int .i64 0, .slice none 0 0]) ?_ 4 _ rfl; (with_reducible repeat (first | refine blk_drewN ?_ _ | refine blk_drew ?_ | refine blk_alloc ?_ _)); refine blk_put (cs := #[.int .u64 t130, .int .u16 t131, .int .i64 t132, .int .i64 0, .int .i64 0, .int .i64 0, .int .i64 0, .slice none 0 0]) ?_ 3 _ rfl; (with_reducible repeat (first | refine blk_drewN ?_ _ | refine blk_drew ?_ | refine blk_alloc ?_ _)); refine blk_put (cs := #[.int .u64 t130, .int .u16 t131, .int .i64 0, .int .i64 0, .int .i64 0, .int .i64 0, .int .i64 0, .slice none 0 0]) ?_ 2 _ rfl; (with_reducible repeat (first | refine blk_drewN ?_ _ | refine blk_drew ?_ | refine blk_alloc ?_ _)); refine blk_put (cs := #[.int .u64 t130, .int .u16 0, .int .i64 0, .int .i64 0, .int .i64 0, .int .i64 0, .int .i64 0, .slice none 0 0]) ?_ 1 _ rfl; (with_reducible repeat (first | refine blk_drewN ?_ _ | refine blk_drew ?_ | refine blk_alloc ?_ _)); refine blk_put (cs := #[.int .u64 0, .int .u16 0, .int .i64 0, .int .i64 0, .int .i64 0, .int .i64 0, .int .i64 0, .slice none 0 0]) ?_ 0 _ rfl; (with_reducible repeat (first | refine blk_drewN ?_ _ | refine blk_drew ?_ | refine blk_alloc ?_ _)); exact BK141.out⟩, ⟨by repeat (first | (with_reducible first | exact HI0.out | apply IsS54.alloc | apply IsS54.drewN | apply IsS54.drew | apply IsS54.set_1 | refine IsS54.far ?_ NB0_124.out _ | refine IsS54.far ?_ NB0_127.out _ | refine IsS54.far ?_ NB0_141.out _) | exact HI0.out)⟩, ⟨by repeat (first | (with_reducible first | exact HK.out | apply KeepBut.set_ | apply keep_drewN | apply keep_drew | apply keep_alloc | refine keep_far ?_ GW124.out _ | refine keep_far ?_ GW127.out _ | refine keep_far ?_ GW141.out _) | exact HK.out)⟩, ⟨by repeat (first | (with_reducible first | exact HB.out | apply below_alloc | apply pw_below_drewN | apply below_drew1 | refine below_set ?_ (IsS54.ge HI0.out) | refine below_set ?_ GE124.out | refine below_set ?_ GE127.out | refine below_set ?_ GE141.out) | exact HB.out)⟩⟩
 clear H'
 try clear c1
 try clear c2
 try clear p2
 try clear p6
 try clear c7
 try clear c8
 try clear c11
 try clear c11b0
 try clear c15
 try clear c16
 try clear c17
 try clear hcz18_0
 try clear hcz18_1
 try clear hcz18_2
 try clear hcz18_3
 try clear hcz18_4
 try clear hcz18_5
 try clear hcz18_6
 try clear hcz18_7
 try clear hcz9_0
 try clear hcz9_1
 try clear hcz9_2
 try clear hcz9_3
 try clear hfz18_0
 try clear hfz18_1
 try clear hfz18_2
 try clear hfz18_3
 try clear hfz18_4
 try clear hfz18_5
 try clear hfz18_6
 try clear hfz18_7
 try clear hfz9_0
 try clear hfz9_1
 try clear hfz9_2
 try clear hfz9_3
 try clear p2
 try clear p6
 obtain ⟨x6_2, x26_2, x1001_2, rfl, HA, HK2, HO_6, HO_128001, HO_128002, HO_142007, BK124, BK127, BK141, HI0, HK, HB⟩ := hrel
 cases gk with
 | zero => exact absurd HA.out (by simp [script_reader_topo.l1])
 | succ k2 => ?_
 have H := HA.out
 clear HA
 simp only [script_reader_topo.l1] at H
 by_cases c20 : x26_2 < (t137.length : Int)
 ·rw [if_pos c20] at H
  have c20b0 : decide (x26_2 < (t137.length : Int)) = true := decide_eq_true c20
  clear c20
  replace H := Option.bind_eq_some_iff.mp H
  obtain ⟨⟨t142, t143⟩, A210, H⟩ := H
  replace H : (if (wrap64 (1 + (Int.tmod t125 5))) = 0 then (none) else ((some (([Int.tmod t142 (wrap64 (1 + (Int.tmod t125 5)))] : List Int) : List Int)).bind fun y144 => (if x6_2.length + y144.length < 17592186044416 then (script_reader_topo.l1 k2 (x6_2 ++ y144) (wrap64 (1 + (Int.tmod t128 4))) x17_1 (t137.length : Int) (wrap64 (x26_2 + 1)) s0_0 t143 (wrap64 (1 + (Int.tmod t125 5))) x128001_1 x128002_1 t130 t131 t132 t133 t134 t135 t136 t137) else (none)))) = some (r1, r2, r3, r4, r5) := H
  have A21 := Aside0.mk A210
  clear A210
  by_cases c22 : (wrap64 (1 + (Int.tmod t125 5))) = 0
  ·rw [if_pos c22] at H
   exact absurd H (by simp)
  rw [if_neg c22] at H
  have c22b0 : ((wrap64 (1 + (Int.tmod t125 5))) == 0) = false := beq_eq_false_iff_ne.mpr c22
  have c22b1 : ((wrap64 (1 + (Int.tmod t125 5))) != 0) = true := bne_iff_ne.mpr c22
  obtain ⟨y144, hy144⟩ : ∃ y_ : List Int, y_ = (([Int.tmod t142 (wrap64 (1 + (Int.tmod t125 5)))] : List Int)) := ⟨_, rfl⟩
  replace H : (if x6_2.length + y144.length < 17592186044416 then (script_reader_topo.l1 k2 (x6_2 ++ y144) (wrap64 (1 + (Int.tmod t128 4))) x17_1 (t137.length : Int) (wrap64 (x26_2 + 1)) s0_0 t143 (wrap64 (1 + (Int.tmod t125 5))) x128001_1 x128002_1 t130 t131 t132 t133 t134 t135 t136 t137) else (none)) = some (r1, r2, r3, r4, r5) := by first | (rw [hy144]; with_reducible exact H) | (have H2_ := (Option.bind_some _ _).symm.trans H; rw [hy144]; with_reducible exact H2_) | (have H2_ := (Option.bind_some _ _).symm.trans H; with_reducible exact H2_) | with_reducible exact H | (rw [hy144]; exact H) | exact H
  have Ny144 := Aside0.mk hy144
  clear hy144
  by_cases c23 : x6_2.length + y144.length < 17592186044416
  rotate_left
  ·rw [if_neg c23] at H
   exact absurd H (by simp)
  rw [if_pos c23] at H
  have LMc23 := Aside0.mk c23
  clear c23
  obtain ⟨y147, hy147⟩ : ∃ y_ : List Int, y_ = (x6_2 ++ y144) := ⟨_, rfl⟩
  replace H : (script_reader_topo.l1 k2 y147 (wrap64 (1 + (Int.tmod t128 4))) x17_1 (t137.length : Int) (wrap64 (x26_2 + 1)) s0_0 t143 (wrap64 (1 + (Int.tmod t125 5))) x128001_1 x128002_1 t130 t131 t132 t133 t134 t135 t136 t137) = some (r1, r2, r3, r4, r5) := by first | (rw [hy147]; with_reducible exact H) | (have H2_ := (Option.bind_some _ _).symm.trans H; rw [hy147]; with_reducible exact H2_) | (have H2_ := (Option.bind_some _ _).symm.trans H; with_reducible exact H2_) | with_reducible exact H | (rw [hy147]; exact H) | exact H
  have Ny147 := Aside0.mk hy147
  clear hy147
  have H' := Aside0.mk H
  clear H
  try go_wp2
  have n0_ := Aside0.mk (Kd.R_drew HO_6.out)
  have n1_ := Aside0.mk (Kd.N_drew HO_128001.out)
  have n2_ := Aside0.mk (Kd.N_drew HO_128002.out)
  have n3_ := Aside0.mk (Kd.R_drew HO_142007.out)
  have n4_ := Aside0.mk (blk_drew BK124.out)
  have n5_ := Aside0.mk (blk_drew BK127.out)
  have n6_ := Aside0.mk (blk_drew BK141.out)
  have n7_ := Aside0.mk (IsS54.drew HI0.out)
  have n8_ := Aside0.mk (keep_drew HK.out)
  have n9_ := Aside0.mk (below_drew1 HB.out)
  clear HO_6
  clear HO_128001
  clear HO_128002
  clear HO_142007
  clear BK124
  clear BK127
  clear BK141
  clear HI0
  clear HK
  clear HB
  have HO_6 := n0_
  have HO_128001 := n1_
  have HO_128002 := n2_
  have HO_142007 := n3_
  have BK124 := n4_
  have BK127 := n5_
  have BK141 := n6_
  have HI0 := n7_
  have HK := n8_
  have HB := n9_
  clear n0_ n1_ n2_ n3_ n4_ n5_ n6_ n7_ n8_ n9_
  refine start_ (n := 9) (S := fun w' => w'.cell? ⟨gb127, 0, none⟩ = some (.int .i64 (wrap64 (1 + (Int.tmod t125 5)))) ∧ w'.cell? ⟨gb127, 1, none⟩ = some (u128001) ∧ w'.cell? ⟨gb127, 2, none⟩ = some (u128002) ∧ w'.cell? ⟨gb127, 3, none⟩ = some (.slice none 0 0)) (ds := []) #[false, false, false, false, false, false, false, false, false] (by kernel_rfl) rfl rfl ⟨(blk_cell BK127.out 0).trans rfl, (blk_cell BK127.out 1).trans rfl, (blk_cell BK127.out 2).trans rfl, (blk_cell BK127.out 3).trans rfl⟩ (fun hHeld => ?_); refine with_tabW script_reader_topo.tab9 script_reader_topo.bits9 (fun HT_ HW_ => ?_)
  generalize wr.drew = w24 at HO_6 HO_128001 HO_128002 HO_142007 BK124 BK127 BK141 HI0 HK HB hHeld ⊢
  refine pure_ (i := 0) (N := some 28) (v := ?_) (a' := ?_) #[true, false, false, false, false, false, false, false, false] rfl rfl (any_of HT_.out (by kernel_rfl)) (fun _ _ _ h => h) (Or.inl ⟨by rfl, ?_⟩) ?_ ?_
  rotate_left
  ·intro w'
   go_simp
   with_reducible rfl
  rotate_left
  ·simp only [Act.put, List.setIfInBounds_toArray, List.set_cons_zero, List.set_cons_succ, i64_w, i32_w]
   rfl
  refine pure_ (i := 1) (N := some 29) (v := ?_) (a' := ?_) #[true, true, false, false, false, false, false, false, false] rfl rfl (any_of HT_.out (by kernel_rfl)) (fun _ _ _ h => h) (Or.inl ⟨by rfl, ?_⟩) ?_ ?_
  rotate_left
  ·intro w'
   go_simp
   with_reducible rfl
  rotate_left
  ·simp only [Act.put, List.setIfInBounds_toArray, List.set_cons_zero, List.set_cons_succ, i64_w, i32_w]
   rfl
  refine pure_ (i := 3) (N := some 31) (v := ?_) (a' := ?_) #[true, true, false, true, false, false, false, false, false] rfl rfl (any_of HT_.out (by kernel_rfl)) (fun _ _ _ h => h) (Or.inl ⟨by rfl, ?_⟩) ?_ ?_
  rotate_left
  ·intro w'
   go_simp
   with_reducible rfl
  rotate_left
  ·simp only [Act.put, List.setIfInBounds_toArray, List.set_cons_zero, List.set_cons_succ, i64_w, i32_w]
   rfl
  refine take_ (i := 4) (N := some 32) (v := ?_) (a' := ?_) #[true, true, false, true, true, false, false, false, false] rfl rfl (take_ofW HT_.out HW_.out (by kernel_rfl)) (fun _ _ _ h => h) (Or.inl ⟨by rfl, ?_⟩) hHeld ?_ ?_
  rotate_left
  ·rintro w' ⟨s0, s1, s2, s3⟩
   go_simp
   with_reducible rfl
  rotate_left
  ·simp only [Act.put, List.setIfInBounds_toArray, List.set_cons_zero, List.set_cons_succ, i64_w, i32_w]
   rfl
  refine one_ (i := 2) (N := some 30) #[true, true, true, true, true, false, false, false, false] rfl rfl (one_of HT_.out (by kernel_rfl)) (by decide) (fun K hK => ?_)
  refine goes_ Tryd.func28 (by kernel_rfl) rfl #[.pointer (some ⟨g, 0, none⟩)] (by rfl) rfl rfl (by (try simp only [List.map_toArray, List.map_cons, List.map_nil]); first | done | rfl | (simp only [List.length_drop, List.length_take]; rfl)) ?_
  with_reducible refine (script_reader_next.calls g s0_0 x1001_2 t142 t143 w0 _ ?side1 ?side2 A21.out).mono ?_
  (case side1 => repeat (first | (with_reducible first | exact HI0.out | apply IsS54.alloc | apply IsS54.drewN | apply IsS54.drew | apply IsS54.set_1 | refine IsS54.far ?_ NB0_124.out _ | refine IsS54.far ?_ NB0_127.out _ | refine IsS54.far ?_ NB0_141.out _) | exact HI0.out))
  (case side2 => repeat (first | (with_reducible first | exact HB.out | apply below_alloc | apply pw_below_drewN | apply below_drew1 | refine below_set ?_ (IsS54.ge HI0.out) | refine below_set ?_ GE124.out | refine below_set ?_ GE127.out | refine below_set ?_ GE141.out) | exact HB.out))
  rintro e w25 ⟨rfl, hi, hb, hk⟩
  refine ⟨_, rfl, ?_⟩
  have n0_ := Aside0.mk (Kd.R_mono (Kd.R_keep (IsS54.apart (show IsS54 w0 _ g s0_0 x1001_2 from by repeat (first | (with_reducible first | exact HI0.out | apply IsS54.alloc | apply IsS54.drewN | apply IsS54.drew | apply IsS54.set_1 | refine IsS54.far ?_ NB0_124.out _ | refine IsS54.far ?_ NB0_127.out _ | refine IsS54.far ?_ NB0_141.out _) | exact HI0.out)) (by (with_reducible repeat (first | apply Kd.R_alloc | apply Kd.R_drewN | apply Kd.R_drew)); exact HO_6.out) (by decide)) hk (fun _ h => h.2)) (fun _ h => h.1))
  have n1_ := Aside0.mk (Kd.N_mono (Kd.N_keep (Kd.N_mono (ok := fun k_ => (((w.heap.size ≤ k_)) ∧ (some k_ ≠ (u6 : Value).ownBlock ∧ (some k_ ≠ (u128002 : Value).ownBlock ∧ (some k_ ≠ (.slice Ao19 t137.length co19 : Value).ownBlock ∧ (k_ ≠ gb124 ∧ (k_ ≠ gb127 ∧ (k_ ≠ gb141 ∧ k_ ≠ g)))))))) (by (with_reducible repeat (first | apply Kd.N_alloc | apply Kd.N_drewN | apply Kd.N_drew)); exact HO_128001.out) (fun k_ hk_ => (⟨hk_, hk_.2.2.2.2.2.2.2⟩ : _ ∧ k_ ≠ g))) hk (fun _ h => h.2)) (fun _ h => h.1))
  have n2_ := Aside0.mk (Kd.N_mono (Kd.N_keep (Kd.N_mono (ok := fun k_ => (((w.heap.size ≤ k_)) ∧ (some k_ ≠ (u6 : Value).ownBlock ∧ (some k_ ≠ (u128001 : Value).ownBlock ∧ (some k_ ≠ (.slice Ao19 t137.length co19 : Value).ownBlock ∧ (k_ ≠ gb124 ∧ (k_ ≠ gb127 ∧ (k_ ≠ gb141 ∧ k_ ≠ g)))))))) (by (with_reducible repeat (first | apply Kd.N_alloc | apply Kd.N_drewN | apply Kd.N_drew)); exact HO_128002.out) (fun k_ hk_ => (⟨hk_, hk_.2.2.2.2.2.2.2⟩ : _ ∧ k_ ≠ g))) hk (fun _ h => h.2)) (fun _ h => h.1))
  have n3_ := Aside0.mk (Kd.R_mono (Kd.R_keep (IsS54.apart (show IsS54 w0 _ g s0_0 x1001_2 from by repeat (first | (with_reducible first | exact HI0.out | apply IsS54.alloc | apply IsS54.drewN | apply IsS54.drew | apply IsS54.set_1 | refine IsS54.far ?_ NB0_124.out _ | refine IsS54.far ?_ NB0_127.out _ | refine IsS54.far ?_ NB0_141.out _) | exact HI0.out)) (by (with_reducible repeat (first | apply Kd.R_alloc | apply Kd.R_drewN | apply Kd.R_drew)); exact HO_142007.out) (by decide)) hk (fun _ h => h.2)) (fun _ h => h.1))
  have n4_ := Aside0.mk (KeepBut.blk hk (g' := gb124) (o := .cells #[.int .i64 0, .slice none 0 0, .slice none 0 0, .slice none 0 0] 28 (0, 0)) (by (with_reducible repeat (first | refine blk_drewN ?_ _ | refine blk_drew ?_ | refine blk_alloc ?_ _)); exact BK124.out) NB124_0.out (by simp))
  have n5_ := Aside0.mk (KeepBut.blk hk (g' := gb127) (o := .cells #[.int .i64 (wrap64 (1 + (Int.tmod t125 5))), u128001, u128002, .slice none 0 0] 28 (0, 0)) (by (with_reducible repeat (first | refine blk_drewN ?_ _ | refine blk_drew ?_ | refine blk_alloc ?_ _)); exact BK127.out) NB127_0.out (by simp))
  have n6_ := Aside0.mk (KeepBut.blk hk (g' := gb141) (o := .cells #[.int .u64 t130, .int .u16 t131, .int .i64 t132, .int .i64 t133, .int .i64 t134, .int .i64 t135, .int .i64 t136, .slice Ao19 t137.length co19] 51 (0, 0)) (by (with_reducible repeat (first | refine blk_drewN ?_ _ | refine blk_drew ?_ | refine blk_alloc ?_ _)); exact BK141.out) NB141_0.out (by simp))
  have n7_ := Aside0.mk (KeepBut.trans (by repeat (first | (with_reducible first | exact HK.out | apply KeepBut.set_ | apply keep_drewN | apply keep_drew | apply keep_alloc | refine keep_far ?_ GW124.out _ | refine keep_far ?_ GW127.out _ | refine keep_far ?_ GW141.out _) | exact HK.out)) hk (.inl rfl))
  have n8_ := Aside0.mk (hb)
  have n9_ := Aside0.mk (hi)
  clear HO_6
  clear HO_128001
  clear HO_128002
  clear HO_142007
  clear BK124
  clear BK127
  clear BK141
  clear HK
  clear HB
  clear HI0
  have HO_6 := n0_
  have HO_128001 := n1_
  have HO_128002 := n2_
  have HO_142007 := n3_
  have BK124 := n4_
  have BK127 := n5_
  have BK141 := n6_
  have HK := n7_
  have HB := n8_
  have HI0 := n9_
  clear n0_ n1_ n2_ n3_ n4_ n5_ n6_ n7_ n8_ n9_
  (try clear hb)
  (try clear hb2)
  (try clear hk)
  (try clear hi)
  refine hK.out _ _ ⟨(blk_cell BK127.out 0).trans rfl, (blk_cell BK127.out 1).trans rfl, (blk_cell BK127.out 2).trans rfl, (blk_cell BK127.out 3).trans rfl⟩ (fun hHeld => ?_)
  clear hK K
  refine norm_ (a' := ?_) ?_ ?_
  rotate_left
  ·show Act.put _ (some 30) _ = _
   simp only [Act.put, List.setIfInBounds_toArray, List.set_cons_zero, List.set_cons_succ, i64_w, i32_w]
   rfl
  refine pure_ (i := 5) (N := some 33) (v := ?_) (a' := ?_) #[true, true, true, true, true, true, false, false, false] rfl rfl (any_of HT_.out (by kernel_rfl)) (fun _ _ _ h => h) (Or.inl ⟨by rfl, ?_⟩) ?_ ?_
  rotate_left
  ·intro w'
   go_simp
   with_reducible rfl
  rotate_left
  ·simp only [Act.put, List.setIfInBounds_toArray, List.set_cons_zero, List.set_cons_succ, i64_w, i32_w]
   rfl
  refine one_ (i := 6) (N := some 34) #[true, true, true, true, true, true, true, false, false] rfl rfl (one_of HT_.out (by kernel_rfl)) (by decide) (fun K hK => ?_)
  refine Kd.R_lit_step (Kd.int .i64) _ 3 ?hg (N := 34) ?hd (xs := ([Int.tmod t142 (wrap64 (1 + (Int.tmod t125 5)))] : List Int)) (inner := [.int .i64 (Int.tmod t142 (wrap64 (1 + (Int.tmod t125 5))))]) (ok := fun _ => True) (okp := fun _ => True) ?hr ?hp (fun _ hk => hk) trivial (Below.refl _ _) (Nat.le_refl _) (by simp) ?_; (case hd => rfl); (case hg => rfl); (case hr => first | (go_simp; done) | (go_simp; rfl)); (case hp => exact (Reps.one (show Kd.M (Kd.int .i64) _ _ _ (Int.tmod t142 (wrap64 (1 + (Int.tmod t125 5)))) [.int .i64 (Int.tmod t142 (wrap64 (1 + (Int.tmod t125 5))))] from rfl) (Reps.none _ _)))
  intro v145 w26 ho27 hb hg_ hnew_
  clear hg_ hnew_
  (first | rw [← Ny144.out] at ho27 | (simp only [Int.reduceToNat] at ho27; rw [← Ny144.out] at ho27))
  have n0_ := Aside0.mk (Kd.R_elder' (by (with_reducible repeat (first | apply Kd.R_alloc | apply Kd.R_drewN | apply Kd.R_drew)); exact HO_6.out) (Kd.R_base ho27) hb)
  have n1_ := Aside0.mk (Kd.N_elder' (by (with_reducible repeat (first | apply Kd.N_alloc | apply Kd.N_drewN | apply Kd.N_drew)); exact HO_128001.out) (Kd.R_base ho27) hb)
  have n2_ := Aside0.mk (Kd.N_elder' (by (with_reducible repeat (first | apply Kd.N_alloc | apply Kd.N_drewN | apply Kd.N_drew)); exact HO_128002.out) (Kd.R_base ho27) hb)
  have n3_ := Aside0.mk (Kd.R_below (by (with_reducible repeat (first | apply Kd.R_alloc | apply Kd.R_drewN | apply Kd.R_drew)); exact HO_142007.out) hb)
  have n4_ := Aside0.mk (Kd.R_lower (Kd.R_new' (Kd.R_newM (M := fun k_ => (w.heap.size ≤ k_)) ho27 (keep_size (w := w) (g := g) (row := none) (by repeat (first | (with_reducible first | exact HK.out | apply KeepBut.set_ | apply keep_drewN | apply keep_drew | apply keep_alloc | refine keep_far ?_ GW124.out _ | refine keep_far ?_ GW127.out _ | refine keep_far ?_ GW141.out _) | exact HK.out))) (fun k_ h_ => h_)) (Kd.R_lt (by (with_reducible repeat (first | apply Kd.R_alloc | apply Kd.R_drewN | apply Kd.R_drew)); exact HO_6.out))) (keep_size (w := w) (g := g) (row := none) (by repeat (first | (with_reducible first | exact HK.out | apply KeepBut.set_ | apply keep_drewN | apply keep_drew | apply keep_alloc | refine keep_far ?_ GW124.out _ | refine keep_far ?_ GW127.out _ | refine keep_far ?_ GW141.out _) | exact HK.out))))
  have n5_ := Aside0.mk (blk_below (g := gb124) (o := .cells #[.int .i64 0, .slice none 0 0, .slice none 0 0, .slice none 0 0] 28 (0, 0)) (by (with_reducible repeat (first | refine blk_drewN ?_ _ | refine blk_drew ?_ | refine blk_alloc ?_ _)); exact BK124.out) hb)
  have n6_ := Aside0.mk (blk_below (g := gb127) (o := .cells #[.int .i64 (wrap64 (1 + (Int.tmod t125 5))), u128001, u128002, .slice none 0 0] 28 (0, 0)) (by (with_reducible repeat (first | refine blk_drewN ?_ _ | refine blk_drew ?_ | refine blk_alloc ?_ _)); exact BK127.out) hb)
  have n7_ := Aside0.mk (blk_below (g := gb141) (o := .cells #[.int .u64 t130, .int .u16 t131, .int .i64 t132, .int .i64 t133, .int .i64 t134, .int .i64 t135, .int .i64 t136, .slice Ao19 t137.length co19] 51 (0, 0)) (by (with_reducible repeat (first | refine blk_drewN ?_ _ | refine blk_drew ?_ | refine blk_alloc ?_ _)); exact BK141.out) hb)
  have n8_ := Aside0.mk (IsS54.below (by repeat (first | (with_reducible first | exact HI0.out | apply IsS54.alloc | apply IsS54.drewN | apply IsS54.drew | apply IsS54.set_1 | refine IsS54.far ?_ NB0_124.out _ | refine IsS54.far ?_ NB0_127.out _ | refine IsS54.far ?_ NB0_141.out _) | exact HI0.out)) hb)
  have n9_ := Aside0.mk (KeepBut.trans (by repeat (first | (with_reducible first | exact HK.out | apply KeepBut.set_ | apply keep_drewN | apply keep_drew | apply keep_alloc | refine keep_far ?_ GW124.out _ | refine keep_far ?_ GW127.out _ | refine keep_far ?_ GW141.out _) | exact HK.out)) (KeepBut.of_below hb g none) (.inl rfl))
  have n10_ := Aside0.mk (below_step (by repeat (first | (with_reducible first | exact HB.out | apply below_alloc | apply pw_below_drewN | apply below_drew1 | refine below_set ?_ (IsS54.ge HI0.out) | refine below_set ?_ GE124.out | refine below_set ?_ GE127.out | refine below_set ?_ GE141.out) | exact HB.out)) hb)
  clear HO_6
  clear HO_128001
  clear HO_128002
  clear HO_142007
  clear BK124
  clear BK127
  clear BK141
  clear HI0
  clear HK
  clear HB
  have HO_6 := n0_
  have HO_128001 := n1_
  have HO_128002 := n2_
  have HO_142007 := n3_
  have HO146 := n4_
  have BK124 := n5_
  have BK127 := n6_
  have BK141 := n7_
  have HI0 := n8_
  have HK := n9_
  have HB := n10_
  clear n0_ n1_ n2_ n3_ n4_ n5_ n6_ n7_ n8_ n9_ n10_
  clear hb ho27
  obtain ⟨Ao29, co29, eo29⟩ := Kd.R_slice HO146.out
  (first | subst eo29 | (injection eo29 with f1_ f2_ f3_; have f4_ := f1_.symm; have f5_ := f3_.symm; clear f1_ f2_ f3_; subst f4_; subst f5_))
  refine hK.out _ _ ⟨(blk_cell BK127.out 0).trans rfl, (blk_cell BK127.out 1).trans rfl, (blk_cell BK127.out 2).trans rfl, (blk_cell BK127.out 3).trans rfl⟩ (fun hHeld => ?_)
  clear hK K
  refine norm_ (a' := ?_) ?_ ?_
  rotate_left
  ·show Act.put _ (some 34) _ = _
   simp only [Act.put, List.setIfInBounds_toArray, List.set_cons_zero, List.set_cons_succ, i64_w, i32_w]
   rfl
  refine one_ (i := 7) (N := some 35) #[true, true, true, true, true, true, true, true, false] rfl rfl (one_of HT_.out (by kernel_rfl)) (by decide) (fun K hK => ?_)
  refine Kd.R_append_rows_step (Kd.int .i64) w.heap.size (by rfl) (.tmp 28) (.tmp 34) 64 3 (.int .i64 0) 8 rfl Tryd.underlying64 info3 rfl (by decide) (by omega) u6 x6_2 y144 _ _ _ (fun k_ => (w.heap.size ≤ k_) ∧ some k_ ≠ (.slice Ao29 y144.length co29 : Value).ownBlock) (fun _ => False) rfl rfl ?aO ?aR (fun _ _ h => h) (fun _ h => h.elim) ?aF (Below.refl _ _) ?aS ?aL ?_
  (case aR => repeat (first | exact (Kd.R_reads' HO146.out).2.2 | (with_reducible refine Kd.C_alloc ?_ _) | (with_reducible refine Kd.C_drewN ?_ _) | (with_reducible refine Kd.C_drew ?_)))
  (case aF => exact (fun k_ hk => ⟨(Nat.le_trans (keep_size (w := w) (g := g) (row := none) (by repeat (first | (with_reducible first | exact HK.out | apply KeepBut.set_ | apply keep_drewN | apply keep_drew | apply keep_alloc | refine keep_far ?_ GW124.out _ | refine keep_far ?_ GW127.out _ | refine keep_far ?_ GW141.out _) | exact HK.out))) hk), Kd.fresh' (Kd.R_lt (by (with_reducible repeat (first | apply Kd.R_alloc | apply Kd.R_drewN | apply Kd.R_drew)); exact HO146.out)) k_ hk⟩))
  (case aO => exact (by (with_reducible repeat (first | apply Kd.R_alloc | apply Kd.R_drewN | apply Kd.R_drew)); exact HO_6.out))
  (case aS => exact (keep_size (w := w) (g := g) (row := none) (by repeat (first | (with_reducible first | exact HK.out | apply KeepBut.set_ | apply keep_drewN | apply keep_drew | apply keep_alloc | refine keep_far ?_ GW124.out _ | refine keep_far ?_ GW127.out _ | refine keep_far ?_ GW141.out _) | exact HK.out))))
  (case aL => have := LMc23.out; omega)
  intro v148 w28 ho hb hg hat
  rw [← Ny147.out] at ho
  have n0_ := Aside0.mk (Kd.N_afterv (ok := (fun k_ => (w.heap.size ≤ k_) ∧ some k_ ≠ (u128002 : Value).ownBlock ∧ some k_ ≠ (.slice Ao19 t137.length co19 : Value).ownBlock ∧ some k_ ≠ (.slice Ao29 y144.length co29 : Value).ownBlock ∧ k_ ≠ gb124 ∧ k_ ≠ gb127 ∧ k_ ≠ gb141 ∧ k_ ≠ g)) (by (with_reducible repeat (first | apply Kd.N_alloc | apply Kd.N_drewN | apply Kd.N_drew)); exact Kd.N_mono HO_128001.out (fun _ hk => ⟨⟨hk.1.1, ⟨hk.1.2.2.1, ⟨hk.1.2.2.2.1, ⟨hk.2, ⟨hk.1.2.2.2.2.1, ⟨hk.1.2.2.2.2.2.1, ⟨hk.1.2.2.2.2.2.2.1, hk.1.2.2.2.2.2.2.2⟩⟩⟩⟩⟩⟩⟩, hk.1.2.1⟩)) hg hat)
  have n1_ := Aside0.mk (Kd.N_afterv (ok := (fun k_ => (w.heap.size ≤ k_) ∧ some k_ ≠ (u128001 : Value).ownBlock ∧ some k_ ≠ (.slice Ao19 t137.length co19 : Value).ownBlock ∧ some k_ ≠ (.slice Ao29 y144.length co29 : Value).ownBlock ∧ k_ ≠ gb124 ∧ k_ ≠ gb127 ∧ k_ ≠ gb141 ∧ k_ ≠ g)) (by (with_reducible repeat (first | apply Kd.N_alloc | apply Kd.N_drewN | apply Kd.N_drew)); exact Kd.N_mono HO_128002.out (fun _ hk => ⟨⟨hk.1.1, ⟨hk.1.2.2.1, ⟨hk.1.2.2.2.1, ⟨hk.2, ⟨hk.1.2.2.2.2.1, ⟨hk.1.2.2.2.2.2.1, ⟨hk.1.2.2.2.2.2.2.1, hk.1.2.2.2.2.2.2.2⟩⟩⟩⟩⟩⟩⟩, hk.1.2.1⟩)) hg hat)
  have n2_ := Aside0.mk (Kd.R_over' (by (with_reducible repeat (first | apply Kd.R_alloc | apply Kd.R_drewN | apply Kd.R_drew)); exact HO_142007.out) (Kd.R_typed (by (with_reducible repeat (first | apply Kd.R_alloc | apply Kd.R_drewN | apply Kd.R_drew)); exact HO_6.out)) (by decide) hg)
  have n3_ := Aside0.mk (blk_grown (g := gb124) (o := .cells #[.int .i64 0, .slice none 0 0, .slice none 0 0, .slice none 0 0] 28 (0, 0)) (by (with_reducible repeat (first | refine blk_drewN ?_ _ | refine blk_drew ?_ | refine blk_alloc ?_ _)); exact BK124.out) hg (Kd.R_ne HO_6.out BK124.out (by decide)))
  have n4_ := Aside0.mk (blk_grown (g := gb127) (o := .cells #[.int .i64 (wrap64 (1 + (Int.tmod t125 5))), u128001, u128002, .slice none 0 0] 28 (0, 0)) (by (with_reducible repeat (first | refine blk_drewN ?_ _ | refine blk_drew ?_ | refine blk_alloc ?_ _)); exact BK127.out) hg (Kd.R_ne HO_6.out BK127.out (by decide)))
  have n5_ := Aside0.mk (blk_grown (g := gb141) (o := .cells #[.int .u64 t130, .int .u16 t131, .int .i64 t132, .int .i64 t133, .int .i64 t134, .int .i64 t135, .int .i64 t136, .slice Ao19 t137.length co19] 51 (0, 0)) (by (with_reducible repeat (first | refine blk_drewN ?_ _ | refine blk_drew ?_ | refine blk_alloc ?_ _)); exact BK141.out) hg (Kd.R_ne HO_6.out BK141.out (by decide)))
  have n6_ := Aside0.mk (IsS54.grown (by repeat (first | (with_reducible first | exact HI0.out | apply IsS54.alloc | apply IsS54.drewN | apply IsS54.drew | apply IsS54.set_1 | refine IsS54.far ?_ NB0_124.out _ | refine IsS54.far ?_ NB0_127.out _ | refine IsS54.far ?_ NB0_141.out _) | exact HI0.out)) hg (IsS54.own_ne HI0.out HO_6.out (by decide)))
  have n7_ := Aside0.mk (Kd.R_after (ok := (fun k_ => (w.heap.size ≤ k_))) (by (with_reducible repeat (first | apply Kd.R_alloc | apply Kd.R_drewN | apply Kd.R_drew)); exact Kd.R_mono HO146.out (fun _ hk => ⟨hk.1.1, hk.2⟩)) hg hat)
  have n8_ := Aside0.mk (below_weaken (by repeat (first | (with_reducible first | exact HB.out | apply below_alloc | apply pw_below_drewN | apply below_drew1 | refine below_set ?_ (IsS54.ge HI0.out) | refine below_set ?_ GE124.out | refine below_set ?_ GE127.out | refine below_set ?_ GE141.out) | exact HB.out)) HL.out hb)
  have n9_ := Aside0.mk (KeepBut.trans (by repeat (first | (with_reducible first | exact HK.out | apply KeepBut.set_ | apply keep_drewN | apply keep_drew | apply keep_alloc | refine keep_far ?_ GW124.out _ | refine keep_far ?_ GW127.out _ | refine keep_far ?_ GW141.out _) | exact HK.out)) (KeepBut.of_grown hg g) (Kd.R_base2 HO_6.out))
  have n10_ := Aside0.mk (ho)
  clear HO_128001
  clear HO_128002
  clear HO_142007
  clear BK124
  clear BK127
  clear BK141
  clear HI0
  clear HO146
  clear HB
  clear HK
  clear HO_6
  have HO_128001 := n0_
  have HO_128002 := n1_
  have HO_142007 := n2_
  have BK124 := n3_
  have BK127 := n4_
  have BK141 := n5_
  have HI0 := n6_
  have HO146 := n7_
  have HB := n8_
  have HK := n9_
  have HO149 := n10_
  clear n0_ n1_ n2_ n3_ n4_ n5_ n6_ n7_ n8_ n9_ n10_
  clear ho hb hg hat
  refine hK.out _ _ ⟨(blk_cell BK127.out 0).trans rfl, (blk_cell BK127.out 1).trans rfl, (blk_cell BK127.out 2).trans rfl, (blk_cell BK127.out 3).trans rfl⟩ (fun hHeld => ?_)
  clear hK K
  refine norm_ (a' := ?_) ?_ ?_
  rotate_left
  ·show Act.put _ (some 35) _ = _
   simp only [Act.put, List.setIfInBounds_toArray, List.set_cons_zero, List.set_cons_succ, i64_w, i32_w]
   rfl
  refine pure_ (i := 8) (N := some 6) (v := ?_) (a' := ?_) #[true, true, true, true, true, true, true, true, true] rfl rfl (any_of HT_.out (by kernel_rfl)) (fun _ _ _ h => h) (Or.inl ⟨by rfl, ?_⟩) ?_ ?_
  rotate_left
  ·intro w'
   go_simp
   with_reducible rfl
  rotate_left
  ·simp only [Act.put, List.setIfInBounds_toArray, List.set_cons_zero, List.set_cons_succ, i64_w, i32_w]
   rfl
  refine done_ (done_of HT_.out (by kernel_rfl)) ?_
  try go_wp2
  go_roundg k2
  case measure => have := HK1.out; have := HK2.out; omega
  case rel => exact ⟨(y147), (wrap64 (x26_2 + 1)), (t143), (by first | rfl | (simp; done) | (simp [*]; done)), H', ⟨by have := HK1.out; have := HK2.out; omega⟩, ⟨by (with_reducible repeat (first | apply Kd.R_alloc | apply Kd.R_drewN | apply Kd.R_drew)); exact Kd.R_mono HO149.out (fun _ hk => hk.1)⟩, ⟨by (with_reducible repeat (first | apply Kd.N_alloc | apply Kd.N_drewN | apply Kd.N_drew)); exact Kd.N_mono HO_128001.out (fun _ hk => ⟨hk.1.1, ⟨hk.2, ⟨hk.1.2.1, ⟨hk.1.2.2.1, ⟨hk.1.2.2.2.2.1, ⟨hk.1.2.2.2.2.2.1, ⟨hk.1.2.2.2.2.2.2.1, hk.1.2.2.2.2.2.2.2⟩⟩⟩⟩⟩⟩⟩)⟩, ⟨by (with_reducible repeat (first | apply Kd.N_alloc | apply Kd.N_drewN | apply Kd.N_drew)); exact Kd.N_mono HO_128002.out (fun _ hk => ⟨hk.1.1, ⟨hk.2, ⟨hk.1.2.1, ⟨hk.1.2.2.1, ⟨hk.1.2.2.2.2.1, ⟨hk.1.2.2.2.2.2.1, ⟨hk.1.2.2.2.2.2.2.1, hk.1.2.2.2.2.2.2.2⟩⟩⟩⟩⟩⟩⟩)⟩, ⟨by (with_reducible repeat (first | apply Kd.R_alloc | apply Kd.R_drewN | apply Kd.R_drew)); exact HO_142007.out⟩, ⟨by (with_reducible repeat (first | refine blk_drewN ?_ _ | refine blk_drew ?_ | refine blk_alloc ?_ _)); exact BK124.out⟩, ⟨by (with_reducible repeat (first | refine blk_drewN ?_ _ | refine blk_drew ?_ | refine blk_alloc ?_ _)); exact BK127.out⟩, ⟨by (with_reducible repeat (first | refine blk_drewN ?_ _ | refine blk_drew ?_ | refine blk_alloc ?_ _)); exact BK141.out⟩, ⟨by repeat (first | (with_reducible first | exact HI0.out | apply IsS54.alloc | apply IsS54.drewN | apply IsS54.drew | apply IsS54.set_1 | refine IsS54.far ?_ NB0_124.out _ | refine IsS54.far ?_ NB0_127.out _ | refine IsS54.far ?_ NB0_141.out _) | exact HI0.out)⟩, ⟨by repeat (first | (with_reducible first | exact HK.out | apply KeepBut.set_ | apply keep_drewN | apply keep_drew | apply keep_alloc | refine keep_far ?_ GW124.out _ | refine keep_far ?_ GW127.out _ | refine keep_far ?_ GW141.out _) | exact HK.out)⟩, ⟨by repeat (first | (with_reducible first | exact HB.out | apply below_alloc | apply pw_below_drewN | apply below_drew1 | refine below_set ?_ (IsS54.ge HI0.out) | refine below_set ?_ GE124.out | refine below_set ?_ GE127.out | refine below_set ?_ GE141.out) | exact HB.out)⟩⟩
 rw [if_neg c20] at H
 have c20b0 : decide (x26_2 < (t137.length : Int)) = false := decide_eq_false c20
 clear c20
 obtain ⟨y150, hy150⟩ : ∃ y_ : List (S51), y_ = (([(⟨t130, t131, t132, t133, t134, t135, t136, t137⟩ : S51)] : List (S51))) := ⟨_, rfl⟩
 replace H : (if x128001_1.length + y150.length < 1759218604441 then ((some (([x6_2] : List (List Int)) : List (List Int))).bind fun y156 => (if x128002_1.length + y156.length < 5864062014805 then (script_reader_topo.l0 k2 (wrap64 (1 + (Int.tmod t128 4))) (wrap64 (x17_1 + 1)) s0_0 x1001_2 (wrap64 (1 + (Int.tmod t125 5))) (x128001_1 ++ y150) (x128002_1 ++ y156)) else (none))) else (none)) = some (r1, r2, r3, r4, r5) := by first | (rw [hy150]; with_reducible exact H) | (have H2_ := (Option.bind_some _ _).symm.trans H; rw [hy150]; with_reducible exact H2_) | (have H2_ := (Option.bind_some _ _).symm.trans H; with_reducible exact H2_) | with_reducible exact H | (rw [hy150]; exact H) | exact H
 have Ny150 := Aside0.mk hy150
 clear hy150
 by_cases c30 : x128001_1.length + y150.length < 1759218604441
 rotate_left
 ·rw [if_neg c30] at H
  exact absurd H (by simp)
 rw [if_pos c30] at H
 have LMc30 := Aside0.mk c30
 clear c30
 obtain ⟨y153, hy153⟩ : ∃ y_ : List (S51), y_ = (x128001_1 ++ y150) := ⟨_, rfl⟩
 replace H : ((some (([x6_2] : List (List Int)) : List (List Int))).bind fun y156 => (if x128002_1.length + y156.length < 5864062014805 then (script_reader_topo.l0 k2 (wrap64 (1 + (Int.tmod t128 4))) (wrap64 (x17_1 + 1)) s0_0 x1001_2 (wrap64 (1 + (Int.tmod t125 5))) y153 (x128002_1 ++ y156)) else (none))) = some (r1, r2, r3, r4, r5) := by first | (rw [hy153]; with_reducible exact H) | (have H2_ := (Option.bind_some _ _).symm.trans H; rw [hy153]; with_reducible exact H2_) | (have H2_ := (Option.bind_some _ _).symm.trans H; with_reducible exact H2_) | with_reducible exact H | (rw [hy153]; exact H) | exact H
 have Ny153 := Aside0.mk hy153
 clear hy153
 obtain ⟨y156, hy156⟩ : ∃ y_ : List (List Int), y_ = (([x6_2] : List (List Int))) := ⟨_, rfl⟩
 replace H : (if x128002_1.length + y156.length < 5864062014805 then (script_reader_topo.l0 k2 (wrap64 (1 + (Int.tmod t128 4))) (wrap64 (x17_1 + 1)) s0_0 x1001_2 (wrap64 (1 + (Int.tmod t125 5))) y153 (x128002_1 ++ y156)) else (none)) = some (r1, r2, r3, r4, r5) := by first | (rw [hy156]; with_reducible exact H) | (have H2_ := (Option.bind_some _ _).symm.trans H; rw [hy156]; with_reducible exact H2_) | (have H2_ := (Option.bind_some _ _).symm.trans H; with_reducible exact H2_) | with_reducible exact H | (rw [hy156]; exact H) | exact H
 have Ny156 := Aside0.mk hy156
 clear hy156
 by_cases c31 : x128002_1.length + y156.length < 5864062014805
 rotate_left
 ·rw [if_neg c31] at H
  exact absurd H (by simp)
 rw [if_pos c31] at H
 have LMc31 := Aside0.mk c31
 clear c31
 obtain ⟨y159, hy159⟩ : ∃ y_ : List (List Int), y_ = (x128002_1 ++ y156) := ⟨_, rfl⟩
 replace H : (script_reader_topo.l0 k2 (wrap64 (1 + (Int.tmod t128 4))) (wrap64 (x17_1 + 1)) s0_0 x1001_2 (wrap64 (1 + (Int.tmod t125 5))) y153 y159) = some (r1, r2, r3, r4, r5) := by first | (rw [hy159]; with_reducible exact H) | (have H2_ := (Option.bind_some _ _).symm.trans H; rw [hy159]; with_reducible exact H2_) | (have H2_ := (Option.bind_some _ _).symm.trans H; with_reducible exact H2_) | with_reducible exact H | (rw [hy159]; exact H) | exact H
 have Ny159 := Aside0.mk hy159
 clear hy159
 have H' := Aside0.mk H
 clear H
 obtain ⟨Ao32, co32, eo32⟩ := Kd.N_slice HO_128001.out
 subst eo32
 obtain ⟨Ao33, co33, eo33⟩ := Kd.N_slice HO_128002.out
 subst eo33
 try go_wp2
 have n0_ := Aside0.mk (Kd.R_drew HO_6.out)
 have n1_ := Aside0.mk (Kd.N_drew HO_128001.out)
 have n2_ := Aside0.mk (Kd.N_drew HO_128002.out)
 have n3_ := Aside0.mk (Kd.R_drew HO_142007.out)
 have n4_ := Aside0.mk (blk_drew BK124.out)
 have n5_ := Aside0.mk (blk_drew BK127.out)
 have n6_ := Aside0.mk (blk_drew BK141.out)
 have n7_ := Aside0.mk (IsS54.drew HI0.out)
 have n8_ := Aside0.mk (keep_drew HK.out)
 have n9_ := Aside0.mk (below_drew1 HB.out)
 clear HO_6
 clear HO_128001
 clear HO_128002
 clear HO_142007
 clear BK124
 clear BK127
 clear BK141
 clear HI0
 clear HK
 clear HB
 have HO_6 := n0_
 have HO_128001 := n1_
 have HO_128002 := n2_
 have HO_142007 := n3_
 have BK124 := n4_
 have BK127 := n5_
 have BK141 := n6_
 have HI0 := n7_
 have HK := n8_
 have HB := n9_
 clear n0_ n1_ n2_ n3_ n4_ n5_ n6_ n7_ n8_ n9_
 refine start_ (n := 14) (S := fun w' => w'.cell? ⟨gb127, 0, none⟩ = some (.int .i64 (wrap64 (1 + (Int.tmod t125 5)))) ∧ w'.cell? ⟨gb127, 1, none⟩ = some (.slice Ao32 x128001_1.length co32) ∧ w'.cell? ⟨gb127, 2, none⟩ = some (.slice Ao33 x128002_1.length co33) ∧ w'.cell? ⟨gb127, 3, none⟩ = some (.slice none 0 0) ∧ w'.cell? ⟨gb141, 0, none⟩ = some (.int .u64 t130) ∧ w'.cell? ⟨gb141, 1, none⟩ = some (.int .u16 t131) ∧ w'.cell? ⟨gb141, 2, none⟩ = some (.int .i64 t132) ∧ w'.cell? ⟨gb141, 3, none⟩ = some (.int .i64 t133) ∧ w'.cell? ⟨gb141, 4, none⟩ = some (.int .i64 t134) ∧ w'.cell? ⟨gb141, 5, none⟩ = some (.int .i64 t135) ∧ w'.cell? ⟨gb141, 6, none⟩ = some (.int .i64 t136) ∧ w'.cell? ⟨gb141, 7, none⟩ = some (.slice Ao19 t137.length co19)) (ds := [11, 13]) #[false, false, false, false, false, false, false, false, false, false, false, false, false, false] (by kernel_rfl) rfl rfl ⟨(blk_cell BK127.out 0).trans rfl, (blk_cell BK127.out 1).trans rfl, (blk_cell BK127.out 2).trans rfl, (blk_cell BK127.out 3).trans rfl, (blk_cell BK141.out 0).trans rfl, (blk_cell BK141.out 1).trans rfl, (blk_cell BK141.out 2).trans rfl, (blk_cell BK141.out 3).trans rfl, (blk_cell BK141.out 4).trans rfl, (blk_cell BK141.out 5).trans rfl, (blk_cell BK141.out 6).trans rfl, (blk_cell BK141.out 7).trans rfl⟩ (fun hHeld => ?_); refine with_tabW script_reader_topo.tab11 script_reader_topo.bits11 (fun HT_ HW_ => ?_)
 generalize wr.drew = w34 at HO_6 HO_128001 HO_128002 HO_142007 BK124 BK127 BK141 HI0 HK HB hHeld ⊢
 refine pure_ (i := 0) (N := some 37) (v := ?_) (a' := ?_) #[true, false, false, false, false, false, false, false, false, false, false, false, false, false] rfl rfl (any_of HT_.out (by kernel_rfl)) (fun _ _ _ h => h) (Or.inl ⟨by rfl, ?_⟩) ?_ ?_
 rotate_left
 ·intro w'
  go_simp
  with_reducible rfl
 rotate_left
 ·simp only [Act.put, List.setIfInBounds_toArray, List.set_cons_zero, List.set_cons_succ, i64_w, i32_w]
  rfl
 refine pure_ (i := 5) (N := some 42) (v := ?_) (a' := ?_) #[true, false, false, false, false, true, false, false, false, false, false, false, false, false] rfl rfl (any_of HT_.out (by kernel_rfl)) (fun _ _ _ h => h) (Or.inl ⟨by rfl, ?_⟩) ?_ ?_
 rotate_left
 ·intro w'
  go_simp
  with_reducible rfl
 rotate_left
 ·simp only [Act.put, List.setIfInBounds_toArray, List.set_cons_zero, List.set_cons_succ, i64_w, i32_w]
  rfl
 refine pure_ (i := 7) (N := some 44) (v := ?_) (a' := ?_) #[true, false, false, false, false, true, false, true, false, false, false, false, false, false] rfl rfl (any_of HT_.out (by kernel_rfl)) (fun _ _ _ h => h) (Or.inl ⟨by rfl, ?_⟩) ?_ ?_
 rotate_left
 ·intro w'
  go_simp
  with_reducible rfl
 rotate_left
 ·simp only [Act.put, List.setIfInBounds_toArray, List.set_cons_zero, List.set_cons_succ, i64_w, i32_w]
  rfl
 refine take_ (i := 1) (N := some 38) (v := ?_) (a' := ?_) #[true, true, false, false, false, true, false, true, false, false, false, false, false, false] rfl rfl (take_ofW HT_.out HW_.out (by kernel_rfl)) (fun _ _ _ h => h) (Or.inl ⟨by rfl, ?_⟩) hHeld ?_ ?_
 rotate_left
 ·rintro w' ⟨s0, s1, s2, s3, s4, s5, s6, s7, s8, s9, s10, s11⟩
  go_simp
  with_reducible rfl
 rotate_left
 ·simp only [Act.put, List.setIfInBounds_toArray, List.set_cons_zero, List.set_cons_succ, i64_w, i32_w]
  rfl
 refine take_ (i := 2) (N := some 39) (v := ?_) (a' := ?_) #[true, true, true, false, false, true, false, true, false, false, false, false, false, false] rfl rfl (take_ofW HT_.out HW_.out (by kernel_rfl)) (fun _ _ _ h => h) (Or.inl ⟨by rfl, ?_⟩) hHeld ?_ ?_
 rotate_left
 ·rintro w' ⟨s0, s1, s2, s3, s4, s5, s6, s7, s8, s9, s10, s11⟩
  go_simp
  with_reducible rfl
 rotate_left
 ·simp only [Act.put, List.setIfInBounds_toArray, List.set_cons_zero, List.set_cons_succ, i64_w, i32_w]
  rfl
 refine take_ (i := 6) (N := some 43) (v := ?_) (a' := ?_) #[true, true, true, false, false, true, true, true, false, false, false, false, false, false] rfl rfl (take_ofW HT_.out HW_.out (by kernel_rfl)) (fun _ _ _ h => h) (Or.inl ⟨by rfl, ?_⟩) hHeld ?_ ?_
 rotate_left
 ·rintro w' ⟨s0, s1, s2, s3, s4, s5, s6, s7, s8, s9, s10, s11⟩
  go_simp
  with_reducible rfl
 rotate_left
 ·simp only [Act.put, List.setIfInBounds_toArray, List.set_cons_zero, List.set_cons_succ, i64_w, i32_w]
  rfl
 refine join_ (σ := Value × Value × Value) 4 #[true, true, true, true, true, true, true, true, true, false, true, false, false, false] (fun s_ => [(40, s_.1), (41, s_.2.1), (45, s_.2.2), (47, .pointer (some ⟨gb127, 1, none⟩))]) (fun s_ w' => (w'.cell? ⟨gb127, 0, none⟩ = some (.int .i64 (wrap64 (1 + (Int.tmod t125 5)))) ∧ w'.cell? ⟨gb127, 1, none⟩ = some (.slice Ao32 x128001_1.length co32) ∧ w'.cell? ⟨gb127, 2, none⟩ = some (.slice Ao33 x128002_1.length co33) ∧ w'.cell? ⟨gb127, 3, none⟩ = some (.slice none 0 0) ∧ w'.cell? ⟨gb141, 0, none⟩ = some (.int .u64 t130) ∧ w'.cell? ⟨gb141, 1, none⟩ = some (.int .u16 t131) ∧ w'.cell? ⟨gb141, 2, none⟩ = some (.int .i64 t132) ∧ w'.cell? ⟨gb141, 3, none⟩ = some (.int .i64 t133) ∧ w'.cell? ⟨gb141, 4, none⟩ = some (.int .i64 t134) ∧ w'.cell? ⟨gb141, 5, none⟩ = some (.int .i64 t135) ∧ w'.cell? ⟨gb141, 6, none⟩ = some (.int .i64 t136) ∧ w'.cell? ⟨gb141, 7, none⟩ = some (.slice Ao19 t137.length co19)) ∧ (Kd.N k51 51 w' w.heap.size (fun k_ => (w.heap.size ≤ k_) ∧ some k_ ≠ (s_.2.1 : Value).ownBlock ∧ some k_ ≠ (s_.2.2 : Value).ownBlock ∧ some k_ ≠ (.slice Ao33 x128002_1.length co33 : Value).ownBlock ∧ k_ ≠ g ∧ k_ ≠ gb124 ∧ k_ ≠ gb127 ∧ k_ ≠ gb141) s_.1 y150) ∧ (Kd.N k51 51 w' w.heap.size (fun k_ => (w.heap.size ≤ k_) ∧ some k_ ≠ (s_.2.2 : Value).ownBlock ∧ some k_ ≠ (.slice Ao33 x128002_1.length co33 : Value).ownBlock ∧ k_ ≠ g ∧ k_ ≠ gb124 ∧ k_ ≠ gb127 ∧ k_ ≠ gb141) s_.2.1 y153) ∧ (Kd.N (Kd.slice 3 (Kd.int .i64)) 64 w' w.heap.size (fun k_ => (w.heap.size ≤ k_) ∧ some k_ ≠ (s_.1 : Value).ownBlock ∧ some k_ ≠ (s_.2.1 : Value).ownBlock ∧ some k_ ≠ (.slice Ao33 x128002_1.length co33 : Value).ownBlock ∧ k_ ≠ g ∧ k_ ≠ gb124 ∧ k_ ≠ gb127 ∧ k_ ≠ gb141) s_.2.2 y156) ∧ (Kd.N (Kd.slice 3 (Kd.int .i64)) 64 w' w.heap.size (fun k_ => (w.heap.size ≤ k_) ∧ some k_ ≠ (s_.1 : Value).ownBlock ∧ some k_ ≠ (s_.2.1 : Value).ownBlock ∧ some k_ ≠ (s_.2.2 : Value).ownBlock ∧ k_ ≠ g ∧ k_ ≠ gb124 ∧ k_ ≠ gb127 ∧ k_ ≠ gb141) (.slice Ao33 x128002_1.length co33) x128002_1) ∧ (w'.heap[gb124]? = some (.cells #[.int .i64 0, .slice none 0 0, .slice none 0 0, .slice none 0 0] 28 (0, 0))) ∧ (w'.heap[gb127]? = some (.cells #[.int .i64 (wrap64 (1 + (Int.tmod t125 5))), .slice Ao32 x128001_1.length co32, .slice Ao33 x128002_1.length co33, .slice none 0 0] 28 (0, 0))) ∧ (w'.heap[gb141]? = some (.cells #[.int .u64 t130, .int .u16 t131, .int .i64 t132, .int .i64 t133, .int .i64 t134, .int .i64 t135, .int .i64 t136, .slice Ao19 t137.length co19] 51 (0, 0))) ∧ (IsS54 w0 w' g s0_0 x1001_2) ∧ (KeepBut w w' g none) ∧ (Below w0.heap.size w0 w')) ?_ ?_
 rotate_left
 ·intro hCont
  refine two_ (i := 3) (j := 8) (Ni := some 40) (Nj := some 45) #[true, true, true, true, false, true, true, true, false, false, false, false, false, false] #[true, true, true, false, false, true, true, true, true, false, false, false, false, false] rfl rfl rfl rfl (two_of HT_.out (by kernel_rfl)) (by decide) (by decide) (fun K hK => ?_) (fun K hK => ?_)
  ·skip
   refine Kd.N_lit_step k51 _ 51 ?hg (N' := 40) ?hd (xs := ([(⟨t130, t131, t132, t133, t134, t135, t136, t137⟩ : S51)] : List (S51))) (inner := [.int .u64 t130, .int .u16 t131, .int .i64 t132, .int .i64 t133, .int .i64 t134, .int .i64 t135, .int .i64 t136, .slice Ao19 t137.length co19]) (ok := (fun k_ => (w.heap.size ≤ k_) ∧ some k_ ≠ (u6 : Value).ownBlock ∧ some k_ ≠ (.slice Ao32 x128001_1.length co32 : Value).ownBlock ∧ some k_ ≠ (.slice Ao33 x128002_1.length co33 : Value).ownBlock ∧ k_ ≠ gb124 ∧ k_ ≠ gb127 ∧ k_ ≠ gb141 ∧ k_ ≠ g)) (okp := (fun k_ => (w.heap.size ≤ k_) ∧ some k_ ≠ (u6 : Value).ownBlock ∧ some k_ ≠ (.slice Ao32 x128001_1.length co32 : Value).ownBlock ∧ some k_ ≠ (.slice Ao33 x128002_1.length co33 : Value).ownBlock ∧ k_ ≠ gb124 ∧ k_ ≠ gb127 ∧ k_ ≠ gb141 ∧ k_ ≠ g)) ?hr ?hp (fun _ hk => hk) ((show ∀ k_, w34.heap.size ≤ k_ → (fun k_ => (w.heap.size ≤ k_) ∧ some k_ ≠ (u6 : Value).ownBlock ∧ some k_ ≠ (.slice Ao32 x128001_1.length co32 : Value).ownBlock ∧ some k_ ≠ (.slice Ao33 x128002_1.length co33 : Value).ownBlock ∧ k_ ≠ gb124 ∧ k_ ≠ gb127 ∧ k_ ≠ gb141 ∧ k_ ≠ g) k_ from fun k_ hk => ⟨(Nat.le_trans (keep_size (w := w) (g := g) (row := none) (by repeat (first | (with_reducible first | exact HK.out | apply KeepBut.set_ | apply keep_drewN | apply keep_drew | apply keep_alloc | refine keep_far ?_ GW124.out _ | refine keep_far ?_ GW127.out _ | refine keep_far ?_ GW141.out _) | exact HK.out))) hk), Kd.fresh' (Kd.R_lt (by (with_reducible repeat (first | apply Kd.R_alloc | apply Kd.R_drewN | apply Kd.R_drew)); exact HO_6.out)) k_ hk, Kd.fresh' (Kd.N_lt (by (with_reducible repeat (first | apply Kd.N_alloc | apply Kd.N_drewN | apply Kd.N_drew)); exact HO_128001.out)) k_ hk, Kd.fresh' (Kd.N_lt (by (with_reducible repeat (first | apply Kd.N_alloc | apply Kd.N_drewN | apply Kd.N_drew)); exact HO_128002.out)) k_ hk, Kd.freshB (g := gb124) (o := .cells #[.int .i64 0, .slice none 0 0, .slice none 0 0, .slice none 0 0] 28 (0, 0)) (by (with_reducible repeat (first | refine blk_drewN ?_ _ | refine blk_drew ?_ | refine blk_alloc ?_ _)); exact BK124.out) k_ hk, Kd.freshB (g := gb127) (o := .cells #[.int .i64 (wrap64 (1 + (Int.tmod t125 5))), .slice Ao32 x128001_1.length co32, .slice Ao33 x128002_1.length co33, .slice none 0 0] 28 (0, 0)) (by (with_reducible repeat (first | refine blk_drewN ?_ _ | refine blk_drew ?_ | refine blk_alloc ?_ _)); exact BK127.out) k_ hk, Kd.freshB (g := gb141) (o := .cells #[.int .u64 t130, .int .u16 t131, .int .i64 t132, .int .i64 t133, .int .i64 t134, .int .i64 t135, .int .i64 t136, .slice Ao19 t137.length co19] 51 (0, 0)) (by (with_reducible repeat (first | refine blk_drewN ?_ _ | refine blk_drew ?_ | refine blk_alloc ?_ _)); exact BK141.out) k_ hk, IsS54.fresh (by repeat (first | (with_reducible first | exact HI0.out | apply IsS54.alloc | apply IsS54.drewN | apply IsS54.drew | apply IsS54.set_1 | refine IsS54.far ?_ NB0_124.out _ | refine IsS54.far ?_ NB0_127.out _ | refine IsS54.far ?_ NB0_141.out _) | exact HI0.out)) k_ hk⟩) _ (Nat.le_refl _)) (Below.refl _ _) (Nat.le_refl _) (by simp) ?_; (case hd => rfl); (case hg => rfl); (case hr => first | (go_simp; done) | (go_simp; rfl)); (case hp => exact (Reps.c8 (show Kd.FK k51 _ _ (⟨t130, t131, t132, t133, t134, t135, t136, t137⟩ : S51) [.int .u64 t130, .int .u16 t131, .int .i64 t132, .int .i64 t133, .int .i64 t134, .int .i64 t135, .int .i64 t136, .slice Ao19 t137.length co19] from (k51_mkF _ _ (⟨t130, t131, t132, t133, t134, t135, t136, t137⟩ : S51) (Kd.R_reads' (Kd.R_mono (ok' := (fun k_ => (w.heap.size ≤ k_) ∧ some k_ ≠ (u6 : Value).ownBlock ∧ some k_ ≠ (.slice Ao32 x128001_1.length co32 : Value).ownBlock ∧ some k_ ≠ (.slice Ao33 x128002_1.length co33 : Value).ownBlock ∧ k_ ≠ gb124 ∧ k_ ≠ gb127 ∧ k_ ≠ gb141 ∧ k_ ≠ g)) (IsS54.apart HI0.out (Kd.R_types (Kd.R_types (Kd.R_types (Kd.R_apart' (Kd.R_apart' (Kd.R_apart' (HO_142007.out) (Kd.R_typed HO_6.out) (by decide)) (Kd.N_typed HO_128001.out) (by decide)) (Kd.N_typed HO_128002.out) (by decide)) BK124.out (by decide)) BK127.out (by decide)) BK141.out (by decide)) (by decide)) (fun k_ hk => ⟨hk.1.1.1.1.1.1.1, ⟨hk.1.1.1.1.1.1.2, ⟨hk.1.1.1.1.1.2, ⟨hk.1.1.1.1.2, ⟨hk.1.1.1.2, ⟨hk.1.1.2, ⟨hk.1.2, hk.2⟩⟩⟩⟩⟩⟩⟩))).2.1 (Kd.R_F (Kd.R_mono (ok' := (fun k_ => (w.heap.size ≤ k_) ∧ some k_ ≠ (u6 : Value).ownBlock ∧ some k_ ≠ (.slice Ao32 x128001_1.length co32 : Value).ownBlock ∧ some k_ ≠ (.slice Ao33 x128002_1.length co33 : Value).ownBlock ∧ k_ ≠ gb124 ∧ k_ ≠ gb127 ∧ k_ ≠ gb141 ∧ k_ ≠ g)) (IsS54.apart HI0.out (Kd.R_types (Kd.R_types (Kd.R_types (Kd.R_apart' (Kd.R_apart' (Kd.R_apart' (HO_142007.out) (Kd.R_typed HO_6.out) (by decide)) (Kd.N_typed HO_128001.out) (by decide)) (Kd.N_typed HO_128002.out) (by decide)) BK124.out (by decide)) BK127.out (by decide)) BK141.out (by decide)) (by decide)) (fun k_ hk => ⟨hk.1.1.1.1.1.1.1, ⟨hk.1.1.1.1.1.1.2, ⟨hk.1.1.1.1.1.2, ⟨hk.1.1.1.1.2, ⟨hk.1.1.1.2, ⟨hk.1.1.2, ⟨hk.1.2, hk.2⟩⟩⟩⟩⟩⟩⟩))))) (Reps.none _ _)))
   intro v151 w35 ho36 hb hg_ hnew_
   clear hg_ hnew_
   (first | rw [← Ny150.out] at ho36 | (simp only [Int.reduceToNat] at ho36; rw [← Ny150.out] at ho36))
   have n0_ := Aside0.mk (Kd.R_below (by (with_reducible repeat (first | apply Kd.R_alloc | apply Kd.R_drewN | apply Kd.R_drew)); exact HO_6.out) hb)
   have n1_ := Aside0.mk (Kd.N_elder' (by (with_reducible repeat (first | apply Kd.N_alloc | apply Kd.N_drewN | apply Kd.N_drew)); exact HO_128001.out) (Kd.N_base ho36) hb)
   have n2_ := Aside0.mk (Kd.N_elder' (by (with_reducible repeat (first | apply Kd.N_alloc | apply Kd.N_drewN | apply Kd.N_drew)); exact HO_128002.out) (Kd.N_base ho36) hb)
   have n3_ := Aside0.mk (Kd.N_lower ho36 (keep_size (w := w) (g := g) (row := none) (by repeat (first | (with_reducible first | exact HK.out | apply KeepBut.set_ | apply keep_drewN | apply keep_drew | apply keep_alloc | refine keep_far ?_ GW124.out _ | refine keep_far ?_ GW127.out _ | refine keep_far ?_ GW141.out _) | exact HK.out))))
   have n4_ := Aside0.mk (blk_below (g := gb124) (o := .cells #[.int .i64 0, .slice none 0 0, .slice none 0 0, .slice none 0 0] 28 (0, 0)) (by (with_reducible repeat (first | refine blk_drewN ?_ _ | refine blk_drew ?_ | refine blk_alloc ?_ _)); exact BK124.out) hb)
   have n5_ := Aside0.mk (blk_below (g := gb127) (o := .cells #[.int .i64 (wrap64 (1 + (Int.tmod t125 5))), .slice Ao32 x128001_1.length co32, .slice Ao33 x128002_1.length co33, .slice none 0 0] 28 (0, 0)) (by (with_reducible repeat (first | refine blk_drewN ?_ _ | refine blk_drew ?_ | refine blk_alloc ?_ _)); exact BK127.out) hb)
   have n6_ := Aside0.mk (blk_below (g := gb141) (o := .cells #[.int .u64 t130, .int .u16 t131, .int .i64 t132, .int .i64 t133, .int .i64 t134, .int .i64 t135, .int .i64 t136, .slice Ao19 t137.length co19] 51 (0, 0)) (by (with_reducible repeat (first | refine blk_drewN ?_ _ | refine blk_drew ?_ | refine blk_alloc ?_ _)); exact BK141.out) hb)
   have n7_ := Aside0.mk (IsS54.below (by repeat (first | (with_reducible first | exact HI0.out | apply IsS54.alloc | apply IsS54.drewN | apply IsS54.drew | apply IsS54.set_1 | refine IsS54.far ?_ NB0_124.out _ | refine IsS54.far ?_ NB0_127.out _ | refine IsS54.far ?_ NB0_141.out _) | exact HI0.out)) hb)
   have n8_ := Aside0.mk (KeepBut.trans (by repeat (first | (with_reducible first | exact HK.out | apply KeepBut.set_ | apply keep_drewN | apply keep_drew | apply keep_alloc | refine keep_far ?_ GW124.out _ | refine keep_far ?_ GW127.out _ | refine keep_far ?_ GW141.out _) | exact HK.out)) (KeepBut.of_below hb g none) (.inl rfl))
   have n9_ := Aside0.mk (below_step (by repeat (first | (with_reducible first | exact HB.out | apply below_alloc | apply pw_below_drewN | apply below_drew1 | refine below_set ?_ (IsS54.ge HI0.out) | refine below_set ?_ GE124.out | refine below_set ?_ GE127.out | refine below_set ?_ GE141.out) | exact HB.out)) hb)
   clear HO_6
   clear HO_128001
   clear HO_128002
   clear BK124
   clear BK127
   clear BK141
   clear HI0
   clear HK
   clear HB
   clear HO_142007
   have HO_6 := n0_
   have HO_128001 := n1_
   have HO_128002 := n2_
   have HO152 := n3_
   have BK124 := n4_
   have BK127 := n5_
   have BK141 := n6_
   have HI0 := n7_
   have HK := n8_
   have HB := n9_
   clear n0_ n1_ n2_ n3_ n4_ n5_ n6_ n7_ n8_ n9_
   clear hb ho36
   obtain ⟨Ao38, co38, eo38⟩ := Kd.N_slice HO152.out
   (first | subst eo38 | (injection eo38 with f1_ f2_ f3_; have f4_ := f1_.symm; have f5_ := f3_.symm; clear f1_ f2_ f3_; subst f4_; subst f5_))
   refine hK.out _ _ ⟨(blk_cell BK127.out 0).trans rfl, (blk_cell BK127.out 1).trans rfl, (blk_cell BK127.out 2).trans rfl, (blk_cell BK127.out 3).trans rfl, (blk_cell BK141.out 0).trans rfl, (blk_cell BK141.out 1).trans rfl, (blk_cell BK141.out 2).trans rfl, (blk_cell BK141.out 3).trans rfl, (blk_cell BK141.out 4).trans rfl, (blk_cell BK141.out 5).trans rfl, (blk_cell BK141.out 6).trans rfl, (blk_cell BK141.out 7).trans rfl⟩ (fun hHeld => ?_)
   clear hK K
   refine norm_ (a' := ?_) ?_ ?_
   rotate_left
   ·show Act.put _ (some 40) _ = _
    simp only [Act.put, List.setIfInBounds_toArray, List.set_cons_zero, List.set_cons_succ, i64_w, i32_w]
    rfl
   refine two_ (i := 4) (j := 8) (Ni := some 41) (Nj := some 45) #[true, true, true, true, true, true, true, true, false, false, false, false, false, false] #[true, true, true, true, false, true, true, true, true, false, false, false, false, false] rfl rfl rfl rfl (two_of HT_.out (by kernel_rfl)) (by decide) (by decide) (fun K hK => ?_) (fun K hK => ?_)
   ·skip
    refine Kd.N_append_rows_step k51 w.heap.size (by rfl) (.tmp 38) (.tmp 40) 24 51 (.agg #[(.int .u64 0), (.int .u16 0), (.int .i64 0), (.int .i64 0), (.int .i64 0), (.int .i64 0), (.int .i64 0), (.slice none 0 0)]) 80 rfl Tryd.underlying24 info51 rfl (by decide) (by omega) (.slice Ao32 x128001_1.length co32) x128001_1 y150 _ _ _ (fun k_ => (w.heap.size ≤ k_) ∧ some k_ ≠ (u6 : Value).ownBlock ∧ some k_ ≠ (.slice Ao33 x128002_1.length co33 : Value).ownBlock ∧ k_ ≠ gb124 ∧ k_ ≠ gb127 ∧ k_ ≠ gb141 ∧ k_ ≠ g) (fun k_ => ((fun k_ => (w.heap.size ≤ k_) ∧ some k_ ≠ (u6 : Value).ownBlock ∧ some k_ ≠ (.slice Ao33 x128002_1.length co33 : Value).ownBlock ∧ k_ ≠ gb124 ∧ k_ ≠ gb127 ∧ k_ ≠ gb141 ∧ k_ ≠ g)) k_ ∧ some k_ ≠ (.slice Ao32 x128001_1.length co32 : Value).ownBlock) rfl rfl ?aO ?aR (fun _ hk => hk) ?aF (Below.refl _ _) ?aS ?aL ?_
    (case aR => exact (by skip; exact Kd.N_F (Kd.N_mono (ok' := (fun k_ => ((fun k_ => (w.heap.size ≤ k_) ∧ some k_ ≠ (u6 : Value).ownBlock ∧ some k_ ≠ (.slice Ao33 x128002_1.length co33 : Value).ownBlock ∧ k_ ≠ gb124 ∧ k_ ≠ gb127 ∧ k_ ≠ gb141 ∧ k_ ≠ g)) k_ ∧ some k_ ≠ (.slice Ao32 x128001_1.length co32 : Value).ownBlock)) (HO152.out) (fun k_ hk => ⟨⟨hk.1, ⟨hk.2.1, ⟨hk.2.2.2.1, ⟨hk.2.2.2.2.1, ⟨hk.2.2.2.2.2.1, ⟨hk.2.2.2.2.2.2.1, hk.2.2.2.2.2.2.2⟩⟩⟩⟩⟩⟩, hk.2.2.1⟩))))
    (case aF => exact (fun k_ hk => ⟨(Nat.le_trans (keep_size (w := w) (g := g) (row := none) (by repeat (first | (with_reducible first | exact HK.out | apply KeepBut.set_ | apply keep_drewN | apply keep_drew | apply keep_alloc | refine keep_far ?_ GW124.out _ | refine keep_far ?_ GW127.out _ | refine keep_far ?_ GW141.out _) | exact HK.out))) hk), Kd.fresh' (Kd.R_lt (by (with_reducible repeat (first | apply Kd.R_alloc | apply Kd.R_drewN | apply Kd.R_drew)); exact HO_6.out)) k_ hk, Kd.fresh' (Kd.N_lt (by (with_reducible repeat (first | apply Kd.N_alloc | apply Kd.N_drewN | apply Kd.N_drew)); exact HO_128002.out)) k_ hk, Kd.freshB (g := gb124) (o := .cells #[.int .i64 0, .slice none 0 0, .slice none 0 0, .slice none 0 0] 28 (0, 0)) (by (with_reducible repeat (first | refine blk_drewN ?_ _ | refine blk_drew ?_ | refine blk_alloc ?_ _)); exact BK124.out) k_ hk, Kd.freshB (g := gb127) (o := .cells #[.int .i64 (wrap64 (1 + (Int.tmod t125 5))), .slice Ao32 x128001_1.length co32, .slice Ao33 x128002_1.length co33, .slice none 0 0] 28 (0, 0)) (by (with_reducible repeat (first | refine blk_drewN ?_ _ | refine blk_drew ?_ | refine blk_alloc ?_ _)); exact BK127.out) k_ hk, Kd.freshB (g := gb141) (o := .cells #[.int .u64 t130, .int .u16 t131, .int .i64 t132, .int .i64 t133, .int .i64 t134, .int .i64 t135, .int .i64 t136, .slice Ao19 t137.length co19] 51 (0, 0)) (by (with_reducible repeat (first | refine blk_drewN ?_ _ | refine blk_drew ?_ | refine blk_alloc ?_ _)); exact BK141.out) k_ hk, IsS54.fresh (by repeat (first | (with_reducible first | exact HI0.out | apply IsS54.alloc | apply IsS54.drewN | apply IsS54.drew | apply IsS54.set_1 | refine IsS54.far ?_ NB0_124.out _ | refine IsS54.far ?_ NB0_127.out _ | refine IsS54.far ?_ NB0_141.out _) | exact HI0.out)) k_ hk⟩))
    (case aO => exact (by (with_reducible repeat (first | apply Kd.N_alloc | apply Kd.N_drewN | apply Kd.N_drew)); exact Kd.N_mono HO_128001.out (fun _ hk => ⟨hk.1.1, ⟨hk.1.2.1, ⟨hk.1.2.2.1, ⟨hk.1.2.2.2.2.1, ⟨hk.1.2.2.2.2.2.1, ⟨hk.1.2.2.2.2.2.2.1, hk.1.2.2.2.2.2.2.2⟩⟩⟩⟩⟩⟩)))
    (case aS => exact (keep_size (w := w) (g := g) (row := none) (by repeat (first | (with_reducible first | exact HK.out | apply KeepBut.set_ | apply keep_drewN | apply keep_drew | apply keep_alloc | refine keep_far ?_ GW124.out _ | refine keep_far ?_ GW127.out _ | refine keep_far ?_ GW141.out _) | exact HK.out))))
    (case aL => have := LMc30.out; omega)
    intro v154 w37 ho hb hg hat
    rw [← Ny153.out] at ho
    have n0_ := Aside0.mk (Kd.R_over' (by (with_reducible repeat (first | apply Kd.R_alloc | apply Kd.R_drewN | apply Kd.R_drew)); exact HO_6.out) (Kd.N_typed (by (with_reducible repeat (first | apply Kd.N_alloc | apply Kd.N_drewN | apply Kd.N_drew)); exact HO_128001.out)) (by decide) hg)
    have n1_ := Aside0.mk (Kd.N_afterv (ok := (fun k_ => (w.heap.size ≤ k_) ∧ some k_ ≠ (u6 : Value).ownBlock ∧ some k_ ≠ (.slice Ao38 y150.length co38 : Value).ownBlock ∧ k_ ≠ gb124 ∧ k_ ≠ gb127 ∧ k_ ≠ gb141 ∧ k_ ≠ g)) (by (with_reducible repeat (first | apply Kd.N_alloc | apply Kd.N_drewN | apply Kd.N_drew)); exact Kd.N_mono HO_128002.out (fun _ hk => ⟨⟨hk.1.1, ⟨hk.1.2.1, ⟨hk.2, ⟨hk.1.2.2.2.2.1, ⟨hk.1.2.2.2.2.2.1, ⟨hk.1.2.2.2.2.2.2.1, hk.1.2.2.2.2.2.2.2⟩⟩⟩⟩⟩⟩, hk.1.2.2.1⟩)) hg hat)
    have n2_ := Aside0.mk (blk_grown (g := gb124) (o := .cells #[.int .i64 0, .slice none 0 0, .slice none 0 0, .slice none 0 0] 28 (0, 0)) (by (with_reducible repeat (first | refine blk_drewN ?_ _ | refine blk_drew ?_ | refine blk_alloc ?_ _)); exact BK124.out) hg (Kd.N_ne HO_128001.out BK124.out (by decide)))
    have n3_ := Aside0.mk (blk_grown (g := gb127) (o := .cells #[.int .i64 (wrap64 (1 + (Int.tmod t125 5))), .slice Ao32 x128001_1.length co32, .slice Ao33 x128002_1.length co33, .slice none 0 0] 28 (0, 0)) (by (with_reducible repeat (first | refine blk_drewN ?_ _ | refine blk_drew ?_ | refine blk_alloc ?_ _)); exact BK127.out) hg (Kd.N_ne HO_128001.out BK127.out (by decide)))
    have n4_ := Aside0.mk (blk_grown (g := gb141) (o := .cells #[.int .u64 t130, .int .u16 t131, .int .i64 t132, .int .i64 t133, .int .i64 t134, .int .i64 t135, .int .i64 t136, .slice Ao19 t137.length co19] 51 (0, 0)) (by (with_reducible repeat (first | refine blk_drewN ?_ _ | refine blk_drew ?_ | refine blk_alloc ?_ _)); exact BK141.out) hg (Kd.N_away HO_128001.out (fun _ hk => hk.1.2.2.2.2.2.2.1)))
    have n5_ := Aside0.mk (IsS54.grown (by repeat (first | (with_reducible first | exact HI0.out | apply IsS54.alloc | apply IsS54.drewN | apply IsS54.drew | apply IsS54.set_1 | refine IsS54.far ?_ NB0_124.out _ | refine IsS54.far ?_ NB0_127.out _ | refine IsS54.far ?_ NB0_141.out _) | exact HI0.out)) hg (IsS54.own_neN HI0.out HO_128001.out (by decide)))
    have n6_ := Aside0.mk (Kd.N_afterv (ok := (fun k_ => (w.heap.size ≤ k_) ∧ some k_ ≠ (u6 : Value).ownBlock ∧ some k_ ≠ (.slice Ao33 x128002_1.length co33 : Value).ownBlock ∧ k_ ≠ gb124 ∧ k_ ≠ gb127 ∧ k_ ≠ gb141 ∧ k_ ≠ g)) (by (with_reducible repeat (first | apply Kd.N_alloc | apply Kd.N_drewN | apply Kd.N_drew)); exact Kd.N_mono HO152.out (fun _ hk => ⟨⟨hk.1, ⟨hk.2.1, ⟨hk.2.2.2.1, ⟨hk.2.2.2.2.1, ⟨hk.2.2.2.2.2.1, ⟨hk.2.2.2.2.2.2.1, hk.2.2.2.2.2.2.2⟩⟩⟩⟩⟩⟩, hk.2.2.1⟩)) hg hat)
    have n7_ := Aside0.mk (below_weaken (by repeat (first | (with_reducible first | exact HB.out | apply below_alloc | apply pw_below_drewN | apply below_drew1 | refine below_set ?_ (IsS54.ge HI0.out) | refine below_set ?_ GE124.out | refine below_set ?_ GE127.out | refine below_set ?_ GE141.out) | exact HB.out)) HL.out hb)
    have n8_ := Aside0.mk (KeepBut.trans (by repeat (first | (with_reducible first | exact HK.out | apply KeepBut.set_ | apply keep_drewN | apply keep_drew | apply keep_alloc | refine keep_far ?_ GW124.out _ | refine keep_far ?_ GW127.out _ | refine keep_far ?_ GW141.out _) | exact HK.out)) (KeepBut.of_grown hg g) (Kd.N_base2 HO_128001.out))
    have n9_ := Aside0.mk (ho)
    clear HO_6
    clear HO_128002
    clear BK124
    clear BK127
    clear BK141
    clear HI0
    clear HO152
    clear HB
    clear HK
    clear HO_128001
    have HO_6 := n0_
    have HO_128002 := n1_
    have BK124 := n2_
    have BK127 := n3_
    have BK141 := n4_
    have HI0 := n5_
    have HO152 := n6_
    have HB := n7_
    have HK := n8_
    have HO155 := n9_
    clear n0_ n1_ n2_ n3_ n4_ n5_ n6_ n7_ n8_ n9_
    clear ho hb hg hat
    obtain ⟨Ao39, co39, eo39⟩ := Kd.R_slice HO_6.out
    (first | subst eo39 | (injection eo39 with f1_ f2_ f3_; have f4_ := f1_.symm; have f5_ := f3_.symm; clear f1_ f2_ f3_; subst f4_; subst f5_))
    refine hK.out _ _ ⟨(blk_cell BK127.out 0).trans rfl, (blk_cell BK127.out 1).trans rfl, (blk_cell BK127.out 2).trans rfl, (blk_cell BK127.out 3).trans rfl, (blk_cell BK141.out 0).trans rfl, (blk_cell BK141.out 1).trans rfl, (blk_cell BK141.out 2).trans rfl, (blk_cell BK141.out 3).trans rfl, (blk_cell BK141.out 4).trans rfl, (blk_cell BK141.out 5).trans rfl, (blk_cell BK141.out 6).trans rfl, (blk_cell BK141.out 7).trans rfl⟩ (fun hHeld => ?_)
    clear hK K
    refine norm_ (a' := ?_) ?_ ?_
    rotate_left
    ·show Act.put _ (some 41) _ = _
     simp only [Act.put, List.setIfInBounds_toArray, List.set_cons_zero, List.set_cons_succ, i64_w, i32_w]
     rfl
    refine pure_ (i := 10) (N := some 47) (v := ?_) (a' := ?_) #[true, true, true, true, true, true, true, true, false, false, true, false, false, false] rfl rfl (any_of HT_.out (by kernel_rfl)) (fun _ _ _ h => h) (Or.inl ⟨by rfl, ?_⟩) ?_ ?_
    rotate_left
    ·intro w'
     go_simp
     with_reducible rfl
    rotate_left
    ·simp only [Act.put, List.setIfInBounds_toArray, List.set_cons_zero, List.set_cons_succ, i64_w, i32_w]
     rfl
    refine one_ (i := 8) (N := some 45) #[true, true, true, true, true, true, true, true, true, false, true, false, false, false] rfl rfl (one_of HT_.out (by kernel_rfl)) (by decide) (fun K hK => ?_)
    refine Kd.N_lit_step (Kd.slice 3 (Kd.int .i64)) _ 64 ?hg (N' := 45) ?hd (xs := ([x6_2] : List (List Int))) (inner := [.slice Ao39 x6_2.length co39]) (ok := (fun k_ => (w.heap.size ≤ k_) ∧ some k_ ≠ (.slice Ao33 x128002_1.length co33 : Value).ownBlock ∧ some k_ ≠ (.slice Ao38 y150.length co38 : Value).ownBlock ∧ some k_ ≠ (v154 : Value).ownBlock ∧ k_ ≠ gb124 ∧ k_ ≠ gb127 ∧ k_ ≠ gb141 ∧ k_ ≠ g)) (okp := (fun k_ => (w.heap.size ≤ k_) ∧ some k_ ≠ (.slice Ao33 x128002_1.length co33 : Value).ownBlock ∧ some k_ ≠ (.slice Ao38 y150.length co38 : Value).ownBlock ∧ some k_ ≠ (v154 : Value).ownBlock ∧ k_ ≠ gb124 ∧ k_ ≠ gb127 ∧ k_ ≠ gb141 ∧ k_ ≠ g)) ?hr ?hp (fun _ hk => hk) ((show ∀ k_, w37.heap.size ≤ k_ → (fun k_ => (w.heap.size ≤ k_) ∧ some k_ ≠ (.slice Ao33 x128002_1.length co33 : Value).ownBlock ∧ some k_ ≠ (.slice Ao38 y150.length co38 : Value).ownBlock ∧ some k_ ≠ (v154 : Value).ownBlock ∧ k_ ≠ gb124 ∧ k_ ≠ gb127 ∧ k_ ≠ gb141 ∧ k_ ≠ g) k_ from fun k_ hk => ⟨(Nat.le_trans (keep_size (w := w) (g := g) (row := none) (by repeat (first | (with_reducible first | exact HK.out | apply KeepBut.set_ | apply keep_drewN | apply keep_drew | apply keep_alloc | refine keep_far ?_ GW124.out _ | refine keep_far ?_ GW127.out _ | refine keep_far ?_ GW141.out _) | exact HK.out))) hk), Kd.fresh' (Kd.N_lt (by (with_reducible repeat (first | apply Kd.N_alloc | apply Kd.N_drewN | apply Kd.N_drew)); exact HO_128002.out)) k_ hk, Kd.fresh' (Kd.N_lt (by (with_reducible repeat (first | apply Kd.N_alloc | apply Kd.N_drewN | apply Kd.N_drew)); exact HO152.out)) k_ hk, Kd.fresh' (Kd.N_lt (by (with_reducible repeat (first | apply Kd.N_alloc | apply Kd.N_drewN | apply Kd.N_drew)); exact HO155.out)) k_ hk, Kd.freshB (g := gb124) (o := .cells #[.int .i64 0, .slice none 0 0, .slice none 0 0, .slice none 0 0] 28 (0, 0)) (by (with_reducible repeat (first | refine blk_drewN ?_ _ | refine blk_drew ?_ | refine blk_alloc ?_ _)); exact BK124.out) k_ hk, Kd.freshB (g := gb127) (o := .cells #[.int .i64 (wrap64 (1 + (Int.tmod t125 5))), .slice Ao32 x128001_1.length co32, .slice Ao33 x128002_1.length co33, .slice none 0 0] 28 (0, 0)) (by (with_reducible repeat (first | refine blk_drewN ?_ _ | refine blk_drew ?_ | refine blk_alloc ?_ _)); exact BK127.out) k_ hk, Kd.freshB (g := gb141) (o := .cells #[.int .u64 t130, .int .u16 t131, .int .i64 t132, .int .i64 t133, .int .i64 t134, .int .i64 t135, .int .i64 t136, .slice Ao19 t137.length co19] 51 (0, 0)) (by (with_reducible repeat (first | refine blk_drewN ?_ _ | refine blk_drew ?_ | refine blk_alloc ?_ _)); exact BK141.out) k_ hk, IsS54.fresh (by repeat (first | (with_reducible first | exact HI0.out | apply IsS54.alloc | apply IsS54.drewN | apply IsS54.drew | apply IsS54.set_1 | refine IsS54.far ?_ NB0_124.out _ | refine IsS54.far ?_ NB0_127.out _ | refine IsS54.far ?_ NB0_141.out _) | exact HI0.out)) k_ hk⟩) _ (Nat.le_refl _)) (Below.refl _ _) (Nat.le_refl _) (by simp) ?_; (case hd => rfl); (case hg => rfl); (case hr => first | (go_simp; done) | (go_simp; rfl)); (case hp => exact (Reps.one (show Kd.FK (Kd.slice 3 (Kd.int .i64)) _ _ x6_2 [.slice Ao39 x6_2.length co39] from (Kd.FK_slice_mk (Kd.R_reads' (Kd.R_mono (ok' := (fun k_ => (w.heap.size ≤ k_) ∧ some k_ ≠ (.slice Ao33 x128002_1.length co33 : Value).ownBlock ∧ some k_ ≠ (.slice Ao38 y150.length co38 : Value).ownBlock ∧ some k_ ≠ (v154 : Value).ownBlock ∧ k_ ≠ gb124 ∧ k_ ≠ gb127 ∧ k_ ≠ gb141 ∧ k_ ≠ g)) (IsS54.apart HI0.out (Kd.R_types (Kd.R_types (Kd.R_types (Kd.R_apart' (Kd.R_apart' (Kd.R_apart' (HO_6.out) (Kd.N_typed HO_128002.out) (by decide)) (Kd.N_typed HO152.out) (by decide)) (Kd.N_typed HO155.out) (by decide)) BK124.out (by decide)) BK127.out (by decide)) BK141.out (by decide)) (by decide)) (fun k_ hk => ⟨hk.1.1.1.1.1.1.1, ⟨hk.1.1.1.1.1.1.2, ⟨hk.1.1.1.1.1.2, ⟨hk.1.1.1.1.2, ⟨hk.1.1.1.2, ⟨hk.1.1.2, ⟨hk.1.2, hk.2⟩⟩⟩⟩⟩⟩⟩))).2.1 (Kd.R_F (Kd.R_mono (ok' := (fun k_ => (w.heap.size ≤ k_) ∧ some k_ ≠ (.slice Ao33 x128002_1.length co33 : Value).ownBlock ∧ some k_ ≠ (.slice Ao38 y150.length co38 : Value).ownBlock ∧ some k_ ≠ (v154 : Value).ownBlock ∧ k_ ≠ gb124 ∧ k_ ≠ gb127 ∧ k_ ≠ gb141 ∧ k_ ≠ g)) (IsS54.apart HI0.out (Kd.R_types (Kd.R_types (Kd.R_types (Kd.R_apart' (Kd.R_apart' (Kd.R_apart' (HO_6.out) (Kd.N_typed HO_128002.out) (by decide)) (Kd.N_typed HO152.out) (by decide)) (Kd.N_typed HO155.out) (by decide)) BK124.out (by decide)) BK127.out (by decide)) BK141.out (by decide)) (by decide)) (fun k_ hk => ⟨hk.1.1.1.1.1.1.1, ⟨hk.1.1.1.1.1.1.2, ⟨hk.1.1.1.1.1.2, ⟨hk.1.1.1.1.2, ⟨hk.1.1.1.2, ⟨hk.1.1.2, ⟨hk.1.2, hk.2⟩⟩⟩⟩⟩⟩⟩))))) (Reps.none _ _)))
    intro v157 w40 ho41 hb hg_ hnew_
    clear hg_ hnew_
    (first | rw [← Ny156.out] at ho41 | (simp only [Int.reduceToNat] at ho41; rw [← Ny156.out] at ho41))
    have n0_ := Aside0.mk (Kd.N_elder' (by (with_reducible repeat (first | apply Kd.N_alloc | apply Kd.N_drewN | apply Kd.N_drew)); exact HO_128002.out) (Kd.N_base ho41) hb)
    have n1_ := Aside0.mk (Kd.N_elder' (by (with_reducible repeat (first | apply Kd.N_alloc | apply Kd.N_drewN | apply Kd.N_drew)); exact HO152.out) (Kd.N_base ho41) hb)
    have n2_ := Aside0.mk (Kd.N_elder' (by (with_reducible repeat (first | apply Kd.N_alloc | apply Kd.N_drewN | apply Kd.N_drew)); exact HO155.out) (Kd.N_base ho41) hb)
    have n3_ := Aside0.mk (Kd.N_lower ho41 (keep_size (w := w) (g := g) (row := none) (by repeat (first | (with_reducible first | exact HK.out | apply KeepBut.set_ | apply keep_drewN | apply keep_drew | apply keep_alloc | refine keep_far ?_ GW124.out _ | refine keep_far ?_ GW127.out _ | refine keep_far ?_ GW141.out _) | exact HK.out))))
    have n4_ := Aside0.mk (blk_below (g := gb124) (o := .cells #[.int .i64 0, .slice none 0 0, .slice none 0 0, .slice none 0 0] 28 (0, 0)) (by (with_reducible repeat (first | refine blk_drewN ?_ _ | refine blk_drew ?_ | refine blk_alloc ?_ _)); exact BK124.out) hb)
    have n5_ := Aside0.mk (blk_below (g := gb127) (o := .cells #[.int .i64 (wrap64 (1 + (Int.tmod t125 5))), .slice Ao32 x128001_1.length co32, .slice Ao33 x128002_1.length co33, .slice none 0 0] 28 (0, 0)) (by (with_reducible repeat (first | refine blk_drewN ?_ _ | refine blk_drew ?_ | refine blk_alloc ?_ _)); exact BK127.out) hb)
    have n6_ := Aside0.mk (blk_below (g := gb141) (o := .cells #[.int .u64 t130, .int .u16 t131, .int .i64 t132, .int .i64 t133, .int .i64 t134, .int .i64 t135, .int .i64 t136, .slice Ao19 t137.length co19] 51 (0, 0)) (by (with_reducible repeat (first | refine blk_drewN ?_ _ | refine blk_drew ?_ | refine blk_alloc ?_ _)); exact BK141.out) hb)
    have n7_ := Aside0.mk (IsS54.below (by repeat (first | (with_reducible first | exact HI0.out | apply IsS54.alloc | apply IsS54.drewN | apply IsS54.drew | apply IsS54.set_1 | refine IsS54.far ?_ NB0_124.out _ | refine IsS54.far ?_ NB0_127.out _ | refine IsS54.far ?_ NB0_141.out _) | exact HI0.out)) hb)
    have n8_ := Aside0.mk (KeepBut.trans (by repeat (first | (with_reducible first | exact HK.out | apply KeepBut.set_ | apply keep_drewN | apply keep_drew | apply keep_alloc | refine keep_far ?_ GW124.out _ | refine keep_far ?_ GW127.out _ | refine keep_far ?_ GW141.out _) | exact HK.out)) (KeepBut.of_below hb g none) (.inl rfl))
    have n9_ := Aside0.mk (below_step (by repeat (first | (with_reducible first | exact HB.out | apply below_alloc | apply pw_below_drewN | apply below_drew1 | refine below_set ?_ (IsS54.ge HI0.out) | refine below_set ?_ GE124.out | refine below_set ?_ GE127.out | refine below_set ?_ GE141.out) | exact HB.out)) hb)
    clear HO_128002
    clear HO152
    clear HO155
    clear BK124
    clear BK127
    clear BK141
    clear HI0
    clear HK
    clear HB
    clear HO_6
    have HO_128002 := n0_
    have HO152 := n1_
    have HO155 := n2_
    have HO158 := n3_
    have BK124 := n4_
    have BK127 := n5_
    have BK141 := n6_
    have HI0 := n7_
    have HK := n8_
    have HB := n9_
    clear n0_ n1_ n2_ n3_ n4_ n5_ n6_ n7_ n8_ n9_
    clear hb ho41
    refine hK.out _ _ ⟨(blk_cell BK127.out 0).trans rfl, (blk_cell BK127.out 1).trans rfl, (blk_cell BK127.out 2).trans rfl, (blk_cell BK127.out 3).trans rfl, (blk_cell BK141.out 0).trans rfl, (blk_cell BK141.out 1).trans rfl, (blk_cell BK141.out 2).trans rfl, (blk_cell BK141.out 3).trans rfl, (blk_cell BK141.out 4).trans rfl, (blk_cell BK141.out 5).trans rfl, (blk_cell BK141.out 6).trans rfl, (blk_cell BK141.out 7).trans rfl⟩ (fun hHeld => ?_)
    clear hK K
    refine norm_ (a' := ?_) ?_ ?_
    rotate_left
    ·show Act.put _ (some 45) _ = _
     simp only [Act.put, List.setIfInBounds_toArray, List.set_cons_zero, List.set_cons_succ, i64_w, i32_w]
     rfl
    exact norm_ (by simp only [putAll, Act.put, List.setIfInBounds_toArray, List.set_cons_zero, List.set_cons_succ]) (hCont (.slice Ao38 y150.length co38, v154, v157) _ ⟨hHeld, (by (with_reducible repeat (first | apply Kd.N_alloc | apply Kd.N_drewN | apply Kd.N_drew)); exact Kd.N_mono HO152.out (fun _ hk => ⟨hk.1.1.1, ⟨hk.1.2, ⟨hk.2, ⟨hk.1.1.2.2.1, ⟨hk.1.1.2.2.2.2.2.2, ⟨hk.1.1.2.2.2.1, ⟨hk.1.1.2.2.2.2.1, hk.1.1.2.2.2.2.2.1⟩⟩⟩⟩⟩⟩⟩)), (by (with_reducible repeat (first | apply Kd.N_alloc | apply Kd.N_drewN | apply Kd.N_drew)); exact Kd.N_mono HO155.out (fun _ hk => ⟨hk.1.1, ⟨hk.2, ⟨hk.1.2.2.1, ⟨hk.1.2.2.2.2.2.2, ⟨hk.1.2.2.2.1, ⟨hk.1.2.2.2.2.1, hk.1.2.2.2.2.2.1⟩⟩⟩⟩⟩⟩)), (by (with_reducible repeat (first | apply Kd.N_alloc | apply Kd.N_drewN | apply Kd.N_drew)); exact Kd.N_mono HO158.out (fun _ hk => ⟨hk.1, ⟨hk.2.2.1, ⟨hk.2.2.2.1, ⟨hk.2.1, ⟨hk.2.2.2.2.2.2.2, ⟨hk.2.2.2.2.1, ⟨hk.2.2.2.2.2.1, hk.2.2.2.2.2.2.1⟩⟩⟩⟩⟩⟩⟩)), (by (with_reducible repeat (first | apply Kd.N_alloc | apply Kd.N_drewN | apply Kd.N_drew)); exact Kd.N_mono HO_128002.out (fun _ hk => ⟨hk.1.1.1, ⟨hk.1.1.2.2.1, ⟨hk.1.2, ⟨hk.2, ⟨hk.1.1.2.2.2.2.2.2, ⟨hk.1.1.2.2.2.1, ⟨hk.1.1.2.2.2.2.1, hk.1.1.2.2.2.2.2.1⟩⟩⟩⟩⟩⟩⟩)), (by (with_reducible repeat (first | refine blk_drewN ?_ _ | refine blk_drew ?_ | refine blk_alloc ?_ _)); exact BK124.out), (by (with_reducible repeat (first | refine blk_drewN ?_ _ | refine blk_drew ?_ | refine blk_alloc ?_ _)); exact BK127.out), (by (with_reducible repeat (first | refine blk_drewN ?_ _ | refine blk_drew ?_ | refine blk_alloc ?_ _)); exact BK141.out), (by repeat (first | (with_reducible first | exact HI0.out | apply IsS54.alloc | apply IsS54.drewN | apply IsS54.drew | apply IsS54.set_1 | refine IsS54.far ?_ NB0_124.out _ | refine IsS54.far ?_ NB0_127.out _ | refine IsS54.far ?_ NB0_141.out _) | exact HI0.out)), (by repeat (first | (with_reducible first | exact HK.out | apply KeepBut.set_ | apply keep_drewN | apply keep_drew | apply keep_alloc | refine keep_far ?_ GW124.out _ | refine keep_far ?_ GW127.out _ | refine keep_far ?_ GW141.out _) | exact HK.out)), (by repeat (first | (with_reducible first | exact HB.out | apply below_alloc | apply pw_below_drewN | apply below_drew1 | refine below_set ?_ (IsS54.ge HI0.out) | refine below_set ?_ GE124.out | refine below_set ?_ GE127.out | refine below_set ?_ GE141.out) | exact HB.out))⟩)
   skip
   obtain ⟨Ao37, co37, eo37⟩ := Kd.R_slice HO_6.out
   (first | subst eo37 | (injection eo37 with f1_ f2_ f3_; have f4_ := f1_.symm; have f5_ := f3_.symm; clear f1_ f2_ f3_; subst f4_; subst f5_))
   refine Kd.N_lit_step (Kd.slice 3 (Kd.int .i64)) _ 64 ?hg (N' := 45) ?hd (xs := ([x6_2] : List (List Int))) (inner := [.slice Ao37 x6_2.length co37]) (ok := (fun k_ => (w.heap.size ≤ k_) ∧ some k_ ≠ (.slice Ao32 x128001_1.length co32 : Value).ownBlock ∧ some k_ ≠ (.slice Ao33 x128002_1.length co33 : Value).ownBlock ∧ some k_ ≠ ((.slice Ao38 y150.length co38) : Value).ownBlock ∧ k_ ≠ gb124 ∧ k_ ≠ gb127 ∧ k_ ≠ gb141 ∧ k_ ≠ g)) (okp := (fun k_ => (w.heap.size ≤ k_) ∧ some k_ ≠ (.slice Ao32 x128001_1.length co32 : Value).ownBlock ∧ some k_ ≠ (.slice Ao33 x128002_1.length co33 : Value).ownBlock ∧ some k_ ≠ ((.slice Ao38 y150.length co38) : Value).ownBlock ∧ k_ ≠ gb124 ∧ k_ ≠ gb127 ∧ k_ ≠ gb141 ∧ k_ ≠ g)) ?hr ?hp (fun _ hk => hk) ((show ∀ k_, w35.heap.size ≤ k_ → (fun k_ => (w.heap.size ≤ k_) ∧ some k_ ≠ (.slice Ao32 x128001_1.length co32 : Value).ownBlock ∧ some k_ ≠ (.slice Ao33 x128002_1.length co33 : Value).ownBlock ∧ some k_ ≠ ((.slice Ao38 y150.length co38) : Value).ownBlock ∧ k_ ≠ gb124 ∧ k_ ≠ gb127 ∧ k_ ≠ gb141 ∧ k_ ≠ g) k_ from fun k_ hk => ⟨(Nat.le_trans (keep_size (w := w) (g := g) (row := none) (by repeat (first | (with_reducible first | exact HK.out | apply KeepBut.set_ | apply keep_drewN | apply keep_drew | apply keep_alloc | refine keep_far ?_ GW124.out _ | refine keep_far ?_ GW127.out _ | refine keep_far ?_ GW141.out _) | exact HK.out))) hk), Kd.fresh' (Kd.N_lt (by (with_reducible repeat (first | apply Kd.N_alloc | apply Kd.N_drewN | apply Kd.N_drew)); exact HO_128001.out)) k_ hk, Kd.fresh' (Kd.N_lt (by (with_reducible repeat (first | apply Kd.N_alloc | apply Kd.N_drewN | apply Kd.N_drew)); exact HO_128002.out)) k_ hk, Kd.fresh' (Kd.N_lt (by (with_reducible repeat (first | apply Kd.N_alloc | apply Kd.N_drewN | apply Kd.N_drew)); exact HO152.out)) k_ hk, Kd.freshB (g := gb124) (o := .cells #[.int .i64 0, .slice none 0 0, .slice none 0 0, .slice none 0 0] 28 (0, 0)) (by (with_reducible repeat (first | refine blk_drewN ?_ _ | refine blk_drew ?_ | refine blk_alloc ?_ _)); exact BK124.out) k_ hk, Kd.freshB (g := gb127) (o := .cells #[.int .i64 (wrap64 (1 + (Int.tmod t125 5))), .slice Ao32 x128001_1.length co32, .slice Ao33 x128002_1.length co33, .slice none 0 0] 28 (0, 0)) (by (with_reducible repeat (first | refine blk_drewN ?_ _ | refine blk_drew ?_ | refine blk_alloc ?_ _)); exact BK127.out) k_ hk, Kd.freshB (g := gb141) (o := .cells #[.int .u64 t130, .int .u16 t131, .int .i64 t132, .int .i64 t133, .int .i64 t134, .int .i64 t135, .int .i64 t136, .slice Ao19 t137.length co19] 51 (0, 0)) (by (with_reducible repeat (first | refine blk_drewN ?_ _ | refine blk_drew ?_ | refine blk_alloc ?_ _)); exact BK141.out) k_ hk, IsS54.fresh (by repeat (first | (with_reducible first | exact HI0.out | apply IsS54.alloc | apply IsS54.drewN | apply IsS54.drew | apply IsS54.set_1 | refine IsS54.far ?_ NB0_124.out _ | refine IsS54.far ?_ NB0_127.out _ | refine IsS54.far ?_ NB0_141.out _) | exact HI0.out)) k_ hk⟩) _ (Nat.le_refl _)) (Below.refl _ _) (Nat.le_refl _) (by simp) ?_; (case hd => rfl); (case hg => rfl); (case hr => first | (go_simp; done) | (go_simp; rfl)); (case hp => exact (Reps.one (show Kd.FK (Kd.slice 3 (Kd.int .i64)) _ _ x6_2 [.slice Ao37 x6_2.length co37] from (Kd.FK_slice_mk (Kd.R_reads' (Kd.R_mono (ok' := (fun k_ => (w.heap.size ≤ k_) ∧ some k_ ≠ (.slice Ao32 x128001_1.length co32 : Value).ownBlock ∧ some k_ ≠ (.slice Ao33 x128002_1.length co33 : Value).ownBlock ∧ some k_ ≠ ((.slice Ao38 y150.length co38) : Value).ownBlock ∧ k_ ≠ gb124 ∧ k_ ≠ gb127 ∧ k_ ≠ gb141 ∧ k_ ≠ g)) (IsS54.apart HI0.out (Kd.R_types (Kd.R_types (Kd.R_types (Kd.R_apart' (Kd.R_apart' (Kd.R_apart' (HO_6.out) (Kd.N_typed HO_128001.out) (by decide)) (Kd.N_typed HO_128002.out) (by decide)) (Kd.N_typed HO152.out) (by decide)) BK124.out (by decide)) BK127.out (by decide)) BK141.out (by decide)) (by decide)) (fun k_ hk => ⟨hk.1.1.1.1.1.1.1, ⟨hk.1.1.1.1.1.1.2, ⟨hk.1.1.1.1.1.2, ⟨hk.1.1.1.1.2, ⟨hk.1.1.1.2, ⟨hk.1.1.2, ⟨hk.1.2, hk.2⟩⟩⟩⟩⟩⟩⟩))).2.1 (Kd.R_F (Kd.R_mono (ok' := (fun k_ => (w.heap.size ≤ k_) ∧ some k_ ≠ (.slice Ao32 x128001_1.length co32 : Value).ownBlock ∧ some k_ ≠ (.slice Ao33 x128002_1.length co33 : Value).ownBlock ∧ some k_ ≠ ((.slice Ao38 y150.length co38) : Value).ownBlock ∧ k_ ≠ gb124 ∧ k_ ≠ gb127 ∧ k_ ≠ gb141 ∧ k_ ≠ g)) (IsS54.apart HI0.out (Kd.R_types (Kd.R_types (Kd.R_types (Kd.R_apart' (Kd.R_apart' (Kd.R_apart' (HO_6.out) (Kd.N_typed HO_128001.out) (by decide)) (Kd.N_typed HO_128002.out) (by decide)) (Kd.N_typed HO152.out) (by decide)) BK124.out (by decide)) BK127.out (by decide)) BK141.out (by decide)) (by decide)) (fun k_ hk => ⟨hk.1.1.1.1.1.1.1, ⟨hk.1.1.1.1.1.1.2, ⟨hk.1.1.1.1.1.2, ⟨hk.1.1.1.1.2, ⟨hk.1.1.1.2, ⟨hk.1.1.2, ⟨hk.1.2, hk.2⟩⟩⟩⟩⟩⟩⟩))))) (Reps.none _ _)))
   intro v157 w38 ho39 hb hg_ hnew_
   clear hg_ hnew_
   (first | rw [← Ny156.out] at ho39 | (simp only [Int.reduceToNat] at ho39; rw [← Ny156.out] at ho39))
   have n0_ := Aside0.mk (Kd.N_elder' (by (with_reducible repeat (first | apply Kd.N_alloc | apply Kd.N_drewN | apply Kd.N_drew)); exact HO_128001.out) (Kd.N_base ho39) hb)
   have n1_ := Aside0.mk (Kd.N_elder' (by (with_reducible repeat (first | apply Kd.N_alloc | apply Kd.N_drewN | apply Kd.N_drew)); exact HO_128002.out) (Kd.N_base ho39) hb)
   have n2_ := Aside0.mk (Kd.N_elder' (by (with_reducible repeat (first | apply Kd.N_alloc | apply Kd.N_drewN | apply Kd.N_drew)); exact HO152.out) (Kd.N_base ho39) hb)
   have n3_ := Aside0.mk (Kd.N_lower ho39 (keep_size (w := w) (g := g) (row := none) (by repeat (first | (with_reducible first | exact HK.out | apply KeepBut.set_ | apply keep_drewN | apply keep_drew | apply keep_alloc | refine keep_far ?_ GW124.out _ | refine keep_far ?_ GW127.out _ | refine keep_far ?_ GW141.out _) | exact HK.out))))
   have n4_ := Aside0.mk (blk_below (g := gb124) (o := .cells #[.int .i64 0, .slice none 0 0, .slice none 0 0, .slice none 0 0] 28 (0, 0)) (by (with_reducible repeat (first | refine blk_drewN ?_ _ | refine blk_drew ?_ | refine blk_alloc ?_ _)); exact BK124.out) hb)
   have n5_ := Aside0.mk (blk_below (g := gb127) (o := .cells #[.int .i64 (wrap64 (1 + (Int.tmod t125 5))), .slice Ao32 x128001_1.length co32, .slice Ao33 x128002_1.length co33, .slice none 0 0] 28 (0, 0)) (by (with_reducible repeat (first | refine blk_drewN ?_ _ | refine blk_drew ?_ | refine blk_alloc ?_ _)); exact BK127.out) hb)
   have n6_ := Aside0.mk (blk_below (g := gb141) (o := .cells #[.int .u64 t130, .int .u16 t131, .int .i64 t132, .int .i64 t133, .int .i64 t134, .int .i64 t135, .int .i64 t136, .slice Ao19 t137.length co19] 51 (0, 0)) (by (with_reducible repeat (first | refine blk_drewN ?_ _ | refine blk_drew ?_ | refine blk_alloc ?_ _)); exact BK141.out) hb)
   have n7_ := Aside0.mk (IsS54.below (by repeat (first | (with_reducible first | exact HI0.out | apply IsS54.alloc | apply IsS54.drewN | apply IsS54.drew | apply IsS54.set_1 | refine IsS54.far ?_ NB0_124.out _ | refine IsS54.far ?_ NB0_127.out _ | refine IsS54.far ?_ NB0_141.out _) | exact HI0.out)) hb)
   have n8_ := Aside0.mk (KeepBut.trans (by repeat (first | (with_reducible first | exact HK.out | apply KeepBut.set_ | apply keep_drewN | apply keep_drew | apply keep_alloc | refine keep_far ?_ GW124.out _ | refine keep_far ?_ GW127.out _ | refine keep_far ?_ GW141.out _) | exact HK.out)) (KeepBut.of_below hb g none) (.inl rfl))
   have n9_ := Aside0.mk (below_step (by repeat (first | (with_reducible first | exact HB.out | apply below_alloc | apply pw_below_drewN | apply below_drew1 | refine below_set ?_ (IsS54.ge HI0.out) | refine below_set ?_ GE124.out | refine below_set ?_ GE127.out | refine below_set ?_ GE141.out) | exact HB.out)) hb)
   clear HO_128001
   clear HO_128002
   clear HO152
   clear BK124
   clear BK127
   clear BK141
   clear HI0
   clear HK
   clear HB
   clear HO_6
   have HO_128001 := n0_
   have HO_128002 := n1_
   have HO152 := n2_
   have HO158 := n3_
   have BK124 := n4_
   have BK127 := n5_
   have BK141 := n6_
   have HI0 := n7_
   have HK := n8_
   have HB := n9_
   clear n0_ n1_ n2_ n3_ n4_ n5_ n6_ n7_ n8_ n9_
   clear hb ho39
   obtain ⟨Ao41, co41, eo41⟩ := Kd.N_slice HO152.out
   (first | subst eo41 | (injection eo41 with f1_ f2_ f3_; have f4_ := f1_.symm; have f5_ := f3_.symm; clear f1_ f2_ f3_; subst f4_; subst f5_))
   refine hK.out _ _ ⟨(blk_cell BK127.out 0).trans rfl, (blk_cell BK127.out 1).trans rfl, (blk_cell BK127.out 2).trans rfl, (blk_cell BK127.out 3).trans rfl, (blk_cell BK141.out 0).trans rfl, (blk_cell BK141.out 1).trans rfl, (blk_cell BK141.out 2).trans rfl, (blk_cell BK141.out 3).trans rfl, (blk_cell BK141.out 4).trans rfl, (blk_cell BK141.out 5).trans rfl, (blk_cell BK141.out 6).trans rfl, (blk_cell BK141.out 7).trans rfl⟩ (fun hHeld => ?_)
   clear hK K
   refine norm_ (a' := ?_) ?_ ?_
   rotate_left
   ·show Act.put _ (some 45) _ = _
    simp only [Act.put, List.setIfInBounds_toArray, List.set_cons_zero, List.set_cons_succ, i64_w, i32_w]
    rfl
   refine one_ (i := 4) (N := some 41) #[true, true, true, true, true, true, true, true, true, false, false, false, false, false] rfl rfl (one_of HT_.out (by kernel_rfl)) (by decide) (fun K hK => ?_)
   refine Kd.N_append_rows_step k51 w.heap.size (by rfl) (.tmp 38) (.tmp 40) 24 51 (.agg #[(.int .u64 0), (.int .u16 0), (.int .i64 0), (.int .i64 0), (.int .i64 0), (.int .i64 0), (.int .i64 0), (.slice none 0 0)]) 80 rfl Tryd.underlying24 info51 rfl (by decide) (by omega) (.slice Ao32 x128001_1.length co32) x128001_1 y150 _ _ _ (fun k_ => (w.heap.size ≤ k_) ∧ some k_ ≠ (.slice Ao33 x128002_1.length co33 : Value).ownBlock ∧ some k_ ≠ (v157 : Value).ownBlock ∧ k_ ≠ gb124 ∧ k_ ≠ gb127 ∧ k_ ≠ gb141 ∧ k_ ≠ g) (fun k_ => ((fun k_ => (w.heap.size ≤ k_) ∧ some k_ ≠ (.slice Ao33 x128002_1.length co33 : Value).ownBlock ∧ some k_ ≠ (v157 : Value).ownBlock ∧ k_ ≠ gb124 ∧ k_ ≠ gb127 ∧ k_ ≠ gb141 ∧ k_ ≠ g)) k_ ∧ some k_ ≠ (.slice Ao32 x128001_1.length co32 : Value).ownBlock) rfl rfl ?aO ?aR (fun _ hk => hk) ?aF (Below.refl _ _) ?aS ?aL ?_
   (case aR => exact (by skip; exact Kd.N_F (Kd.N_mono (ok' := (fun k_ => ((fun k_ => (w.heap.size ≤ k_) ∧ some k_ ≠ (.slice Ao33 x128002_1.length co33 : Value).ownBlock ∧ some k_ ≠ (v157 : Value).ownBlock ∧ k_ ≠ gb124 ∧ k_ ≠ gb127 ∧ k_ ≠ gb141 ∧ k_ ≠ g)) k_ ∧ some k_ ≠ (.slice Ao32 x128001_1.length co32 : Value).ownBlock)) (HO152.out) (fun k_ hk => ⟨⟨hk.1.1, ⟨hk.1.2.2.2.1, ⟨hk.2, ⟨hk.1.2.2.2.2.1, ⟨hk.1.2.2.2.2.2.1, ⟨hk.1.2.2.2.2.2.2.1, hk.1.2.2.2.2.2.2.2⟩⟩⟩⟩⟩⟩, hk.1.2.2.1⟩))))
   (case aF => exact (fun k_ hk => ⟨(Nat.le_trans (keep_size (w := w) (g := g) (row := none) (by repeat (first | (with_reducible first | exact HK.out | apply KeepBut.set_ | apply keep_drewN | apply keep_drew | apply keep_alloc | refine keep_far ?_ GW124.out _ | refine keep_far ?_ GW127.out _ | refine keep_far ?_ GW141.out _) | exact HK.out))) hk), Kd.fresh' (Kd.N_lt (by (with_reducible repeat (first | apply Kd.N_alloc | apply Kd.N_drewN | apply Kd.N_drew)); exact HO_128002.out)) k_ hk, Kd.fresh' (Kd.N_lt (by (with_reducible repeat (first | apply Kd.N_alloc | apply Kd.N_drewN | apply Kd.N_drew)); exact HO158.out)) k_ hk, Kd.freshB (g := gb124) (o := .cells #[.int .i64 0, .slice none 0 0, .slice none 0 0, .slice none 0 0] 28 (0, 0)) (by (with_reducible repeat (first | refine blk_drewN ?_ _ | refine blk_drew ?_ | refine blk_alloc ?_ _)); exact BK124.out) k_ hk, Kd.freshB (g := gb127) (o := .cells #[.int .i64 (wrap64 (1 + (Int.tmod t125 5))), .slice Ao32 x128001_1.length co32, .slice Ao33 x128002_1.length co33, .slice none 0 0] 28 (0, 0)) (by (with_reducible repeat (first | refine blk_drewN ?_ _ | refine blk_drew ?_ | refine blk_alloc ?_ _)); exact BK127.out) k_ hk, Kd.freshB (g := gb141) (o := .cells #[.int .u64 t130, .int .u16 t131, .int .i64 t132, .int .i64 t133, .int .i64 t134, .int .i64 t135, .int .i64 t136, .slice Ao19 t137.length co19] 51 (0, 0)) (by (with_reducible repeat (first | refine blk_drewN ?_ _ | refine blk_drew ?_ | refine blk_alloc ?_ _)); exact BK141.out) k_ hk, IsS54.fresh (by repeat (first | (with_reducible first | exact HI0.out | apply IsS54.alloc | apply IsS54.drewN | apply IsS54.drew | apply IsS54.set_1 | refine IsS54.far ?_ NB0_124.out _ | refine IsS54.far ?_ NB0_127.out _ | refine IsS54.far ?_ NB0_141.out _) | exact HI0.out)) k_ hk⟩))
   (case aO => exact (by (with_reducible repeat (first | apply Kd.N_alloc | apply Kd.N_drewN | apply Kd.N_drew)); exact Kd.N_mono HO_128001.out (fun _ hk => ⟨hk.1.1.1, ⟨hk.1.1.2.2.1, ⟨hk.2, ⟨hk.1.1.2.2.2.2.1, ⟨hk.1.1.2.2.2.2.2.1, ⟨hk.1.1.2.2.2.2.2.2.1, hk.1.1.2.2.2.2.2.2.2⟩⟩⟩⟩⟩⟩)))
   (case aS => exact (keep_size (w := w) (g := g) (row := none) (by repeat (first | (with_reducible first | exact HK.out | apply KeepBut.set_ | apply keep_drewN | apply keep_drew | apply keep_alloc | refine keep_far ?_ GW124.out _ | refine keep_far ?_ GW127.out _ | refine keep_far ?_ GW141.out _) | exact HK.out))))
   (case aL => have := LMc30.out; omega)
   intro v154 w40 ho hb hg hat
   rw [← Ny153.out] at ho
   have n0_ := Aside0.mk (Kd.N_afterv (ok := (fun k_ => (w.heap.size ≤ k_) ∧ some k_ ≠ (.slice Ao41 y150.length co41 : Value).ownBlock ∧ some k_ ≠ (v157 : Value).ownBlock ∧ k_ ≠ gb124 ∧ k_ ≠ gb127 ∧ k_ ≠ gb141 ∧ k_ ≠ g)) (by (with_reducible repeat (first | apply Kd.N_alloc | apply Kd.N_drewN | apply Kd.N_drew)); exact Kd.N_mono HO_128002.out (fun _ hk => ⟨⟨hk.1.1.1, ⟨hk.1.2, ⟨hk.2, ⟨hk.1.1.2.2.2.2.1, ⟨hk.1.1.2.2.2.2.2.1, ⟨hk.1.1.2.2.2.2.2.2.1, hk.1.1.2.2.2.2.2.2.2⟩⟩⟩⟩⟩⟩, hk.1.1.2.2.1⟩)) hg hat)
   have n1_ := Aside0.mk (blk_grown (g := gb124) (o := .cells #[.int .i64 0, .slice none 0 0, .slice none 0 0, .slice none 0 0] 28 (0, 0)) (by (with_reducible repeat (first | refine blk_drewN ?_ _ | refine blk_drew ?_ | refine blk_alloc ?_ _)); exact BK124.out) hg (Kd.N_ne HO_128001.out BK124.out (by decide)))
   have n2_ := Aside0.mk (blk_grown (g := gb127) (o := .cells #[.int .i64 (wrap64 (1 + (Int.tmod t125 5))), .slice Ao32 x128001_1.length co32, .slice Ao33 x128002_1.length co33, .slice none 0 0] 28 (0, 0)) (by (with_reducible repeat (first | refine blk_drewN ?_ _ | refine blk_drew ?_ | refine blk_alloc ?_ _)); exact BK127.out) hg (Kd.N_ne HO_128001.out BK127.out (by decide)))
   have n3_ := Aside0.mk (blk_grown (g := gb141) (o := .cells #[.int .u64 t130, .int .u16 t131, .int .i64 t132, .int .i64 t133, .int .i64 t134, .int .i64 t135, .int .i64 t136, .slice Ao19 t137.length co19] 51 (0, 0)) (by (with_reducible repeat (first | refine blk_drewN ?_ _ | refine blk_drew ?_ | refine blk_alloc ?_ _)); exact BK141.out) hg (Kd.N_away HO_128001.out (fun _ hk => hk.1.1.2.2.2.2.2.2.1)))
   have n4_ := Aside0.mk (IsS54.grown (by repeat (first | (with_reducible first | exact HI0.out | apply IsS54.alloc | apply IsS54.drewN | apply IsS54.drew | apply IsS54.set_1 | refine IsS54.far ?_ NB0_124.out _ | refine IsS54.far ?_ NB0_127.out _ | refine IsS54.far ?_ NB0_141.out _) | exact HI0.out)) hg (IsS54.own_neN HI0.out HO_128001.out (by decide)))
   have n5_ := Aside0.mk (Kd.N_afterv (ok := (fun k_ => (w.heap.size ≤ k_) ∧ some k_ ≠ (.slice Ao33 x128002_1.length co33 : Value).ownBlock ∧ some k_ ≠ (v157 : Value).ownBlock ∧ k_ ≠ gb124 ∧ k_ ≠ gb127 ∧ k_ ≠ gb141 ∧ k_ ≠ g)) (by (with_reducible repeat (first | apply Kd.N_alloc | apply Kd.N_drewN | apply Kd.N_drew)); exact Kd.N_mono HO152.out (fun _ hk => ⟨⟨hk.1.1, ⟨hk.1.2.2.2.1, ⟨hk.2, ⟨hk.1.2.2.2.2.1, ⟨hk.1.2.2.2.2.2.1, ⟨hk.1.2.2.2.2.2.2.1, hk.1.2.2.2.2.2.2.2⟩⟩⟩⟩⟩⟩, hk.1.2.2.1⟩)) hg hat)
   have n6_ := Aside0.mk (Kd.N_afterv (ok := (fun k_ => (w.heap.size ≤ k_) ∧ some k_ ≠ (.slice Ao33 x128002_1.length co33 : Value).ownBlock ∧ some k_ ≠ (.slice Ao41 y150.length co41 : Value).ownBlock ∧ k_ ≠ gb124 ∧ k_ ≠ gb127 ∧ k_ ≠ gb141 ∧ k_ ≠ g)) (by (with_reducible repeat (first | apply Kd.N_alloc | apply Kd.N_drewN | apply Kd.N_drew)); exact Kd.N_mono HO158.out (fun _ hk => ⟨⟨hk.1, ⟨hk.2.2.1, ⟨hk.2.2.2.1, ⟨hk.2.2.2.2.1, ⟨hk.2.2.2.2.2.1, ⟨hk.2.2.2.2.2.2.1, hk.2.2.2.2.2.2.2⟩⟩⟩⟩⟩⟩, hk.2.1⟩)) hg hat)
   have n7_ := Aside0.mk (below_weaken (by repeat (first | (with_reducible first | exact HB.out | apply below_alloc | apply pw_below_drewN | apply below_drew1 | refine below_set ?_ (IsS54.ge HI0.out) | refine below_set ?_ GE124.out | refine below_set ?_ GE127.out | refine below_set ?_ GE141.out) | exact HB.out)) HL.out hb)
   have n8_ := Aside0.mk (KeepBut.trans (by repeat (first | (with_reducible first | exact HK.out | apply KeepBut.set_ | apply keep_drewN | apply keep_drew | apply keep_alloc | refine keep_far ?_ GW124.out _ | refine keep_far ?_ GW127.out _ | refine keep_far ?_ GW141.out _) | exact HK.out)) (KeepBut.of_grown hg g) (Kd.N_base2 HO_128001.out))
   have n9_ := Aside0.mk (ho)
   clear HO_128002
   clear BK124
   clear BK127
   clear BK141
   clear HI0
   clear HO152
   clear HO158
   clear HB
   clear HK
   clear HO_128001
   have HO_128002 := n0_
   have BK124 := n1_
   have BK127 := n2_
   have BK141 := n3_
   have HI0 := n4_
   have HO152 := n5_
   have HO158 := n6_
   have HB := n7_
   have HK := n8_
   have HO155 := n9_
   clear n0_ n1_ n2_ n3_ n4_ n5_ n6_ n7_ n8_ n9_
   clear ho hb hg hat
   refine hK.out _ _ ⟨(blk_cell BK127.out 0).trans rfl, (blk_cell BK127.out 1).trans rfl, (blk_cell BK127.out 2).trans rfl, (blk_cell BK127.out 3).trans rfl, (blk_cell BK141.out 0).trans rfl, (blk_cell BK141.out 1).trans rfl, (blk_cell BK141.out 2).trans rfl, (blk_cell BK141.out 3).trans rfl, (blk_cell BK141.out 4).trans rfl, (blk_cell BK141.out 5).trans rfl, (blk_cell BK141.out 6).trans rfl, (blk_cell BK141.out 7).trans rfl⟩ (fun hHeld => ?_)
   clear hK K
   refine norm_ (a' := ?_) ?_ ?_
   rotate_left
   ·show Act.put _ (some 41) _ = _
    simp only [Act.put, List.setIfInBounds_toArray, List.set_cons_zero, List.set_cons_succ, i64_w, i32_w]
    rfl
   refine pure_ (i := 10) (N := some 47) (v := ?_) (a' := ?_) #[true, true, true, true, true, true, true, true, true, false, true, false, false, false] rfl rfl (any_of HT_.out (by kernel_rfl)) (fun _ _ _ h => h) (Or.inl ⟨by rfl, ?_⟩) ?_ ?_
   rotate_left
   ·intro w'
    go_simp
    with_reducible rfl
   rotate_left
   ·simp only [Act.put, List.setIfInBounds_toArray, List.set_cons_zero, List.set_cons_succ, i64_w, i32_w]
    rfl
   exact norm_ (by simp only [putAll, Act.put, List.setIfInBounds_toArray, List.set_cons_zero, List.set_cons_succ]) (hCont (.slice Ao41 y150.length co41, v154, v157) _ ⟨hHeld, (by (with_reducible repeat (first | apply Kd.N_alloc | apply Kd.N_drewN | apply Kd.N_drew)); exact Kd.N_mono HO152.out (fun _ hk => ⟨hk.1.1, ⟨hk.2, ⟨hk.1.2.2.1, ⟨hk.1.2.1, ⟨hk.1.2.2.2.2.2.2, ⟨hk.1.2.2.2.1, ⟨hk.1.2.2.2.2.1, hk.1.2.2.2.2.2.1⟩⟩⟩⟩⟩⟩⟩)), (by (with_reducible repeat (first | apply Kd.N_alloc | apply Kd.N_drewN | apply Kd.N_drew)); exact Kd.N_mono HO155.out (fun _ hk => ⟨hk.1, ⟨hk.2.2.1, ⟨hk.2.1, ⟨hk.2.2.2.2.2.2, ⟨hk.2.2.2.1, ⟨hk.2.2.2.2.1, hk.2.2.2.2.2.1⟩⟩⟩⟩⟩⟩)), (by (with_reducible repeat (first | apply Kd.N_alloc | apply Kd.N_drewN | apply Kd.N_drew)); exact Kd.N_mono HO158.out (fun _ hk => ⟨hk.1.1, ⟨hk.1.2.2.1, ⟨hk.2, ⟨hk.1.2.1, ⟨hk.1.2.2.2.2.2.2, ⟨hk.1.2.2.2.1, ⟨hk.1.2.2.2.2.1, hk.1.2.2.2.2.2.1⟩⟩⟩⟩⟩⟩⟩)), (by (with_reducible repeat (first | apply Kd.N_alloc | apply Kd.N_drewN | apply Kd.N_drew)); exact Kd.N_mono HO_128002.out (fun _ hk => ⟨hk.1.1, ⟨hk.1.2.1, ⟨hk.2, ⟨hk.1.2.2.1, ⟨hk.1.2.2.2.2.2.2, ⟨hk.1.2.2.2.1, ⟨hk.1.2.2.2.2.1, hk.1.2.2.2.2.2.1⟩⟩⟩⟩⟩⟩⟩)), (by (with_reducible repeat (first | refine blk_drewN ?_ _ | refine blk_drew ?_ | refine blk_alloc ?_ _)); exact BK124.out), (by (with_reducible repeat (first | refine blk_drewN ?_ _ | refine blk_drew ?_ | refine blk_alloc ?_ _)); exact BK127.out), (by (with_reducible repeat (first | refine blk_drewN ?_ _ | refine blk_drew ?_ | refine blk_alloc ?_ _)); exact BK141.out), (by repeat (first | (with_reducible first | exact HI0.out | apply IsS54.alloc | apply IsS54.drewN | apply IsS54.drew | apply IsS54.set_1 | refine IsS54.far ?_ NB0_124.out _ | refine IsS54.far ?_ NB0_127.out _ | refine IsS54.far ?_ NB0_141.out _) | exact HI0.out)), (by repeat (first | (with_reducible first | exact HK.out | apply KeepBut.set_ | apply keep_drewN | apply keep_drew | apply keep_alloc | refine keep_far ?_ GW124.out _ | refine keep_far ?_ GW127.out _ | refine keep_far ?_ GW141.out _) | exact HK.out)), (by repeat (first | (with_reducible first | exact HB.out | apply below_alloc | apply pw_below_drewN | apply below_drew1 | refine below_set ?_ (IsS54.ge HI0.out) | refine below_set ?_ GE124.out | refine below_set ?_ GE127.out | refine below_set ?_ GE141.out) | exact HB.out))⟩)
  skip
  obtain ⟨Ao35, co35, eo35⟩ := Kd.R_slice HO_6.out
  (first | subst eo35 | (injection eo35 with f1_ f2_ f3_; have f4_ := f1_.symm; have f5_ := f3_.symm; clear f1_ f2_ f3_; subst f4_; subst f5_))
  refine Kd.N_lit_step (Kd.slice 3 (Kd.int .i64)) _ 64 ?hg (N' := 45) ?hd (xs := ([x6_2] : List (List Int))) (inner := [.slice Ao35 x6_2.length co35]) (ok := (fun k_ => (w.heap.size ≤ k_) ∧ some k_ ≠ (.slice Ao32 x128001_1.length co32 : Value).ownBlock ∧ some k_ ≠ (.slice Ao33 x128002_1.length co33 : Value).ownBlock ∧ some k_ ≠ (.slice Ao19 t137.length co19 : Value).ownBlock ∧ k_ ≠ gb124 ∧ k_ ≠ gb127 ∧ k_ ≠ gb141 ∧ k_ ≠ g)) (okp := (fun k_ => (w.heap.size ≤ k_) ∧ some k_ ≠ (.slice Ao32 x128001_1.length co32 : Value).ownBlock ∧ some k_ ≠ (.slice Ao33 x128002_1.length co33 : Value).ownBlock ∧ some k_ ≠ (.slice Ao19 t137.length co19 : Value).ownBlock ∧ k_ ≠ gb124 ∧ k_ ≠ gb127 ∧ k_ ≠ gb141 ∧ k_ ≠ g)) ?hr ?hp (fun _ hk => hk) ((show ∀ k_, w34.heap.size ≤ k_ → (fun k_ => (w.heap.size ≤ k_) ∧ some k_ ≠ (.slice Ao32 x128001_1.length co32 : Value).ownBlock ∧ some k_ ≠ (.slice Ao33 x128002_1.length co33 : Value).ownBlock ∧ some k_ ≠ (.slice Ao19 t137.length co19 : Value).ownBlock ∧ k_ ≠ gb124 ∧ k_ ≠ gb127 ∧ k_ ≠ gb141 ∧ k_ ≠ g) k_ from fun k_ hk => ⟨(Nat.le_trans (keep_size (w := w) (g := g) (row := none) (by repeat (first | (with_reducible first | exact HK.out | apply KeepBut.set_ | apply keep_drewN | apply keep_drew | apply keep_alloc | refine keep_far ?_ GW124.out _ | refine keep_far ?_ GW127.out _ | refine keep_far ?_ GW141.out _) | exact HK.out))) hk), Kd.fresh' (Kd.N_lt (by (with_reducible repeat (first | apply Kd.N_alloc | apply Kd.N_drewN | apply Kd.N_drew)); exact HO_128001.out)) k_ hk, Kd.fresh' (Kd.N_lt (by (with_reducible repeat (first | apply Kd.N_alloc | apply Kd.N_drewN | apply Kd.N_drew)); exact HO_128002.out)) k_ hk, Kd.fresh' (Kd.R_lt (by (with_reducible repeat (first | apply Kd.R_alloc | apply Kd.R_drewN | apply Kd.R_drew)); exact HO_142007.out)) k_ hk, Kd.freshB (g := gb124) (o := .cells #[.int .i64 0, .slice none 0 0, .slice none 0 0, .slice none 0 0] 28 (0, 0)) (by (with_reducible repeat (first | refine blk_drewN ?_ _ | refine blk_drew ?_ | refine blk_alloc ?_ _)); exact BK124.out) k_ hk, Kd.freshB (g := gb127) (o := .cells #[.int .i64 (wrap64 (1 + (Int.tmod t125 5))), .slice Ao32 x128001_1.length co32, .slice Ao33 x128002_1.length co33, .slice none 0 0] 28 (0, 0)) (by (with_reducible repeat (first | refine blk_drewN ?_ _ | refine blk_drew ?_ | refine blk_alloc ?_ _)); exact BK127.out) k_ hk, Kd.freshB (g := gb141) (o := .cells #[.int .u64 t130, .int .u16 t131, .int .i64 t132, .int .i64 t133, .int .i64 t134, .int .i64 t135, .int .i64 t136, .slice Ao19 t137.length co19] 51 (0, 0)) (by (with_reducible repeat (first | refine blk_drewN ?_ _ | refine blk_drew ?_ | refine blk_alloc ?_ _)); exact BK141.out) k_ hk, IsS54.fresh (by repeat (first | (with_reducible first | exact HI0.out | apply IsS54.alloc | apply IsS54.drewN | apply IsS54.drew | apply IsS54.set_1 | refine IsS54.far ?_ NB0_124.out _ | refine IsS54.far ?_ NB0_127.out _ | refine IsS54.far ?_ NB0_141.out _) | exact HI0.out)) k_ hk⟩) _ (Nat.le_refl _)) (Below.refl _ _) (Nat.le_refl _) (by simp) ?_; (case hd => rfl); (case hg => rfl); (case hr => first | (go_simp; done) | (go_simp; rfl)); (case hp => exact (Reps.one (show Kd.FK (Kd.slice 3 (Kd.int .i64)) _ _ x6_2 [.slice Ao35 x6_2.length co35] from (Kd.FK_slice_mk (Kd.R_reads' (Kd.R_mono (ok' := (fun k_ => (w.heap.size ≤ k_) ∧ some k_ ≠ (.slice Ao32 x128001_1.length co32 : Value).ownBlock ∧ some k_ ≠ (.slice Ao33 x128002_1.length co33 : Value).ownBlock ∧ some k_ ≠ (.slice Ao19 t137.length co19 : Value).ownBlock ∧ k_ ≠ gb124 ∧ k_ ≠ gb127 ∧ k_ ≠ gb141 ∧ k_ ≠ g)) (IsS54.apart HI0.out (Kd.R_types (Kd.R_types (Kd.R_types (Kd.R_apart' (Kd.R_apart' (Kd.R_apart' (HO_6.out) (Kd.N_typed HO_128001.out) (by decide)) (Kd.N_typed HO_128002.out) (by decide)) (Kd.R_typed HO_142007.out) (by decide)) BK124.out (by decide)) BK127.out (by decide)) BK141.out (by decide)) (by decide)) (fun k_ hk => ⟨hk.1.1.1.1.1.1.1, ⟨hk.1.1.1.1.1.1.2, ⟨hk.1.1.1.1.1.2, ⟨hk.1.1.1.1.2, ⟨hk.1.1.1.2, ⟨hk.1.1.2, ⟨hk.1.2, hk.2⟩⟩⟩⟩⟩⟩⟩))).2.1 (Kd.R_F (Kd.R_mono (ok' := (fun k_ => (w.heap.size ≤ k_) ∧ some k_ ≠ (.slice Ao32 x128001_1.length co32 : Value).ownBlock ∧ some k_ ≠ (.slice Ao33 x128002_1.length co33 : Value).ownBlock ∧ some k_ ≠ (.slice Ao19 t137.length co19 : Value).ownBlock ∧ k_ ≠ gb124 ∧ k_ ≠ gb127 ∧ k_ ≠ gb141 ∧ k_ ≠ g)) (IsS54.apart HI0.out (Kd.R_types (Kd.R_types (Kd.R_types (Kd.R_apart' (Kd.R_apart' (Kd.R_apart' (HO_6.out) (Kd.N_typed HO_128001.out) (by decide)) (Kd.N_typed HO_128002.out) (by decide)) (Kd.R_typed HO_142007.out) (by decide)) BK124.out (by decide)) BK127.out (by decide)) BK141.out (by decide)) (by decide)) (fun k_ hk => ⟨hk.1.1.1.1.1.1.1, ⟨hk.1.1.1.1.1.1.2, ⟨hk.1.1.1.1.1.2, ⟨hk.1.1.1.1.2, ⟨hk.1.1.1.2, ⟨hk.1.1.2, ⟨hk.1.2, hk.2⟩⟩⟩⟩⟩⟩⟩))))) (Reps.none _ _)))
  intro v157 w36 ho37 hb hg_ hnew_
  clear hg_ hnew_
  (first | rw [← Ny156.out] at ho37 | (simp only [Int.reduceToNat] at ho37; rw [← Ny156.out] at ho37))
  have n0_ := Aside0.mk (Kd.N_elder' (by (with_reducible repeat (first | apply Kd.N_alloc | apply Kd.N_drewN | apply Kd.N_drew)); exact HO_128001.out) (Kd.N_base ho37) hb)
  have n1_ := Aside0.mk (Kd.N_elder' (by (with_reducible repeat (first | apply Kd.N_alloc | apply Kd.N_drewN | apply Kd.N_drew)); exact HO_128002.out) (Kd.N_base ho37) hb)
  have n2_ := Aside0.mk (Kd.R_below (by (with_reducible repeat (first | apply Kd.R_alloc | apply Kd.R_drewN | apply Kd.R_drew)); exact HO_142007.out) hb)
  have n3_ := Aside0.mk (Kd.N_lower ho37 (keep_size (w := w) (g := g) (row := none) (by repeat (first | (with_reducible first | exact HK.out | apply KeepBut.set_ | apply keep_drewN | apply keep_drew | apply keep_alloc | refine keep_far ?_ GW124.out _ | refine keep_far ?_ GW127.out _ | refine keep_far ?_ GW141.out _) | exact HK.out))))
  have n4_ := Aside0.mk (blk_below (g := gb124) (o := .cells #[.int .i64 0, .slice none 0 0, .slice none 0 0, .slice none 0 0] 28 (0, 0)) (by (with_reducible repeat (first | refine blk_drewN ?_ _ | refine blk_drew ?_ | refine blk_alloc ?_ _)); exact BK124.out) hb)
  have n5_ := Aside0.mk (blk_below (g := gb127) (o := .cells #[.int .i64 (wrap64 (1 + (Int.tmod t125 5))), .slice Ao32 x128001_1.length co32, .slice Ao33 x128002_1.length co33, .slice none 0 0] 28 (0, 0)) (by (with_reducible repeat (first | refine blk_drewN ?_ _ | refine blk_drew ?_ | refine blk_alloc ?_ _)); exact BK127.out) hb)
  have n6_ := Aside0.mk (blk_below (g := gb141) (o := .cells #[.int .u64 t130, .int .u16 t131, .int .i64 t132, .int .i64 t133, .int .i64 t134, .int .i64 t135, .int .i64 t136, .slice Ao19 t137.length co19] 51 (0, 0)) (by (with_reducible repeat (first | refine blk_drewN ?_ _ | refine blk_drew ?_ | refine blk_alloc ?_ _)); exact BK141.out) hb)
  have n7_ := Aside0.mk (IsS54.below (by repeat (first | (with_reducible first | exact HI0.out | apply IsS54.alloc | apply IsS54.drewN | apply IsS54.drew | apply IsS54.set_1 | refine IsS54.far ?_ NB0_124.out _ | refine IsS54.far ?_ NB0_127.out _ | refine IsS54.far ?_ NB0_141.out _) | exact HI0.out)) hb)
  have n8_ := Aside0.mk (KeepBut.trans (by repeat (first | (with_reducible first | exact HK.out | apply KeepBut.set_ | apply keep_drewN | apply keep_drew | apply keep_alloc | refine keep_far ?_ GW124.out _ | refine keep_far ?_ GW127.out _ | refine keep_far ?_ GW141.out _) | exact HK.out)) (KeepBut.of_below hb g none) (.inl rfl))
  have n9_ := Aside0.mk (below_step (by repeat (first | (with_reducible first | exact HB.out | apply below_alloc | apply pw_below_drewN | apply below_drew1 | refine below_set ?_ (IsS54.ge HI0.out) | refine below_set ?_ GE124.out | refine below_set ?_ GE127.out | refine below_set ?_ GE141.out) | exact HB.out)) hb)
  clear HO_128001
  clear HO_128002
  clear HO_142007
  clear BK124
  clear BK127
  clear BK141
  clear HI0
  clear HK
  clear HB
  clear HO_6
  have HO_128001 := n0_
  have HO_128002 := n1_
  have HO_142007 := n2_
  have HO158 := n3_
  have BK124 := n4_
  have BK127 := n5_
  have BK141 := n6_
  have HI0 := n7_
  have HK := n8_
  have HB := n9_
  clear n0_ n1_ n2_ n3_ n4_ n5_ n6_ n7_ n8_ n9_
  clear hb ho37
  refine hK.out _ _ ⟨(blk_cell BK127.out 0).trans rfl, (blk_cell BK127.out 1).trans rfl, (blk_cell BK127.out 2).trans rfl, (blk_cell BK127.out 3).trans rfl, (blk_cell BK141.out 0).trans rfl, (blk_cell BK141.out 1).trans rfl, (blk_cell BK141.out 2).trans rfl, (blk_cell BK141.out 3).trans rfl, (blk_cell BK141.out 4).trans rfl, (blk_cell BK141.out 5).trans rfl, (blk_cell BK141.out 6).trans rfl, (blk_cell BK141.out 7).trans rfl⟩ (fun hHeld => ?_)
  clear hK K
  refine norm_ (a' := ?_) ?_ ?_
  rotate_left
  ·show Act.put _ (some 45) _ = _
   simp only [Act.put, List.setIfInBounds_toArray, List.set_cons_zero, List.set_cons_succ, i64_w, i32_w]
   rfl
  refine one_ (i := 3) (N := some 40) #[true, true, true, true, false, true, true, true, true, false, false, false, false, false] rfl rfl (one_of HT_.out (by kernel_rfl)) (by decide) (fun K hK => ?_)
  refine Kd.N_lit_step k51 _ 51 ?hg (N' := 40) ?hd (xs := ([(⟨t130, t131, t132, t133, t134, t135, t136, t137⟩ : S51)] : List (S51))) (inner := [.int .u64 t130, .int .u16 t131, .int .i64 t132, .int .i64 t133, .int .i64 t134, .int .i64 t135, .int .i64 t136, .slice Ao19 t137.length co19]) (ok := (fun k_ => (w.heap.size ≤ k_) ∧ some k_ ≠ (.slice Ao32 x128001_1.length co32 : Value).ownBlock ∧ some k_ ≠ (.slice Ao33 x128002_1.length co33 : Value).ownBlock ∧ some k_ ≠ (v157 : Value).ownBlock ∧ k_ ≠ gb124 ∧ k_ ≠ gb127 ∧ k_ ≠ gb141 ∧ k_ ≠ g)) (okp := (fun k_ => (w.heap.size ≤ k_) ∧ some k_ ≠ (.slice Ao32 x128001_1.length co32 : Value).ownBlock ∧ some k_ ≠ (.slice Ao33 x128002_1.length co33 : Value).ownBlock ∧ some k_ ≠ (v157 : Value).ownBlock ∧ k_ ≠ gb124 ∧ k_ ≠ gb127 ∧ k_ ≠ gb141 ∧ k_ ≠ g)) ?hr ?hp (fun _ hk => hk) ((show ∀ k_, w36.heap.size ≤ k_ → (fun k_ => (w.heap.size ≤ k_) ∧ some k_ ≠ (.slice Ao32 x128001_1.length co32 : Value).ownBlock ∧ some k_ ≠ (.slice Ao33 x128002_1.length co33 : Value).ownBlock ∧ some k_ ≠ (v157 : Value).ownBlock ∧ k_ ≠ gb124 ∧ k_ ≠ gb127 ∧ k_ ≠ gb141 ∧ k_ ≠ g) k_ from fun k_ hk => ⟨(Nat.le_trans (keep_size (w := w) (g := g) (row := none) (by repeat (first | (with_reducible first | exact HK.out | apply KeepBut.set_ | apply keep_drewN | apply keep_drew | apply keep_alloc | refine keep_far ?_ GW124.out _ | refine keep_far ?_ GW127.out _ | refine keep_far ?_ GW141.out _) | exact HK.out))) hk), Kd.fresh' (Kd.N_lt (by (with_reducible repeat (first | apply Kd.N_alloc | apply Kd.N_drewN | apply Kd.N_drew)); exact HO_128001.out)) k_ hk, Kd.fresh' (Kd.N_lt (by (with_reducible repeat (first | apply Kd.N_alloc | apply Kd.N_drewN | apply Kd.N_drew)); exact HO_128002.out)) k_ hk, Kd.fresh' (Kd.N_lt (by (with_reducible repeat (first | apply Kd.N_alloc | apply Kd.N_drewN | apply Kd.N_drew)); exact HO158.out)) k_ hk, Kd.freshB (g := gb124) (o := .cells #[.int .i64 0, .slice none 0 0, .slice none 0 0, .slice none 0 0] 28 (0, 0)) (by (with_reducible repeat (first | refine blk_drewN ?_ _ | refine blk_drew ?_ | refine blk_alloc ?_ _)); exact BK124.out) k_ hk, Kd.freshB (g := gb127) (o := .cells #[.int .i64 (wrap64 (1 + (Int.tmod t125 5))), .slice Ao32 x128001_1.length co32, .slice Ao33 x128002_1.length co33, .slice none 0 0] 28 (0, 0)) (by (with_reducible repeat (first | refine blk_drewN ?_ _ | refine blk_drew ?_ | refine blk_alloc ?_ _)); exact BK127.out) k_ hk, Kd.freshB (g := gb141) (o := .cells #[.int .u64 t130, .int .u16 t131, .int .i64 t132, .int .i64 t133, .int .i64 t134, .int .i64 t135, .int .i64 t136, .slice Ao19 t137.length co19] 51 (0, 0)) (by (with_reducible repeat (first | refine blk_drewN ?_ _ | refine blk_drew ?_ | refine blk_alloc ?_ _)); exact BK141.out) k_ hk, IsS54.fresh (by repeat (first | (with_reducible first | exact HI0.out | apply IsS54.alloc | apply IsS54.drewN | apply IsS54.drew | apply IsS54.set_1 | refine IsS54.far ?_ NB0_124.out _ | refine IsS54.far ?_ NB0_127.out _ | refine IsS54.far ?_ NB0_141.out _) | exact HI0.out)) k_ hk⟩) _ (Nat.le_refl _)) (Below.refl _ _) (Nat.le_refl _) (by simp) ?_; (case hd => rfl); (case hg => rfl); (case hr => first | (go_simp; done) | (go_simp; rfl)); (case hp => exact (Reps.c8 (show Kd.FK k51 _ _ (⟨t130, t131, t132, t133, t134, t135, t136, t137⟩ : S51) [.int .u64 t130, .int .u16 t131, .int .i64 t132, .int .i64 t133, .int .i64 t134, .int .i64 t135, .int .i64 t136, .slice Ao19 t137.length co19] from (k51_mkF _ _ (⟨t130, t131, t132, t133, t134, t135, t136, t137⟩ : S51) (Kd.R_reads' (Kd.R_mono (ok' := (fun k_ => (w.heap.size ≤ k_) ∧ some k_ ≠ (.slice Ao32 x128001_1.length co32 : Value).ownBlock ∧ some k_ ≠ (.slice Ao33 x128002_1.length co33 : Value).ownBlock ∧ some k_ ≠ (v157 : Value).ownBlock ∧ k_ ≠ gb124 ∧ k_ ≠ gb127 ∧ k_ ≠ gb141 ∧ k_ ≠ g)) (IsS54.apart HI0.out (Kd.R_types (Kd.R_types (Kd.R_types (Kd.R_apart' (Kd.R_apart' (Kd.R_apart' (HO_142007.out) (Kd.N_typed HO_128001.out) (by decide)) (Kd.N_typed HO_128002.out) (by decide)) (Kd.N_typed HO158.out) (by decide)) BK124.out (by decide)) BK127.out (by decide)) BK141.out (by decide)) (by decide)) (fun k_ hk => ⟨hk.1.1.1.1.1.1.1, ⟨hk.1.1.1.1.1.1.2, ⟨hk.1.1.1.1.1.2, ⟨hk.1.1.1.1.2, ⟨hk.1.1.1.2, ⟨hk.1.1.2, ⟨hk.1.2, hk.2⟩⟩⟩⟩⟩⟩⟩))).2.1 (Kd.R_F (Kd.R_mono (ok' := (fun k_ => (w.heap.size ≤ k_) ∧ some k_ ≠ (.slice Ao32 x128001_1.length co32 : Value).ownBlock ∧ some k_ ≠ (.slice Ao33 x128002_1.length co33 : Value).ownBlock ∧ some k_ ≠ (v157 : Value).ownBlock ∧ k_ ≠ gb124 ∧ k_ ≠ gb127 ∧ k_ ≠ gb141 ∧ k_ ≠ g)) (IsS54.apart HI0.out (Kd.R_types (Kd.R_types (Kd.R_types (Kd.R_apart' (Kd.R_apart' (Kd.R_apart' (HO_142007.out) (Kd.N_typed HO_128001.out) (by decide)) (Kd.N_typed HO_128002.out) (by decide)) (Kd.N_typed HO158.out) (by decide)) BK124.out (by decide)) BK127.out (by decide)) BK141.out (by decide)) (by decide)) (fun k_ hk => ⟨hk.1.1.1.1.1.1.1, ⟨hk.1.1.1.1.1.1.2, ⟨hk.1.1.1.1.1.2, ⟨hk.1.1.1.1.2, ⟨hk.1.1.1.2, ⟨hk.1.1.2, ⟨hk.1.2, hk.2⟩⟩⟩⟩⟩⟩⟩))))) (Reps.none _ _)))
  intro v151 w38 ho39 hb hg_ hnew_
  clear hg_ hnew_
  (first | rw [← Ny150.out] at ho39 | (simp only [Int.reduceToNat] at ho39; rw [← Ny150.out] at ho39))
  have n0_ := Aside0.mk (Kd.N_elder' (by (with_reducible repeat (first | apply Kd.N_alloc | apply Kd.N_drewN | apply Kd.N_drew)); exact HO_128001.out) (Kd.N_base ho39) hb)
  have n1_ := Aside0.mk (Kd.N_elder' (by (with_reducible repeat (first | apply Kd.N_alloc | apply Kd.N_drewN | apply Kd.N_drew)); exact HO_128002.out) (Kd.N_base ho39) hb)
  have n2_ := Aside0.mk (Kd.N_elder' (by (with_reducible repeat (first | apply Kd.N_alloc | apply Kd.N_drewN | apply Kd.N_drew)); exact HO158.out) (Kd.N_base ho39) hb)
  have n3_ := Aside0.mk (Kd.N_lower ho39 (keep_size (w := w) (g := g) (row := none) (by repeat (first | (with_reducible first | exact HK.out | apply KeepBut.set_ | apply keep_drewN | apply keep_drew | apply keep_alloc | refine keep_far ?_ GW124.out _ | refine keep_far ?_ GW127.out _ | refine keep_far ?_ GW141.out _) | exact HK.out))))
  have n4_ := Aside0.mk (blk_below (g := gb124) (o := .cells #[.int .i64 0, .slice none 0 0, .slice none 0 0, .slice none 0 0] 28 (0, 0)) (by (with_reducible repeat (first | refine blk_drewN ?_ _ | refine blk_drew ?_ | refine blk_alloc ?_ _)); exact BK124.out) hb)
  have n5_ := Aside0.mk (blk_below (g := gb127) (o := .cells #[.int .i64 (wrap64 (1 + (Int.tmod t125 5))), .slice Ao32 x128001_1.length co32, .slice Ao33 x128002_1.length co33, .slice none 0 0] 28 (0, 0)) (by (with_reducible repeat (first | refine blk_drewN ?_ _ | refine blk_drew ?_ | refine blk_alloc ?_ _)); exact BK127.out) hb)
  have n6_ := Aside0.mk (blk_below (g := gb141) (o := .cells #[.int .u64 t130, .int .u16 t131, .int .i64 t132, .int .i64 t133, .int .i64 t134, .int .i64 t135, .int .i64 t136, .slice Ao19 t137.length co19] 51 (0, 0)) (by (with_reducible repeat (first | refine blk_drewN ?_ _ | refine blk_drew ?_ | refine blk_alloc ?_ _)); exact BK141.out) hb)
  have n7_ := Aside0.mk (IsS54.below (by repeat (first | (with_reducible first | exact HI0.out | apply IsS54.alloc | apply IsS54.drewN | apply IsS54.drew | apply IsS54.set_1 | refine IsS54.far ?_ NB0_124.out _ | refine IsS54.far ?_ NB0_127.out _ | refine IsS54.far ?_ NB0_141.out _) | exact HI0.out)) hb)
  have n8_ := Aside0.mk (KeepBut.trans (by repeat (first | (with_reducible first | exact HK.out | apply KeepBut.set_ | apply keep_drewN | apply keep_drew | apply keep_alloc | refine keep_far ?_ GW124.out _ | refine keep_far ?_ GW127.out _ | refine keep_far ?_ GW141.out _) | exact HK.out)) (KeepBut.of_below hb g none) (.inl rfl))
  have n9_ := Aside0.mk (below_step (by repeat (first | (with_reducible first | exact HB.out | apply below_alloc | apply pw_below_drewN | apply below_drew1 | refine below_set ?_ (IsS54.ge HI0.out) | refine below_set ?_ GE124.out | refine below_set ?_ GE127.out | refine below_set ?_ GE141.out) | exact HB.out)) hb)
  clear HO_128001
  clear HO_128002
  clear HO158
  clear BK124
  clear BK127
  clear BK141
  clear HI0
  clear HK
  clear HB
  clear HO_142007
  have HO_128001 := n0_
  have HO_128002 := n1_
  have HO158 := n2_
  have HO152 := n3_
  have BK124 := n4_
  have BK127 := n5_
  have BK141 := n6_
  have HI0 := n7_
  have HK := n8_
  have HB := n9_
  clear n0_ n1_ n2_ n3_ n4_ n5_ n6_ n7_ n8_ n9_
  clear hb ho39
  obtain ⟨Ao41, co41, eo41⟩ := Kd.N_slice HO152.out
  (first | subst eo41 | (injection eo41 with f1_ f2_ f3_; have f4_ := f1_.symm; have f5_ := f3_.symm; clear f1_ f2_ f3_; subst f4_; subst f5_))
  refine hK.out _ _ ⟨(blk_cell BK127.out 0).trans rfl, (blk_cell BK127.out 1).trans rfl, (blk_cell BK127.out 2).trans rfl, (blk_cell BK127.out 3).trans rfl, (blk_cell BK141.out 0).trans rfl, (blk_cell BK141.out 1).trans rfl, (blk_cell BK141.out 2).trans rfl, (blk_cell BK141.out 3).trans rfl, (blk_cell BK141.out 4).trans rfl, (blk_cell BK141.out 5).trans rfl, (blk_cell BK141.out 6).trans rfl, (blk_cell BK141.out 7).trans rfl⟩ (fun hHeld => ?_)
  clear hK K
  refine norm_ (a' := ?_) ?_ ?_
  rotate_left
  ·show Act.put _ (some 40) _ = _
   simp only [Act.put, List.setIfInBounds_toArray, List.set_cons_zero, List.set_cons_succ, i64_w, i32_w]
   rfl
  refine one_ (i := 4) (N := some 41) #[true, true, true, true, true, true, true, true, true, false, false, false, false, false] rfl rfl (one_of HT_.out (by kernel_rfl)) (by decide) (fun K hK => ?_)
  refine Kd.N_append_rows_step k51 w.heap.size (by rfl) (.tmp 38) (.tmp 40) 24 51 (.agg #[(.int .u64 0), (.int .u16 0), (.int .i64 0), (.int .i64 0), (.int .i64 0), (.int .i64 0), (.int .i64 0), (.slice none 0 0)]) 80 rfl Tryd.underlying24 info51 rfl (by decide) (by omega) (.slice Ao32 x128001_1.length co32) x128001_1 y150 _ _ _ (fun k_ => (w.heap.size ≤ k_) ∧ some k_ ≠ (.slice Ao33 x128002_1.length co33 : Value).ownBlock ∧ some k_ ≠ (v157 : Value).ownBlock ∧ k_ ≠ gb124 ∧ k_ ≠ gb127 ∧ k_ ≠ gb141 ∧ k_ ≠ g) (fun k_ => ((fun k_ => (w.heap.size ≤ k_) ∧ some k_ ≠ (.slice Ao33 x128002_1.length co33 : Value).ownBlock ∧ some k_ ≠ (v157 : Value).ownBlock ∧ k_ ≠ gb124 ∧ k_ ≠ gb127 ∧ k_ ≠ gb141 ∧ k_ ≠ g)) k_ ∧ some k_ ≠ (.slice Ao32 x128001_1.length co32 : Value).ownBlock) rfl rfl ?aO ?aR (fun _ hk => hk) ?aF (Below.refl _ _) ?aS ?aL ?_
  (case aR => exact (by skip; exact Kd.N_F (Kd.N_mono (ok' := (fun k_ => ((fun k_ => (w.heap.size ≤ k_) ∧ some k_ ≠ (.slice Ao33 x128002_1.length co33 : Value).ownBlock ∧ some k_ ≠ (v157 : Value).ownBlock ∧ k_ ≠ gb124 ∧ k_ ≠ gb127 ∧ k_ ≠ gb141 ∧ k_ ≠ g)) k_ ∧ some k_ ≠ (.slice Ao32 x128001_1.length co32 : Value).ownBlock)) (HO152.out) (fun k_ hk => ⟨⟨hk.1, ⟨hk.2.2.1, ⟨hk.2.2.2.1, ⟨hk.2.2.2.2.1, ⟨hk.2.2.2.2.2.1, ⟨hk.2.2.2.2.2.2.1, hk.2.2.2.2.2.2.2⟩⟩⟩⟩⟩⟩, hk.2.1⟩))))
  (case aF => exact (fun k_ hk => ⟨(Nat.le_trans (keep_size (w := w) (g := g) (row := none) (by repeat (first | (with_reducible first | exact HK.out | apply KeepBut.set_ | apply keep_drewN | apply keep_drew | apply keep_alloc | refine keep_far ?_ GW124.out _ | refine keep_far ?_ GW127.out _ | refine keep_far ?_ GW141.out _) | exact HK.out))) hk), Kd.fresh' (Kd.N_lt (by (with_reducible repeat (first | apply Kd.N_alloc | apply Kd.N_drewN | apply Kd.N_drew)); exact HO_128002.out)) k_ hk, Kd.fresh' (Kd.N_lt (by (with_reducible repeat (first | apply Kd.N_alloc | apply Kd.N_drewN | apply Kd.N_drew)); exact HO158.out)) k_ hk, Kd.freshB (g := gb124) (o := .cells #[.int .i64 0, .slice none 0 0, .slice none 0 0, .slice none 0 0] 28 (0, 0)) (by (with_reducible repeat (first | refine blk_drewN ?_ _ | refine blk_drew ?_ | refine blk_alloc ?_ _)); exact BK124.out) k_ hk, Kd.freshB (g := gb127) (o := .cells #[.int .i64 (wrap64 (1 + (Int.tmod t125 5))), .slice Ao32 x128001_1.length co32, .slice Ao33 x128002_1.length co33, .slice none 0 0] 28 (0, 0)) (by (with_reducible repeat (first | refine blk_drewN ?_ _ | refine blk_drew ?_ | refine blk_alloc ?_ _)); exact BK127.out) k_ hk, Kd.freshB (g := gb141) (o := .cells #[.int .u64 t130, .int .u16 t131, .int .i64 t132, .int .i64 t133, .int .i64 t134, .int .i64 t135, .int .i64 t136, .slice Ao19 t137.length co19] 51 (0, 0)) (by (with_reducible repeat (first | refine blk_drewN ?_ _ | refine blk_drew ?_ | refine blk_alloc ?_ _)); exact BK141.out) k_ hk, IsS54.fresh (by repeat (first | (with_reducible first | exact HI0.out | apply IsS54.alloc | apply IsS54.drewN | apply IsS54.drew | apply IsS54.set_1 | refine IsS54.far ?_ NB0_124.out _ | refine IsS54.far ?_ NB0_127.out _ | refine IsS54.far ?_ NB0_141.out _) | exact HI0.out)) k_ hk⟩))
  (case aO => exact (by (with_reducible repeat (first | apply Kd.N_alloc | apply Kd.N_drewN | apply Kd.N_drew)); exact Kd.N_mono HO_128001.out (fun _ hk => ⟨hk.1.1.1, ⟨hk.1.1.2.2.1, ⟨hk.1.2, ⟨hk.1.1.2.2.2.2.1, ⟨hk.1.1.2.2.2.2.2.1, ⟨hk.1.1.2.2.2.2.2.2.1, hk.1.1.2.2.2.2.2.2.2⟩⟩⟩⟩⟩⟩)))
  (case aS => exact (keep_size (w := w) (g := g) (row := none) (by repeat (first | (with_reducible first | exact HK.out | apply KeepBut.set_ | apply keep_drewN | apply keep_drew | apply keep_alloc | refine keep_far ?_ GW124.out _ | refine keep_far ?_ GW127.out _ | refine keep_far ?_ GW141.out _) | exact HK.out))))
  (case aL => have := LMc30.out; omega)
  intro v154 w40 ho hb hg hat
  rw [← Ny153.out] at ho
  have n0_ := Aside0.mk (Kd.N_afterv (ok := (fun k_ => (w.heap.size ≤ k_) ∧ some k_ ≠ (v157 : Value).ownBlock ∧ some k_ ≠ (.slice Ao41 y150.length co41 : Value).ownBlock ∧ k_ ≠ gb124 ∧ k_ ≠ gb127 ∧ k_ ≠ gb141 ∧ k_ ≠ g)) (by (with_reducible repeat (first | apply Kd.N_alloc | apply Kd.N_drewN | apply Kd.N_drew)); exact Kd.N_mono HO_128002.out (fun _ hk => ⟨⟨hk.1.1.1, ⟨hk.1.2, ⟨hk.2, ⟨hk.1.1.2.2.2.2.1, ⟨hk.1.1.2.2.2.2.2.1, ⟨hk.1.1.2.2.2.2.2.2.1, hk.1.1.2.2.2.2.2.2.2⟩⟩⟩⟩⟩⟩, hk.1.1.2.2.1⟩)) hg hat)
  have n1_ := Aside0.mk (blk_grown (g := gb124) (o := .cells #[.int .i64 0, .slice none 0 0, .slice none 0 0, .slice none 0 0] 28 (0, 0)) (by (with_reducible repeat (first | refine blk_drewN ?_ _ | refine blk_drew ?_ | refine blk_alloc ?_ _)); exact BK124.out) hg (Kd.N_ne HO_128001.out BK124.out (by decide)))
  have n2_ := Aside0.mk (blk_grown (g := gb127) (o := .cells #[.int .i64 (wrap64 (1 + (Int.tmod t125 5))), .slice Ao32 x128001_1.length co32, .slice Ao33 x128002_1.length co33, .slice none 0 0] 28 (0, 0)) (by (with_reducible repeat (first | refine blk_drewN ?_ _ | refine blk_drew ?_ | refine blk_alloc ?_ _)); exact BK127.out) hg (Kd.N_ne HO_128001.out BK127.out (by decide)))
  have n3_ := Aside0.mk (blk_grown (g := gb141) (o := .cells #[.int .u64 t130, .int .u16 t131, .int .i64 t132, .int .i64 t133, .int .i64 t134, .int .i64 t135, .int .i64 t136, .slice Ao19 t137.length co19] 51 (0, 0)) (by (with_reducible repeat (first | refine blk_drewN ?_ _ | refine blk_drew ?_ | refine blk_alloc ?_ _)); exact BK141.out) hg (Kd.N_away HO_128001.out (fun _ hk => hk.1.1.2.2.2.2.2.2.1)))
  have n4_ := Aside0.mk (IsS54.grown (by repeat (first | (with_reducible first | exact HI0.out | apply IsS54.alloc | apply IsS54.drewN | apply IsS54.drew | apply IsS54.set_1 | refine IsS54.far ?_ NB0_124.out _ | refine IsS54.far ?_ NB0_127.out _ | refine IsS54.far ?_ NB0_141.out _) | exact HI0.out)) hg (IsS54.own_neN HI0.out HO_128001.out (by decide)))
  have n5_ := Aside0.mk (Kd.N_afterv (ok := (fun k_ => (w.heap.size ≤ k_) ∧ some k_ ≠ (.slice Ao33 x128002_1.length co33 : Value).ownBlock ∧ some k_ ≠ (.slice Ao41 y150.length co41 : Value).ownBlock ∧ k_ ≠ gb124 ∧ k_ ≠ gb127 ∧ k_ ≠ gb141 ∧ k_ ≠ g)) (by (with_reducible repeat (first | apply Kd.N_alloc | apply Kd.N_drewN | apply Kd.N_drew)); exact Kd.N_mono HO158.out (fun _ hk => ⟨⟨hk.1.1, ⟨hk.1.2.2.1, ⟨hk.2, ⟨hk.1.2.2.2.2.1, ⟨hk.1.2.2.2.2.2.1, ⟨hk.1.2.2.2.2.2.2.1, hk.1.2.2.2.2.2.2.2⟩⟩⟩⟩⟩⟩, hk.1.2.1⟩)) hg hat)
  have n6_ := Aside0.mk (Kd.N_afterv (ok := (fun k_ => (w.heap.size ≤ k_) ∧ some k_ ≠ (.slice Ao33 x128002_1.length co33 : Value).ownBlock ∧ some k_ ≠ (v157 : Value).ownBlock ∧ k_ ≠ gb124 ∧ k_ ≠ gb127 ∧ k_ ≠ gb141 ∧ k_ ≠ g)) (by (with_reducible repeat (first | apply Kd.N_alloc | apply Kd.N_drewN | apply Kd.N_drew)); exact Kd.N_mono HO152.out (fun _ hk => ⟨⟨hk.1, ⟨hk.2.2.1, ⟨hk.2.2.2.1, ⟨hk.2.2.2.2.1, ⟨hk.2.2.2.2.2.1, ⟨hk.2.2.2.2.2.2.1, hk.2.2.2.2.2.2.2⟩⟩⟩⟩⟩⟩, hk.2.1⟩)) hg hat)
  have n7_ := Aside0.mk (below_weaken (by repeat (first | (with_reducible first | exact HB.out | apply below_alloc | apply pw_below_drewN | apply below_drew1 | refine below_set ?_ (IsS54.ge HI0.out) | refine below_set ?_ GE124.out | refine below_set ?_ GE127.out | refine below_set ?_ GE141.out) | exact HB.out)) HL.out hb)
  have n8_ := Aside0.mk (KeepBut.trans (by repeat (first | (with_reducible first | exact HK.out | apply KeepBut.set_ | apply keep_drewN | apply keep_drew | apply keep_alloc | refine keep_far ?_ GW124.out _ | refine keep_far ?_ GW127.out _ | refine keep_far ?_ GW141.out _) | exact HK.out)) (KeepBut.of_grown hg g) (Kd.N_base2 HO_128001.out))
  have n9_ := Aside0.mk (ho)
  clear HO_128002
  clear BK124
  clear BK127
  clear BK141
  clear HI0
  clear HO158
  clear HO152
  clear HB
  clear HK
  clear HO_128001
  have HO_128002 := n0_
  have BK124 := n1_
  have BK127 := n2_
  have BK141 := n3_
  have HI0 := n4_
  have HO158 := n5_
  have HO152 := n6_
  have HB := n7_
  have HK := n8_
  have HO155 := n9_
  clear n0_ n1_ n2_ n3_ n4_ n5_ n6_ n7_ n8_ n9_
  clear ho hb hg hat
  refine hK.out _ _ ⟨(blk_cell BK127.out 0).trans rfl, (blk_cell BK127.out 1).trans rfl, (blk_cell BK127.out 2).trans rfl, (blk_cell BK127.out 3).trans rfl, (blk_cell BK141.out 0).trans rfl, (blk_cell BK141.out 1).trans rfl, (blk_cell BK141.out 2).trans rfl, (blk_cell BK141.out 3).trans rfl, (blk_cell BK141.out 4).trans rfl, (blk_cell BK141.out 5).trans rfl, (blk_cell BK141.out 6).trans rfl, (blk_cell BK141.out 7).trans rfl⟩ (fun hHeld => ?_)
  clear hK K
  refine norm_ (a' := ?_) ?_ ?_
  rotate_left
  ·show Act.put _ (some 41) _ = _
   simp only [Act.put, List.setIfInBounds_toArray, List.set_cons_zero, List.set_cons_succ, i64_w, i32_w]
   rfl
  refine pure_ (i := 10) (N := some 47) (v := ?_) (a' := ?_) #[true, true, true, true, true, true, true, true, true, false, true, false, false, false] rfl rfl (any_of HT_.out (by kernel_rfl)) (fun _ _ _ h => h) (Or.inl ⟨by rfl, ?_⟩) ?_ ?_
  rotate_left
  ·intro w'
   go_simp
   with_reducible rfl
  rotate_left
  ·simp only [Act.put, List.setIfInBounds_toArray, List.set_cons_zero, List.set_cons_succ, i64_w, i32_w]
   rfl
  exact norm_ (by simp only [putAll, Act.put, List.setIfInBounds_toArray, List.set_cons_zero, List.set_cons_succ]) (hCont (.slice Ao41 y150.length co41, v154, v157) _ ⟨hHeld, (by (with_reducible repeat (first | apply Kd.N_alloc | apply Kd.N_drewN | apply Kd.N_drew)); exact Kd.N_mono HO152.out (fun _ hk => ⟨hk.1.1, ⟨hk.2, ⟨hk.1.2.2.1, ⟨hk.1.2.1, ⟨hk.1.2.2.2.2.2.2, ⟨hk.1.2.2.2.1, ⟨hk.1.2.2.2.2.1, hk.1.2.2.2.2.2.1⟩⟩⟩⟩⟩⟩⟩)), (by (with_reducible repeat (first | apply Kd.N_alloc | apply Kd.N_drewN | apply Kd.N_drew)); exact Kd.N_mono HO155.out (fun _ hk => ⟨hk.1, ⟨hk.2.2.1, ⟨hk.2.1, ⟨hk.2.2.2.2.2.2, ⟨hk.2.2.2.1, ⟨hk.2.2.2.2.1, hk.2.2.2.2.2.1⟩⟩⟩⟩⟩⟩)), (by (with_reducible repeat (first | apply Kd.N_alloc | apply Kd.N_drewN | apply Kd.N_drew)); exact Kd.N_mono HO158.out (fun _ hk => ⟨hk.1.1, ⟨hk.1.2.2.1, ⟨hk.2, ⟨hk.1.2.1, ⟨hk.1.2.2.2.2.2.2, ⟨hk.1.2.2.2.1, ⟨hk.1.2.2.2.2.1, hk.1.2.2.2.2.2.1⟩⟩⟩⟩⟩⟩⟩)), (by (with_reducible repeat (first | apply Kd.N_alloc | apply Kd.N_drewN | apply Kd.N_drew)); exact Kd.N_mono HO_128002.out (fun _ hk => ⟨hk.1.1, ⟨hk.1.2.2.1, ⟨hk.2, ⟨hk.1.2.1, ⟨hk.1.2.2.2.2.2.2, ⟨hk.1.2.2.2.1, ⟨hk.1.2.2.2.2.1, hk.1.2.2.2.2.2.1⟩⟩⟩⟩⟩⟩⟩)), (by (with_reducible repeat (first | refine blk_drewN ?_ _ | refine blk_drew ?_ | refine blk_alloc ?_ _)); exact BK124.out), (by (with_reducible repeat (first | refine blk_drewN ?_ _ | refine blk_drew ?_ | refine blk_alloc ?_ _)); exact BK127.out), (by (with_reducible repeat (first | refine blk_drewN ?_ _ | refine blk_drew ?_ | refine blk_alloc ?_ _)); exact BK141.out), (by repeat (first | (with_reducible first | exact HI0.out | apply IsS54.alloc | apply IsS54.drewN | apply IsS54.drew | apply IsS54.set_1 | refine IsS54.far ?_ NB0_124.out _ | refine IsS54.far ?_ NB0_127.out _ | refine IsS54.far ?_ NB0_141.out _) | exact HI0.out)), (by repeat (first | (with_reducible first | exact HK.out | apply KeepBut.set_ | apply keep_drewN | apply keep_drew | apply keep_alloc | refine keep_far ?_ GW124.out _ | refine keep_far ?_ GW127.out _ | refine keep_far ?_ GW141.out _) | exact HK.out)), (by repeat (first | (with_reducible first | exact HB.out | apply below_alloc | apply pw_below_drewN | apply below_drew1 | refine below_set ?_ (IsS54.ge HI0.out) | refine below_set ?_ GE124.out | refine below_set ?_ GE127.out | refine below_set ?_ GE141.out) | exact HB.out))⟩)
 rintro ⟨v151, v154, v157⟩ w42 ⟨hS_, h0_, h1_, h2_, h3_, h4_, h5_, h6_, h7_, h8_, h9_⟩
 have n0_ : Aside0 (Kd.N k51 51 w42 w.heap.size (fun k_ => (w.heap.size ≤ k_) ∧ some k_ ≠ (v154 : Value).ownBlock ∧ some k_ ≠ (v157 : Value).ownBlock ∧ some k_ ≠ (.slice Ao33 x128002_1.length co33 : Value).ownBlock ∧ k_ ≠ g ∧ k_ ≠ gb124 ∧ k_ ≠ gb127 ∧ k_ ≠ gb141) v151 y150) := ⟨h0_⟩
 have n1_ : Aside0 (Kd.N k51 51 w42 w.heap.size (fun k_ => (w.heap.size ≤ k_) ∧ some k_ ≠ (v157 : Value).ownBlock ∧ some k_ ≠ (.slice Ao33 x128002_1.length co33 : Value).ownBlock ∧ k_ ≠ g ∧ k_ ≠ gb124 ∧ k_ ≠ gb127 ∧ k_ ≠ gb141) v154 y153) := ⟨h1_⟩
 have n2_ : Aside0 (Kd.N (Kd.slice 3 (Kd.int .i64)) 64 w42 w.heap.size (fun k_ => (w.heap.size ≤ k_) ∧ some k_ ≠ (v151 : Value).ownBlock ∧ some k_ ≠ (v154 : Value).ownBlock ∧ some k_ ≠ (.slice Ao33 x128002_1.length co33 : Value).ownBlock ∧ k_ ≠ g ∧ k_ ≠ gb124 ∧ k_ ≠ gb127 ∧ k_ ≠ gb141) v157 y156) := ⟨h2_⟩
 have n3_ : Aside0 (Kd.N (Kd.slice 3 (Kd.int .i64)) 64 w42 w.heap.size (fun k_ => (w.heap.size ≤ k_) ∧ some k_ ≠ (v151 : Value).ownBlock ∧ some k_ ≠ (v154 : Value).ownBlock ∧ some k_ ≠ (v157 : Value).ownBlock ∧ k_ ≠ g ∧ k_ ≠ gb124 ∧ k_ ≠ gb127 ∧ k_ ≠ gb141) (.slice Ao33 x128002_1.length co33) x128002_1) := ⟨h3_⟩
 have n4_ : Aside0 (w42.heap[gb124]? = some (.cells #[.int .i64 0, .slice none 0 0, .slice none 0 0, .slice none 0 0] 28 (0, 0))) := ⟨h4_⟩
 have n5_ : Aside0 (w42.heap[gb127]? = some (.cells #[.int .i64 (wrap64 (1 + (Int.tmod t125 5))), .slice Ao32 x128001_1.length co32, .slice Ao33 x128002_1.length co33, .slice none 0 0] 28 (0, 0))) := ⟨h5_⟩
 have n6_ : Aside0 (w42.heap[gb141]? = some (.cells #[.int .u64 t130, .int .u16 t131, .int .i64 t132, .int .i64 t133, .int .i64 t134, .int .i64 t135, .int .i64 t136, .slice Ao19 t137.length co19] 51 (0, 0))) := ⟨h6_⟩
 have n7_ : Aside0 (IsS54 w0 w42 g s0_0 x1001_2) := ⟨h7_⟩
 have n8_ : Aside0 (KeepBut w w42 g none) := ⟨h8_⟩
 have n9_ : Aside0 (Below w0.heap.size w0 w42) := ⟨h9_⟩
 clear HO_6
 clear HO_128001
 clear HO_128002
 clear HO_142007
 clear BK124
 clear BK127
 clear BK141
 clear HI0
 clear HK
 clear HB
 clear h0_ h1_ h2_ h3_ h4_ h5_ h6_ h7_ h8_ h9_
 have HO152 := n0_
 have HO155 := n1_
 have HO158 := n2_
 have HO_128002 := n3_
 have BK124 := n4_
 have BK127 := n5_
 have BK141 := n6_
 have HI0 := n7_
 have HK := n8_
 have HB := n9_
 clear n0_ n1_ n2_ n3_ n4_ n5_ n6_ n7_ n8_ n9_
 have hHeld : w42.cell? ⟨gb127, 0, none⟩ = some (.int .i64 (wrap64 (1 + (Int.tmod t125 5)))) ∧ w42.cell? ⟨gb127, 1, none⟩ = some (.slice Ao32 x128001_1.length co32) ∧ w42.cell? ⟨gb127, 2, none⟩ = some (.slice Ao33 x128002_1.length co33) ∧ w42.cell? ⟨gb127, 3, none⟩ = some (.slice none 0 0) ∧ w42.cell? ⟨gb141, 0, none⟩ = some (.int .u64 t130) ∧ w42.cell? ⟨gb141, 1, none⟩ = some (.int .u16 t131) ∧ w42.cell? ⟨gb141, 2, none⟩ = some (.int .i64 t132) ∧ w42.cell? ⟨gb141, 3, none⟩ = some (.int .i64 t133) ∧ w42.cell? ⟨gb141, 4, none⟩ = some (.int .i64 t134) ∧ w42.cell? ⟨gb141, 5, none⟩ = some (.int .i64 t135) ∧ w42.cell? ⟨gb141, 6, none⟩ = some (.int .i64 t136) ∧ w42.cell? ⟨gb141, 7, none⟩ = some (.slice Ao19 t137.length co19) := hS_
 obtain ⟨Ao44, co44, eo44⟩ := Kd.N_slice HO158.out
 (first | subst eo44 | (injection eo44 with f1_ f2_ f3_; have f4_ := f1_.symm; have f5_ := f3_.symm; clear f1_ f2_ f3_; subst f4_; subst f5_))
 refine norm_ (a' := ?_) ?_ ?_
 rotate_left
 ·simp only [putAll, Act.put, List.setIfInBounds_toArray, List.set_cons_zero, List.set_cons_succ]
  rfl
 refine one_ (i := 9) (N := some 46) #[true, true, true, true, true, true, true, true, true, true, true, false, false, false] rfl rfl (one_of HT_.out (by kernel_rfl)) (by decide) (fun K hK => ?_)
 refine Kd.N_append_rows_step (Kd.slice 3 (Kd.int .i64)) w.heap.size (by rfl) (.tmp 43) (.tmp 45) 25 64 (.slice none 0 0) 24 rfl Tryd.underlying25 info64 rfl (by decide) (by omega) (.slice Ao33 x128002_1.length co33) x128002_1 y156 _ _ _ (fun k_ => (w.heap.size ≤ k_) ∧ some k_ ≠ (v151 : Value).ownBlock ∧ some k_ ≠ (v154 : Value).ownBlock ∧ k_ ≠ gb124 ∧ k_ ≠ gb127 ∧ k_ ≠ gb141 ∧ k_ ≠ g) (fun k_ => ((fun k_ => (w.heap.size ≤ k_) ∧ some k_ ≠ (v151 : Value).ownBlock ∧ some k_ ≠ (v154 : Value).ownBlock ∧ k_ ≠ gb124 ∧ k_ ≠ gb127 ∧ k_ ≠ gb141 ∧ k_ ≠ g)) k_ ∧ some k_ ≠ (.slice Ao33 x128002_1.length co33 : Value).ownBlock) rfl rfl ?aO ?aR (fun _ hk => hk) ?aF (Below.refl _ _) ?aS ?aL ?_
 (case aR => exact (by skip; exact Kd.N_F (Kd.N_mono (ok' := (fun k_ => ((fun k_ => (w.heap.size ≤ k_) ∧ some k_ ≠ (v151 : Value).ownBlock ∧ some k_ ≠ (v154 : Value).ownBlock ∧ k_ ≠ gb124 ∧ k_ ≠ gb127 ∧ k_ ≠ gb141 ∧ k_ ≠ g)) k_ ∧ some k_ ≠ (.slice Ao33 x128002_1.length co33 : Value).ownBlock)) (HO158.out) (fun k_ hk => ⟨⟨hk.1, ⟨hk.2.1, ⟨hk.2.2.1, ⟨hk.2.2.2.2.2.1, ⟨hk.2.2.2.2.2.2.1, ⟨hk.2.2.2.2.2.2.2, hk.2.2.2.2.1⟩⟩⟩⟩⟩⟩, hk.2.2.2.1⟩))))
 (case aF => exact (fun k_ hk => ⟨(Nat.le_trans (keep_size (w := w) (g := g) (row := none) (by repeat (first | (with_reducible first | exact HK.out | apply KeepBut.set_ | apply keep_drewN | apply keep_drew | apply keep_alloc | refine keep_far ?_ GW124.out _ | refine keep_far ?_ GW127.out _ | refine keep_far ?_ GW141.out _) | exact HK.out))) hk), Kd.fresh' (Kd.N_lt (by (with_reducible repeat (first | apply Kd.N_alloc | apply Kd.N_drewN | apply Kd.N_drew)); exact HO152.out)) k_ hk, Kd.fresh' (Kd.N_lt (by (with_reducible repeat (first | apply Kd.N_alloc | apply Kd.N_drewN | apply Kd.N_drew)); exact HO155.out)) k_ hk, Kd.freshB (g := gb124) (o := .cells #[.int .i64 0, .slice none 0 0, .slice none 0 0, .slice none 0 0] 28 (0, 0)) (by (with_reducible repeat (first | refine blk_drewN ?_ _ | refine blk_drew ?_ | refine blk_alloc ?_ _)); exact BK124.out) k_ hk, Kd.freshB (g := gb127) (o := .cells #[.int .i64 (wrap64 (1 + (Int.tmod t125 5))), .slice Ao32 x128001_1.length co32, .slice Ao33 x128002_1.length co33, .slice none 0 0] 28 (0, 0)) (by (with_reducible repeat (first | refine blk_drewN ?_ _ | refine blk_drew ?_ | refine blk_alloc ?_ _)); exact BK127.out) k_ hk, Kd.freshB (g := gb141) (o := .cells #[.int .u64 t130, .int .u16 t131, .int .i64 t132, .int .i64 t133, .int .i64 t134, .int .i64 t135, .int .i64 t136, .slice Ao19 t137.length co19] 51 (0, 0)) (by (with_reducible repeat (first | refine blk_drewN ?_ _ | refine blk_drew ?_ | refine blk_alloc ?_ _)); exact BK141.out) k_ hk, IsS54.fresh (by repeat (first | (with_reducible first | exact HI0.out | apply IsS54.alloc | apply IsS54.drewN | apply IsS54.drew | apply IsS54.set_1 | refine IsS54.far ?_ NB0_124.out _ | refine IsS54.far ?_ NB0_127.out _ | refine IsS54.far ?_ NB0_141.out _) | exact HI0.out)) k_ hk⟩))
 (case aO => exact (by (with_reducible repeat (first | apply Kd.N_alloc | apply Kd.N_drewN | apply Kd.N_drew)); exact Kd.N_mono HO_128002.out (fun _ hk => ⟨hk.1, ⟨hk.2.1, ⟨hk.2.2.1, ⟨hk.2.2.2.2.2.1, ⟨hk.2.2.2.2.2.2.1, ⟨hk.2.2.2.2.2.2.2, hk.2.2.2.2.1⟩⟩⟩⟩⟩⟩)))
 (case aS => exact (keep_size (w := w) (g := g) (row := none) (by repeat (first | (with_reducible first | exact HK.out | apply KeepBut.set_ | apply keep_drewN | apply keep_drew | apply keep_alloc | refine keep_far ?_ GW124.out _ | refine keep_far ?_ GW127.out _ | refine keep_far ?_ GW141.out _) | exact HK.out))))
 (case aL => have := LMc31.out; omega)
 intro v160 w43 ho hb hg hat
 rw [← Ny159.out] at ho
 have n0_ := Aside0.mk (blk_grown (g := gb124) (o := .cells #[.int .i64 0, .slice none 0 0, .slice none 0 0, .slice none 0 0] 28 (0, 0)) (by (with_reducible repeat (first | refine blk_drewN ?_ _ | refine blk_drew ?_ | refine blk_alloc ?_ _)); exact BK124.out) hg (Kd.N_ne HO_128002.out BK124.out (by decide)))
 have n1_ := Aside0.mk (blk_grown (g := gb127) (o := .cells #[.int .i64 (wrap64 (1 + (Int.tmod t125 5))), .slice Ao32 x128001_1.length co32, .slice Ao33 x128002_1.length co33, .slice none 0 0] 28 (0, 0)) (by (with_reducible repeat (first | refine blk_drewN ?_ _ | refine blk_drew ?_ | refine blk_alloc ?_ _)); exact BK127.out) hg (Kd.N_ne HO_128002.out BK127.out (by decide)))
 have n2_ := Aside0.mk (blk_grown (g := gb141) (o := .cells #[.int .u64 t130, .int .u16 t131, .int .i64 t132, .int .i64 t133, .int .i64 t134, .int .i64 t135, .int .i64 t136, .slice Ao19 t137.length co19] 51 (0, 0)) (by (with_reducible repeat (first | refine blk_drewN ?_ _ | refine blk_drew ?_ | refine blk_alloc ?_ _)); exact BK141.out) hg (Kd.N_ne HO_128002.out BK141.out (by decide)))
 have n3_ := Aside0.mk (IsS54.grown (by repeat (first | (with_reducible first | exact HI0.out | apply IsS54.alloc | apply IsS54.drewN | apply IsS54.drew | apply IsS54.set_1 | refine IsS54.far ?_ NB0_124.out _ | refine IsS54.far ?_ NB0_127.out _ | refine IsS54.far ?_ NB0_141.out _) | exact HI0.out)) hg (IsS54.own_neN HI0.out HO_128002.out (by decide)))
 have n4_ := Aside0.mk (Kd.N_afterv (ok := (fun k_ => (w.heap.size ≤ k_) ∧ some k_ ≠ (v154 : Value).ownBlock ∧ some k_ ≠ (.slice Ao44 y156.length co44 : Value).ownBlock ∧ k_ ≠ g ∧ k_ ≠ gb124 ∧ k_ ≠ gb127 ∧ k_ ≠ gb141)) (by (with_reducible repeat (first | apply Kd.N_alloc | apply Kd.N_drewN | apply Kd.N_drew)); exact Kd.N_mono HO152.out (fun _ hk => ⟨⟨hk.1, ⟨hk.2.1, ⟨hk.2.2.1, ⟨hk.2.2.2.2.1, ⟨hk.2.2.2.2.2.1, ⟨hk.2.2.2.2.2.2.1, hk.2.2.2.2.2.2.2⟩⟩⟩⟩⟩⟩, hk.2.2.2.1⟩)) hg hat)
 have n5_ := Aside0.mk (Kd.N_afterv (ok := (fun k_ => (w.heap.size ≤ k_) ∧ some k_ ≠ (.slice Ao44 y156.length co44 : Value).ownBlock ∧ k_ ≠ g ∧ k_ ≠ gb124 ∧ k_ ≠ gb127 ∧ k_ ≠ gb141)) (by (with_reducible repeat (first | apply Kd.N_alloc | apply Kd.N_drewN | apply Kd.N_drew)); exact Kd.N_mono HO155.out (fun _ hk => ⟨⟨hk.1, ⟨hk.2.1, ⟨hk.2.2.2.1, ⟨hk.2.2.2.2.1, ⟨hk.2.2.2.2.2.1, hk.2.2.2.2.2.2⟩⟩⟩⟩⟩, hk.2.2.1⟩)) hg hat)
 have n6_ := Aside0.mk (Kd.N_afterv (ok := (fun k_ => (w.heap.size ≤ k_) ∧ some k_ ≠ (v151 : Value).ownBlock ∧ some k_ ≠ (v154 : Value).ownBlock ∧ k_ ≠ g ∧ k_ ≠ gb124 ∧ k_ ≠ gb127 ∧ k_ ≠ gb141)) (by (with_reducible repeat (first | apply Kd.N_alloc | apply Kd.N_drewN | apply Kd.N_drew)); exact Kd.N_mono HO158.out (fun _ hk => ⟨⟨hk.1, ⟨hk.2.1, ⟨hk.2.2.1, ⟨hk.2.2.2.2.1, ⟨hk.2.2.2.2.2.1, ⟨hk.2.2.2.2.2.2.1, hk.2.2.2.2.2.2.2⟩⟩⟩⟩⟩⟩, hk.2.2.2.1⟩)) hg hat)
 have n7_ := Aside0.mk (below_weaken (by repeat (first | (with_reducible first | exact HB.out | apply below_alloc | apply pw_below_drewN | apply below_drew1 | refine below_set ?_ (IsS54.ge HI0.out) | refine below_set ?_ GE124.out | refine below_set ?_ GE127.out | refine below_set ?_ GE141.out) | exact HB.out)) HL.out hb)
 have n8_ := Aside0.mk (KeepBut.trans (by repeat (first | (with_reducible first | exact HK.out | apply KeepBut.set_ | apply keep_drewN | apply keep_drew | apply keep_alloc | refine keep_far ?_ GW124.out _ | refine keep_far ?_ GW127.out _ | refine keep_far ?_ GW141.out _) | exact HK.out)) (KeepBut.of_grown hg g) (Kd.N_base2 HO_128002.out))
 have n9_ := Aside0.mk (ho)
 clear BK124
 clear BK127
 clear BK141
 clear HI0
 clear HO152
 clear HO155
 clear HO158
 clear HB
 clear HK
 clear HO_128002
 have BK124 := n0_
 have BK127 := n1_
 have BK141 := n2_
 have HI0 := n3_
 have HO152 := n4_
 have HO155 := n5_
 have HO158 := n6_
 have HB := n7_
 have HK := n8_
 have HO161 := n9_
 clear n0_ n1_ n2_ n3_ n4_ n5_ n6_ n7_ n8_ n9_
 clear ho hb hg hat
 obtain ⟨Ao45, co45, eo45⟩ := Kd.N_slice HO155.out
 (first | subst eo45 | (injection eo45 with f1_ f2_ f3_; have f4_ := f1_.symm; have f5_ := f3_.symm; clear f1_ f2_ f3_; subst f4_; subst f5_))
 obtain ⟨Ao47, co47, eo47⟩ := Kd.N_slice HO161.out
 (first | subst eo47 | (injection eo47 with f1_ f2_ f3_; have f4_ := f1_.symm; have f5_ := f3_.symm; clear f1_ f2_ f3_; subst f4_; subst f5_))
 refine hK.out _ _ ⟨(blk_cell BK127.out 0).trans rfl, (blk_cell BK127.out 1).trans rfl, (blk_cell BK127.out 2).trans rfl, (blk_cell BK127.out 3).trans rfl, (blk_cell BK141.out 0).trans rfl, (blk_cell BK141.out 1).trans rfl, (blk_cell BK141.out 2).trans rfl, (blk_cell BK141.out 3).trans rfl, (blk_cell BK141.out 4).trans rfl, (blk_cell BK141.out 5).trans rfl, (blk_cell BK141.out 6).trans rfl, (blk_cell BK141.out 7).trans rfl⟩ (fun hHeld => ?_)
 clear hK K
 refine norm_ (a' := ?_) ?_ ?_
 rotate_left
 ·show Act.put _ (some 46) _ = _
  simp only [Act.put, List.setIfInBounds_toArray, List.set_cons_zero, List.set_cons_succ, i64_w, i32_w]
  rfl
 refine last_ (i := 11) (N := none) #[true, true, true, true, true, true, true, true, true, true, true, true, false, false] rfl rfl (one_of HT_.out (by kernel_rfl)) (by decide) (fun K hK => ?_)
 have hs46 : w43.cell? ⟨gb127, 1, none⟩ = some (.slice Ao32 x128001_1.length co32) := (blk_cell BK127.out 1).trans rfl
 have hfs46 := blk_frozen BK127.out 1
 have hns46_0 := NB124_127.out
 have hns46_2 := NB141_127.out
 have hms46_0 := NB127_124.out
 have hms46_2 := NB127_141.out
 refine skip_ (w1 := ?_) (by rfl) rfl ?_ ?_
 rotate_left
 ·go_simp
  rfl
 refine hK.out _ _ ?_
 clear hK K
 refine pure_ (i := 12) (N := some 48) (v := ?_) (a' := ?_) #[true, true, true, true, true, true, true, true, true, true, true, true, true, false] rfl rfl (any_of HT_.out (by kernel_rfl)) (fun _ _ _ h => h) (Or.inl ⟨by rfl, ?_⟩) ?_ ?_
 rotate_left
 ·intro w'
  go_simp
  with_reducible rfl
 rotate_left
 ·simp only [Act.put, List.setIfInBounds_toArray, List.set_cons_zero, List.set_cons_succ, i64_w, i32_w]
  rfl
 refine last_ (i := 13) (N := none) #[true, true, true, true, true, true, true, true, true, true, true, true, true, true] rfl rfl (one_of HT_.out (by kernel_rfl)) (by decide) (fun K hK => ?_)
 have hs48 : w43.cell? ⟨gb127, 2, none⟩ = some (.slice Ao33 x128002_1.length co33) := (blk_cell BK127.out 2).trans rfl
 have hfs48 := blk_frozen BK127.out 2
 have hns48_0 := NB124_127.out
 have hns48_2 := NB141_127.out
 have hms48_0 := NB127_124.out
 have hms48_2 := NB127_141.out
 refine skip_ (w1 := ?_) (by rfl) rfl ?_ ?_
 rotate_left
 ·go_simp
  rfl
 refine hK.out _ _ ?_
 clear hK K
 refine done_ (done_of HT_.out (by kernel_rfl)) ?_
 try go_wp2
 go_roundg k2
 case measure => have := HK1.out; have := HK2.out; omega
 case rel => exact ⟨(wrap64 (x17_1 + 1)), (x1001_2), (y153), (y159), (.slice Ao45 y153.length co45), (.slice Ao47 y159.length co47), (by first | rfl | (simp; done) | (simp [*]; done)), H', ⟨by have := HK1.out; have := HK2.out; omega⟩, ⟨by (with_reducible repeat (first | apply Kd.N_alloc | apply Kd.N_drewN | apply Kd.N_drew)); exact Kd.N_mono (Kd.N_far (p := ⟨gb127, 2, none⟩) (Kd.N_far (p := ⟨gb127, 1, none⟩) (Kd.N_mono HO155.out (fun k_ hk => (⟨hk, hk.1.2.2.2.2.1⟩ : _ ∧ k_ ≠ gb127))) (fun _ hk => hk.2) (.slice Ao45 y153.length co45)) (fun _ hk => hk.2) (.slice Ao47 y159.length co47)) (fun _ hk => ⟨hk.1.1.1, ⟨hk.1.2, ⟨hk.1.1.2.2.2.1, ⟨hk.1.1.2.2.2.2.1, hk.1.1.2.2.1⟩⟩⟩⟩)⟩, ⟨by (with_reducible repeat (first | apply Kd.N_alloc | apply Kd.N_drewN | apply Kd.N_drew)); exact Kd.N_mono (Kd.N_far (p := ⟨gb127, 2, none⟩) (Kd.N_far (p := ⟨gb127, 1, none⟩) (Kd.N_mono HO161.out (fun k_ hk => (⟨hk, hk.2.2.2.2.1⟩ : _ ∧ k_ ≠ gb127))) (fun _ hk => hk.2) (.slice Ao45 y153.length co45)) (fun _ hk => hk.2) (.slice Ao47 y159.length co47)) (fun _ hk => ⟨hk.1.1, ⟨hk.1.2.2.1, ⟨hk.1.2.2.2.1, ⟨hk.1.2.2.2.2.1, hk.1.2.2.2.2.2.2⟩⟩⟩⟩)⟩, ⟨by (with_reducible repeat (first | refine blk_drewN ?_ _ | refine blk_drew ?_ | refine blk_alloc ?_ _)); refine blk_far ?_ NB124_127.out _; (with_reducible repeat (first | refine blk_drewN ?_ _ | refine blk_drew ?_ | refine blk_alloc ?_ _)); refine blk_far ?_ NB124_127.out _; (with_reducible repeat (first | refine blk_drewN ?_ _ | refine blk_drew ?_ | refine blk_alloc ?_ _)); exact BK124.out⟩, ⟨by (with_reducible repeat (first | refine blk_drewN ?_ _ | refine blk_drew ?_ | refine blk_alloc ?_ _)); refine blk_put (cs := #[.int .i64 (wrap64 (1 + (Int.tmod t125 5))), .slice Ao45 y153.length co45, .slice Ao33 x128002_1.length co33, .slice none 0 0]) ?_ 2 _ rfl; (with_reducible repeat (first | refine blk_drewN ?_ _ | refine blk_drew ?_ | refine blk_alloc ?_ _)); refine blk_put (cs := #[.int .i64 (wrap64 (1 + (Int.tmod t125 5))), .slice Ao32 x128001_1.length co32, .slice Ao33 x128002_1.length co33, .slice none 0 0]) ?_ 1 _ rfl; (with_reducible repeat (first | refine blk_drewN ?_ _ | refine blk_drew ?_ | refine blk_alloc ?_ _)); exact BK127.out⟩, ⟨by repeat (first | (with_reducible first | exact HI0.out | apply IsS54.alloc | apply IsS54.drewN | apply IsS54.drew | apply IsS54.set_1 | refine IsS54.far ?_ NB0_124.out _ | refine IsS54.far ?_ NB0_127.out _ | refine IsS54.far ?_ NB0_141.out _) | exact HI0.out)⟩, ⟨by repeat (first | (with_reducible first | exact HK.out | apply KeepBut.set_ | apply keep_drewN | apply keep_drew | apply keep_alloc | refine keep_far ?_ GW124.out _ | refine keep_far ?_ GW127.out _ | refine keep_far ?_ GW141.out _) | exact HK.out)⟩, ⟨by repeat (first | (with_reducible first | exact HB.out | apply below_alloc | apply pw_below_drewN | apply below_drew1 | refine below_set ?_ (IsS54.ge HI0.out) | refine below_set ?_ GE124.out | refine below_set ?_ GE127.out | refine below_set ?_ GE141.out) | exact HB.out)⟩⟩
end Go.Proofs.YtiikllgppmmiaaaDoor.OScriptTells
