/- What Go functions that the law ScriptReads uses come to, and why: part 5. Made out of the kit's print by a program of this session (wip/tools/stub.py, splice.py), functions that it does not take told by hand. -/
import Derived.Test.YtiikllgppmmiaaaDoorOScriptReadsx4
namespace Go.Proofs.YtiikllgppmmiaaaDoor.OScriptReads
open Go.RowKit Go.Proofs.YtiikllgppmmiaaaDoorW.PrintWords Go.Proofs.YtiikllgppmmiaaaDoorW.PrintLast Go.Proofs.YtiikllgppmmiaaaDoorW.PrintMore
attribute [local go_sem] max2_int min2_int max_two min_two max_three min_three max_four min_four   -- for this text's walks alone
set_option linter.unusedVariables false
set_option linter.unusedSimpArgs false

/-! ### script_reader_topo: function 16 -/
mutual
def script_reader_topo.l0 : Nat → Int → Int → List Int → Int → Int → List (S51) → List (List Int) → Option (Int × (List (S51)) × (List (List Int)) × (List (S66)) × Int)
  | 0, _, _, _, _, _, _, _ => none
  | k + 1, x16, x17, x1000, x1001, x146000, x146001, x146002 => if x17 < x16 then ((script_reader_conf.f k x1000 x1001 x17).bind fun bt148 => (script_reader_topo.l1 k ([] : List Int) x16 x17 (bt148.2.2.2.2.2.2.2.1.length : Int) 0 x1000 bt148.2.2.2.2.2.2.2.2 x146000 x146001 x146002 bt148.1 bt148.2.1 bt148.2.2.1 bt148.2.2.2.1 bt148.2.2.2.2.1 bt148.2.2.2.2.2.1 bt148.2.2.2.2.2.2.1 bt148.2.2.2.2.2.2.2.1)) else ((script_reader_next.f x1000 x1001).bind fun bt180 => (script_reader_topo.l2 k (Int.tmod bt180.1 4) 0 x1000 bt180.2 x146000 x146001 x146002 ([] : List (S66))))
def script_reader_topo.l1 : Nat → List Int → Int → Int → Int → Int → List Int → Int → Int → List (S51) → List (List Int) → Int → Int → Int → Int → Int → Int → Int → List (S63) → Option (Int × (List (S51)) × (List (List Int)) × (List (S66)) × Int)
  | 0, _, _, _, _, _, _, _, _, _, _, _, _, _, _, _, _, _, _ => none
  | k + 1, x6, x16, x17, x25, x26, x1000, x1001, x146000, x146001, x146002, x160000, x160001, x160002, x160003, x160004, x160005, x160006, x160007 => if x26 < x25 then ((script_reader_next.f x1000 x1001).bind fun bt160 => (if x146000 = 0 then (none) else ((some (([Int.tmod bt160.1 x146000] : List Int) : List Int)).bind fun y162 => (if x6.length + y162.length < 17592186044416 then (script_reader_topo.l1 k (x6 ++ y162) x16 x17 x25 (wrap64 (x26 + 1)) x1000 bt160.2 x146000 x146001 x146002 x160000 x160001 x160002 x160003 x160004 x160005 x160006 x160007) else (none))))) else ((some (([(⟨x160000, x160001, x160002, x160003, x160004, x160005, x160006, x160007⟩ : S51)] : List (S51)) : List (S51))).bind fun y168 => (if x146001.length + y168.length < 1759218604441 then ((some (([x6] : List (List Int)) : List (List Int))).bind fun y174 => (if x146002.length + y174.length < 5864062014805 then (script_reader_topo.l0 k x16 (wrap64 (x17 + 1)) x1000 x1001 x146000 (x146001 ++ y168) (x146002 ++ y174)) else (none))) else (none)))
def script_reader_topo.l2 : Nat → Int → Int → List Int → Int → Int → List (S51) → List (List Int) → List (S66) → Option (Int × (List (S51)) × (List (List Int)) × (List (S66)) × Int)
  | 0, _, _, _, _, _, _, _, _ => none
  | k + 1, x52, x53, x1000, x1001, x146000, x146001, x146002, x146003 => if x53 < x52 then ((script_address.f 2 x53).bind fun t182 => ((script_reader_next.f x1000 x1001).bind fun bt183 => (if x146000 = 0 then (none) else ((some (([(⟨t182, Int.tmod bt183.1 x146000⟩ : S66)] : List (S66)) : List (S66))).bind fun y185 => (if x146003.length + y185.length < 8796093022208 then (script_reader_topo.l2 k x52 (wrap64 (x53 + 1)) x1000 bt183.2 x146000 x146001 x146002 (x146003 ++ y185)) else (none)))))) else (some (x146000, x146001, x146002, x146003, x1001))
end
def script_reader_topo.f (k : Nat) (s0_0 : List Int) (s0_1 : Int) : Option (Int × (List (S51)) × (List (List Int)) × (List (S66)) × Int) := (script_reader_next.f s0_0 s0_1).bind fun bt143 => ((script_reader_next.f s0_0 bt143.2).bind fun bt146 => (script_reader_topo.l0 k (wrap64 (1 + (Int.tmod bt146.1 4))) 0 s0_0 bt146.2 (wrap64 (1 + (Int.tmod bt143.1 5))) ([] : List (S51)) ([] : List (List Int))))
theorem script_reader_topo.mono_l : ∀ k, (∀ y0 y1 y2 y3 y4 y5 y6, LeO (script_reader_topo.l0 k y0 y1 y2 y3 y4 y5 y6) (script_reader_topo.l0 (k + 1) y0 y1 y2 y3 y4 y5 y6)) ∧ (∀ y0 y1 y2 y3 y4 y5 y6 y7 y8 y9 y10 y11 y12 y13 y14 y15 y16 y17, LeO (script_reader_topo.l1 k y0 y1 y2 y3 y4 y5 y6 y7 y8 y9 y10 y11 y12 y13 y14 y15 y16 y17) (script_reader_topo.l1 (k + 1) y0 y1 y2 y3 y4 y5 y6 y7 y8 y9 y10 y11 y12 y13 y14 y15 y16 y17)) ∧ (∀ y0 y1 y2 y3 y4 y5 y6 y7, LeO (script_reader_topo.l2 k y0 y1 y2 y3 y4 y5 y6 y7) (script_reader_topo.l2 (k + 1) y0 y1 y2 y3 y4 y5 y6 y7))
  | 0 => ⟨fun _ _ _ _ _ _ _ r h => by simp [script_reader_topo.l0] at h, fun _ _ _ _ _ _ _ _ _ _ _ _ _ _ _ _ _ _ r h => by simp [script_reader_topo.l1] at h, fun _ _ _ _ _ _ _ _ r h => by simp [script_reader_topo.l2] at h⟩
  | k + 1 => by
    obtain ⟨ih0, ih1, ih2⟩ := script_reader_topo.mono_l k
    refine ⟨?_, ?_, ?_⟩
    · intro y0 y1 y2 y3 y4 y5 y6
      unfold script_reader_topo.l0
      repeat' first
      | (with_reducible apply ih0)
      | (with_reducible apply ih1)
      | (with_reducible apply ih2)
      | (with_reducible apply script_reader_conf.mono)
      | (with_reducible exact LeO.refl _)
      | (with_reducible exact LeO.none _)
      | (with_reducible refine LeO.ite ?_ ?_)
      | (with_reducible refine LeO.bind ?_ (fun _ => ?_))
      | apply ih0
      | apply ih1
      | apply ih2
      | exact script_reader_conf.mono _ _ _ _
      | exact LeO.none _
      | refine LeO.ite ?_ ?_
      | refine LeO.bind ?_ (fun _ => ?_)
    · intro y0 y1 y2 y3 y4 y5 y6 y7 y8 y9 y10 y11 y12 y13 y14 y15 y16 y17
      unfold script_reader_topo.l1
      repeat' first
      | (with_reducible apply ih0)
      | (with_reducible apply ih1)
      | (with_reducible apply ih2)
      | (with_reducible apply script_reader_conf.mono)
      | (with_reducible exact LeO.refl _)
      | (with_reducible exact LeO.none _)
      | (with_reducible refine LeO.ite ?_ ?_)
      | (with_reducible refine LeO.bind ?_ (fun _ => ?_))
      | apply ih0
      | apply ih1
      | apply ih2
      | exact script_reader_conf.mono _ _ _ _
      | exact LeO.none _
      | refine LeO.ite ?_ ?_
      | refine LeO.bind ?_ (fun _ => ?_)
    · intro y0 y1 y2 y3 y4 y5 y6 y7
      unfold script_reader_topo.l2
      repeat' first
      | (with_reducible apply ih0)
      | (with_reducible apply ih1)
      | (with_reducible apply ih2)
      | (with_reducible apply script_reader_conf.mono)
      | (with_reducible exact LeO.refl _)
      | (with_reducible exact LeO.none _)
      | (with_reducible refine LeO.ite ?_ ?_)
      | (with_reducible refine LeO.bind ?_ (fun _ => ?_))
      | apply ih0
      | apply ih1
      | apply ih2
      | exact script_reader_conf.mono _ _ _ _
      | exact LeO.none _
      | refine LeO.ite ?_ ?_
      | refine LeO.bind ?_ (fun _ => ?_)
theorem script_reader_topo.mono : ∀ a0 a1 k, LeO (script_reader_topo.f k a0 a1) (script_reader_topo.f (k + 1) a0 a1) := by
  intro a0 a1 k
  obtain ⟨ih0, ih1, ih2⟩ := script_reader_topo.mono_l k
  unfold script_reader_topo.f
  repeat' first
      | (with_reducible apply ih0)
      | (with_reducible apply ih1)
      | (with_reducible apply ih2)
      | (with_reducible apply script_reader_conf.mono)
      | (with_reducible exact LeO.refl _)
      | (with_reducible exact LeO.none _)
      | (with_reducible refine LeO.ite ?_ ?_)
      | (with_reducible refine LeO.bind ?_ (fun _ => ?_))
      | apply ih0
      | apply ih1
      | apply ih2
      | exact script_reader_conf.mono _ _ _ _
      | exact LeO.none _
      | refine LeO.ite ?_ ?_
      | refine LeO.bind ?_ (fun _ => ?_)
def script_reader_topo.T9 : Bool × List (List Nat × List Nat) := (true, [([], []), ([], []), ([1], [1]), ([], []), ([3], [3]), ([2, 4], [2, 4]), ([5], [5]), ([0, 6, 2], [0, 6]), ([7, 7, 0, 1, 2, 3, 4, 5, 6, 7], [0, 7])])
def script_reader_topo.B9 : List Nat := [0, 0, 2, 0, 8, 30, 62, 127, 255]
theorem script_reader_topo.tab9 : rtab .any (opsOf Tryd.f16 9) = script_reader_topo.T9 := by kernel_rfl
theorem script_reader_topo.bits9 : waitsOk script_reader_topo.T9.2 script_reader_topo.B9 = true := by kernel_rfl
def script_reader_topo.T11 : Bool × List (List Nat × List Nat) := (true, [([], []), ([0], [0]), ([], []), ([2], [2]), ([1, 3], [1, 3]), ([], []), ([5], [5]), ([], []), ([7], [7]), ([6, 8, 4], [6, 8]), ([0, 1, 2, 3, 4, 5, 6], []), ([10, 4, 9, 0, 1, 2, 3, 4, 5, 6], [4, 10]), ([0, 1, 2, 3, 4, 5, 6, 7, 8, 9, 10, 11], []), ([12, 9, 11, 0, 1, 2, 3, 4, 5, 6, 7, 8, 9, 10, 11], [9, 12])])
def script_reader_topo.B11 : List Nat := [0, 1, 0, 4, 15, 0, 32, 0, 128, 511, 127, 2047, 4095, 8191]
theorem script_reader_topo.tab11 : rtab .any (opsOf Tryd.f16 11) = script_reader_topo.T11 := by kernel_rfl
theorem script_reader_topo.bits11 : waitsOk script_reader_topo.T11.2 script_reader_topo.B11 = true := by kernel_rfl
def script_reader_topo.T16 : Bool × List (List Nat × List Nat) := (true, [([], []), ([0], [0]), ([], []), ([2], [2]), ([], []), ([4, 3], [4]), ([], []), ([6], [6]), ([5, 7], [5, 7]), ([3, 8], [3, 8]), ([9], [9]), ([1, 10, 5], [1, 10]), ([0, 1, 2, 3, 4, 5, 6, 7, 8, 9, 10, 11], []), ([12, 11, 11, 0, 1, 2, 3, 4, 5, 6, 7, 8, 9, 10, 11], [11, 12])])
def script_reader_topo.B16 : List Nat := [0, 1, 0, 4, 0, 28, 0, 64, 252, 508, 1020, 2047, 4095, 8191]
theorem script_reader_topo.tab16 : rtab .any (opsOf Tryd.f16 16) = script_reader_topo.T16 := by kernel_rfl
theorem script_reader_topo.bits16 : waitsOk script_reader_topo.T16.2 script_reader_topo.B16 = true := by kernel_rfl
set_option maxHeartbeats 8000000 in
set_option maxRecDepth 100000 in
theorem script_reader_topo.calls (k : Nat) (g : Nat) (s0_0 : List Int) (s0_1 : Int) (r1 : Int) (r2 : List (S51)) (r3 : List (List Int)) (r4 : List (S66)) (r5 : Int) (w0 w : World) (hI : IsS54 w0 w g s0_0 s0_1) (hB : Below w0.heap.size w0 w) (h : script_reader_topo.f k s0_0 s0_1 = some (r1, r2, r3, r4, r5)) :
  Calls Tryd.prog 16 #[.pointer (some ⟨g, 0, none⟩)] w fun e w' => ∃ v1_ v2_ v3_ : Value, e = .returned (.agg #[.int .i64 r1, v1_, v2_, v3_]) ∧ Kd.N k51 51 w' w.heap.size (fun k_ => (w.heap.size ≤ k_) ∧ some k_ ≠ (v2_ : Value).ownBlock ∧ some k_ ≠ (v3_ : Value).ownBlock) v1_ r2 ∧ Kd.N (Kd.slice 3 (Kd.int .i64)) 64 w' w.heap.size (fun k_ => (w.heap.size ≤ k_) ∧ some k_ ≠ (v1_ : Value).ownBlock ∧ some k_ ≠ (v3_ : Value).ownBlock) v2_ r3 ∧ Kd.R k66 66 w' w.heap.size (fun k_ => (w.heap.size ≤ k_)) v3_ r4 ∧ IsS54 w0 w' g s0_0 r5 ∧ Below w0.heap.size w0 w' ∧ KeepBut w w' g none := by
 have hu28 := Tryd.underlying28
 have hu51 := Tryd.underlying51
 have hu66 := Tryd.underlying66
 have HI0 := Aside0.mk hI
 have HK := Aside0.mk (KeepBut.refl w g none)
 have HL := Aside0.mk hB.size
 clear hI
 have HW0 := Aside0.mk hB.size
 have HB := Aside0.mk hB
 clear hB
 have H : ((script_reader_next.f s0_0 s0_1).bind fun bt143 => ((script_reader_next.f s0_0 bt143.2).bind fun bt146 => (script_reader_topo.l0 k (wrap64 (1 + (Int.tmod bt146.1 4))) 0 s0_0 bt146.2 (wrap64 (1 + (Int.tmod bt143.1 5))) ([] : List (S51)) ([] : List (List Int))))) = some (r1, r2, r3, r4, r5) := h
 clear h
 replace H := Option.bind_eq_some_iff.mp H
 obtain ⟨⟨t143, t144⟩, A20, H⟩ := H
 (try dsimp only at H)
 have A2 := Aside0.mk A20
 clear A20
 replace H := Option.bind_eq_some_iff.mp H
 obtain ⟨⟨t146, t147⟩, A30, H⟩ := H
 (try dsimp only at H)
 have A3 := Aside0.mk A30
 clear A30
 have H' := Aside0.mk H
 clear H
 go_enter Tryd.func16, Tryd.ntmps16
 go_wp2_with (first | ((with_reducible refine gate_dst (N := 2) rfl ?_); refine box_event ?hg (N := 2) ?hd (cs := #[.int .i64 0, .slice none 0 0, .slice none 0 0, .slice none 0 0]) (t := 28) ?hr ?_; (case hd => rfl); (case hg => rfl); (case hr => first | (go_simp; done) | (go_simp; rfl)); intro gb142 hg w4 hbox hb; replace HB := Aside0.mk (below_step bB hb); have BK142 := Aside0.mk (hbox); have GW142 := Aside0.mk ((by rw [hg]; exact (keep_size (w := w) (g := g) (row := none) bK) : w.heap.size ≤ gb142)); have GE142 := Aside0.mk ((Nat.le_trans HW0.out (by rw [hg]; exact (keep_size (w := w) (g := g) (row := none) bK) : w.heap.size ≤ gb142) : w0.heap.size ≤ gb142)); replace HK := Aside0.mk (KeepBut.trans bK (KeepBut.of_below hb g none) (.inl rfl)); have NB0_142 := Aside0.mk ((by rw [hg]; exact Nat.ne_of_lt (IsS54.lt (show IsS54 w0 _ g s0_0 s0_1 from by exact bI HI0.out)) : g ≠ gb142)); have NB142_0 := Aside0.mk ((by rw [hg]; exact Nat.ne_of_gt (IsS54.lt (show IsS54 w0 _ g s0_0 s0_1 from by exact bI HI0.out)) : gb142 ≠ g)); replace HI0 := Aside0.mk (IsS54.below (bI HI0.out) hb); clear hb hbox hg) | ((with_reducible refine gate_callee (f := 28) rfl ?_); refine gL (some 9) Tryd.func28 #[.pointer (some ⟨g, 0, none⟩)] ?_; (with_reducible refine (script_reader_next.calls g s0_0 s0_1 t143 t144 w0 _ ?side1 ?side2 A2.out).mono ?_); (case side1 => exact bI HI0.out); (case side2 => exact bB); rintro e w5 ⟨rfl, hi, hb, hk⟩; refine ⟨_, rfl, ?_⟩; replace BK142 := Aside0.mk (KeepBut.blk hk (g' := gb142) (o := .cells #[.int .i64 0, .slice none 0 0, .slice none 0 0, .slice none 0 0] 28 (0, 0)) (bw BK142.out) NB142_0.out (by simp)); replace HK := Aside0.mk (KeepBut.trans bK hk (.inl rfl)); replace HB := Aside0.mk (hb); replace HI0 := Aside0.mk (hi); (try clear hb); (try clear hb2); (try clear hk); (try clear hi)) | ((with_reducible refine gate_dst (N := 3) rfl ?_); refine box_event ?hg (N := 3) ?hd (cs := #[.int .i64 0, .slice none 0 0, .slice none 0 0, .slice none 0 0]) (t := 28) ?hr ?_; (case hd => rfl); (case hg => rfl); (case hr => first | (go_simp; done) | (go_simp; rfl)); intro gb145 hg w6 hbox hb; replace HB := Aside0.mk (below_step bB hb); have BK145 := Aside0.mk (hbox); have GW145 := Aside0.mk ((by rw [hg]; exact (keep_size (w := w) (g := g) (row := none) bK) : w.heap.size ≤ gb145)); have GE145 := Aside0.mk ((Nat.le_trans HW0.out (by rw [hg]; exact (keep_size (w := w) (g := g) (row := none) bK) : w.heap.size ≤ gb145) : w0.heap.size ≤ gb145)); replace HK := Aside0.mk (KeepBut.trans bK (KeepBut.of_below hb g none) (.inl rfl)); have NB142_145 := Aside0.mk (nbL (bw BK142.out) hg : gb142 ≠ gb145); have NB145_142 := Aside0.mk (nbL (bw BK142.out) hg : gb142 ≠ gb145).symm; replace BK142 := Aside0.mk (blk_below (g := gb142) (o := .cells #[.int .i64 0, .slice none 0 0, .slice none 0 0, .slice none 0 0] 28 (0, 0)) (bw BK142.out) hb); have NB0_145 := Aside0.mk ((by rw [hg]; exact Nat.ne_of_lt (IsS54.lt (show IsS54 w0 _ g s0_0 t144 from by exact bI HI0.out)) : g ≠ gb145)); have NB145_0 := Aside0.mk ((by rw [hg]; exact Nat.ne_of_gt (IsS54.lt (show IsS54 w0 _ g s0_0 t144 from by exact bI HI0.out)) : gb145 ≠ g)); replace HI0 := Aside0.mk (IsS54.below (bI HI0.out) hb); clear hb hbox hg; have hnb7 := NB145_142.out; have hnc7 := NB142_145.out; have hnb8 := NB145_0.out; have hnc8 := NB0_145.out; obtain ⟨hcz9_0, hcz9_1, hcz9_2, hcz9_3⟩ := cZ4 BK145.out; obtain ⟨hfz9_0, hfz9_1, hfz9_2, hfz9_3⟩ := fZ4 BK145.out) | ((with_reducible refine gate_callee (f := 28) rfl ?_); refine gL (some 14) Tryd.func28 #[.pointer (some ⟨g, 0, none⟩)] ?_; (with_reducible refine (script_reader_next.calls g s0_0 t144 t146 t147 w0 _ ?side1 ?side2 A3.out).mono ?_); (case side1 => exact bI HI0.out); (case side2 => exact bB); rintro e w10 ⟨rfl, hi, hb, hk⟩; refine ⟨_, rfl, ?_⟩; replace BK142 := Aside0.mk (KeepBut.blk hk (g' := gb142) (o := .cells #[.int .i64 0, .slice none 0 0, .slice none 0 0, .slice none 0 0] 28 (0, 0)) (bw BK142.out) NB142_0.out (by simp)); replace BK145 := Aside0.mk (KeepBut.blk hk (g' := gb145) (o := .cells #[.int .i64 (wrap64 (1 + (Int.tmod t143 5))), .slice none 0 0, .slice none 0 0, .slice none 0 0] 28 (0, 0)) (by exact put4 (bw BK145.out)) NB145_0.out (by simp)); replace HK := Aside0.mk (KeepBut.trans bK hk (.inl rfl)); replace HB := Aside0.mk (hb); replace HI0 := Aside0.mk (hi); (try clear hb); (try clear hb2); (try clear hk); (try clear hi)) | (go_at_call 28; (with_reducible refine (script_reader_next.calls g s0_0 s0_1 t143 t144 w0 _ ?side1 ?side2 A2.out).mono ?_); (case side1 => exact bI HI0.out); (case side2 => exact bB); rintro e w5 ⟨rfl, hi, hb, hk⟩; replace BK142 := Aside0.mk (KeepBut.blk hk (g' := gb142) (o := .cells #[.int .i64 0, .slice none 0 0, .slice none 0 0, .slice none 0 0] 28 (0, 0)) (bw BK142.out) NB142_0.out (by simp)); replace HK := Aside0.mk (KeepBut.trans bK hk (.inl rfl)); replace HB := Aside0.mk (hb); replace HI0 := Aside0.mk (hi); (try clear hb); (try clear hb2); (try clear hk); (try clear hi)) | (go_at_call 28; (with_reducible refine (script_reader_next.calls g s0_0 t144 t146 t147 w0 _ ?side1 ?side2 A3.out).mono ?_); (case side1 => exact bI HI0.out); (case side2 => exact bB); rintro e w10 ⟨rfl, hi, hb, hk⟩; replace BK142 := Aside0.mk (KeepBut.blk hk (g' := gb142) (o := .cells #[.int .i64 0, .slice none 0 0, .slice none 0 0, .slice none 0 0] 28 (0, 0)) (bw BK142.out) NB142_0.out (by simp)); replace BK145 := Aside0.mk (KeepBut.blk hk (g' := gb145) (o := .cells #[.int .i64 (wrap64 (1 + (Int.tmod t143 5))), .slice none 0 0, .slice none 0 0, .slice none 0 0] 28 (0, 0)) (by exact put4 (bw BK145.out)) NB145_0.out (by simp)); replace HK := Aside0.mk (KeepBut.trans bK hk (.inl rfl)); replace HB := Aside0.mk (hb); replace HI0 := Aside0.mk (hi); (try clear hb); (try clear hb2); (try clear hk); (try clear hi)))
 go_loopg [17] k (fun kq v17 w' => ∃ (x17_1 : Int) (x1001_1 : Int) (x146001_1 : List (S51)) (x146002_1 : List (List Int)) (u146001 : Value) (u146002 : Value), v17 = .int .i64 x17_1 ∧ Aside0 (script_reader_topo.l0 kq (wrap64 (1 + (Int.tmod t146 4))) x17_1 s0_0 x1001_1 (wrap64 (1 + (Int.tmod t143 5))) x146001_1 x146002_1 = some (r1, r2, r3, r4, r5)) ∧ Aside0 (kq ≤ k) ∧ Aside0 (Kd.N k51 51 w' w.heap.size (fun k_ => (w.heap.size ≤ k_) ∧ some k_ ≠ (u146002 : Value).ownBlock ∧ k_ ≠ gb142 ∧ k_ ≠ gb145 ∧ k_ ≠ g) u146001 x146001_1) ∧ Aside0 (Kd.N (Kd.slice 3 (Kd.int .i64)) 64 w' w.heap.size (fun k_ => (w.heap.size ≤ k_) ∧ some k_ ≠ (u146001 : Value).ownBlock ∧ k_ ≠ gb142 ∧ k_ ≠ gb145 ∧ k_ ≠ g) u146002 x146002_1) ∧ Aside0 (w'.heap[gb142]? = some (.cells #[.int .i64 0, (.slice none 0 0), (.slice none 0 0), (.slice none 0 0)] 28 (0, 0))) ∧ Aside0 (w'.heap[gb145]? = some (.cells #[.int .i64 (wrap64 (1 + (Int.tmod t143 5))), u146001, u146002, (.slice none 0 0)] 28 (0, 0))) ∧ Aside0 (IsS54 w0 w' g s0_0 x1001_1) ∧ Aside0 (KeepBut w w' g none) ∧ Aside0 (Below w0.heap.size w0 w'))
 case atStart => exact ⟨(0), (t147), (([] : List (S51))), (([] : List (List Int))), (.slice none 0 0), (.slice none 0 0), (by first | rfl | (simp; done) | (simp [*]; done)), H', ⟨Nat.le_refl _⟩, ⟨by first | exact Kd.S_nil _ _ _ _ _ | exact Kd.N_nil _ _ _ _ _ | exact Kd.V_nil _ _ _ _ _ | exact Kd.Q_nil _ _ _ _ _ | exact Kd.R_nil _ _ _ _ _⟩, ⟨by first | exact Kd.S_nil _ _ _ _ _ | exact Kd.N_nil _ _ _ _ _ | exact Kd.V_nil _ _ _ _ _ | exact Kd.Q_nil _ _ _ _ _ | exact Kd.R_nil _ _ _ _ _⟩, ⟨bw BK142.out⟩, ⟨bw BK145.out⟩, ⟨bI HI0.out⟩, ⟨bK⟩, ⟨bB⟩⟩
 clear H'
 try clear p2
 try clear p6
 try clear hcz9_0
 try clear hcz9_1
 try clear hcz9_2
 try clear hcz9_3
 try clear hfz9_0
 try clear hfz9_1
 try clear hfz9_2
 try clear hfz9_3
 obtain ⟨x17_1, x1001_1, x146001_1, x146002_1, u146001, u146002, rfl, HA, HK1, HO_146001, HO_146002, BK142, BK145, HI0, HK, HB⟩ := hrel
 cases gk with
 | zero => exact absurd HA.out (by simp [script_reader_topo.l0])
 | succ k1 => ?_
 have H := HA.out
 clear HA
 simp only [script_reader_topo.l0] at H
 by_cases c11 : x17_1 < (wrap64 (1 + (Int.tmod t146 4)))
 rotate_left
 ·rw [if_neg c11] at H
  have c11b0 : decide (x17_1 < (wrap64 (1 + (Int.tmod t146 4)))) = false := decide_eq_false c11
  clear c11
  replace H := Option.bind_eq_some_iff.mp H
  obtain ⟨⟨t180, t181⟩, A490, H⟩ := H
  (try dsimp only at H)
  have A49 := Aside0.mk A490
  clear A490
  have H' := Aside0.mk H
  clear H
  go_wp2_with (first | ((with_reducible refine gate_callee (f := 28) rfl ?_); refine gL (some 51) Tryd.func28 #[.pointer (some ⟨g, 0, none⟩)] ?_; (with_reducible refine (script_reader_next.calls g s0_0 x1001_1 t180 t181 w0 _ ?side1 ?side2 A49.out).mono ?_); (case side1 => exact bI HI0.out); (case side2 => exact bB); rintro e w50 ⟨rfl, hi, hb, hk⟩; refine ⟨_, rfl, ?_⟩; replace HO_146001 := Aside0.mk (Kd.N_mono (Kd.N_keep (Kd.N_mono (ok := fun k_ => (((w.heap.size ≤ k_)) ∧ (some k_ ≠ (u146002 : Value).ownBlock ∧ (k_ ≠ gb142 ∧ (k_ ≠ gb145 ∧ k_ ≠ g))))) (bN HO_146001.out) (fun k_ hk_ => (⟨hk_, hk_.2.2.2.2⟩ : _ ∧ k_ ≠ g))) hk (fun _ h => h.2)) (fun _ h => h.1)); replace HO_146002 := Aside0.mk (Kd.N_mono (Kd.N_keep (Kd.N_mono (ok := fun k_ => (((w.heap.size ≤ k_)) ∧ (some k_ ≠ (u146001 : Value).ownBlock ∧ (k_ ≠ gb142 ∧ (k_ ≠ gb145 ∧ k_ ≠ g))))) (bN HO_146002.out) (fun k_ hk_ => (⟨hk_, hk_.2.2.2.2⟩ : _ ∧ k_ ≠ g))) hk (fun _ h => h.2)) (fun _ h => h.1)); replace BK142 := Aside0.mk (KeepBut.blk hk (g' := gb142) (o := .cells #[.int .i64 0, .slice none 0 0, .slice none 0 0, .slice none 0 0] 28 (0, 0)) (bw BK142.out) NB142_0.out (by simp)); replace BK145 := Aside0.mk (KeepBut.blk hk (g' := gb145) (o := .cells #[.int .i64 (wrap64 (1 + (Int.tmod t143 5))), u146001, u146002, .slice none 0 0] 28 (0, 0)) (bw BK145.out) NB145_0.out (by simp)); replace HK := Aside0.mk (KeepBut.trans bK hk (.inl rfl)); replace HB := Aside0.mk (hb); replace HI0 := Aside0.mk (hi); (try clear hb); (try clear hb2); (try clear hk); (try clear hi)) | (go_at_call 28; (with_reducible refine (script_reader_next.calls g s0_0 x1001_1 t180 t181 w0 _ ?side1 ?side2 A49.out).mono ?_); (case side1 => exact bI HI0.out); (case side2 => exact bB); rintro e w50 ⟨rfl, hi, hb, hk⟩; replace HO_146001 := Aside0.mk (Kd.N_mono (Kd.N_keep (Kd.N_mono (ok := fun k_ => (((w.heap.size ≤ k_)) ∧ (some k_ ≠ (u146002 : Value).ownBlock ∧ (k_ ≠ gb142 ∧ (k_ ≠ gb145 ∧ k_ ≠ g))))) (bN HO_146001.out) (fun k_ hk_ => (⟨hk_, hk_.2.2.2.2⟩ : _ ∧ k_ ≠ g))) hk (fun _ h => h.2)) (fun _ h => h.1)); replace HO_146002 := Aside0.mk (Kd.N_mono (Kd.N_keep (Kd.N_mono (ok := fun k_ => (((w.heap.size ≤ k_)) ∧ (some k_ ≠ (u146001 : Value).ownBlock ∧ (k_ ≠ gb142 ∧ (k_ ≠ gb145 ∧ k_ ≠ g))))) (bN HO_146002.out) (fun k_ hk_ => (⟨hk_, hk_.2.2.2.2⟩ : _ ∧ k_ ≠ g))) hk (fun _ h => h.2)) (fun _ h => h.1)); replace BK142 := Aside0.mk (KeepBut.blk hk (g' := gb142) (o := .cells #[.int .i64 0, .slice none 0 0, .slice none 0 0, .slice none 0 0] 28 (0, 0)) (bw BK142.out) NB142_0.out (by simp)); replace BK145 := Aside0.mk (KeepBut.blk hk (g' := gb145) (o := .cells #[.int .i64 (wrap64 (1 + (Int.tmod t143 5))), u146001, u146002, .slice none 0 0] 28 (0, 0)) (bw BK145.out) NB145_0.out (by simp)); replace HK := Aside0.mk (KeepBut.trans bK hk (.inl rfl)); replace HB := Aside0.mk (hb); replace HI0 := Aside0.mk (hi); (try clear hb); (try clear hb2); (try clear hk); (try clear hi)))
  go_loopg [53] k1 (fun kq v53 w' => ∃ (x53_2 : Int) (x1001_2 : Int) (x146003_2 : List (S66)) (u146003 : Value), v53 = .int .i64 x53_2 ∧ Aside0 (script_reader_topo.l2 kq (Int.tmod t180 4) x53_2 s0_0 x1001_2 (wrap64 (1 + (Int.tmod t143 5))) x146001_1 x146002_1 x146003_2 = some (r1, r2, r3, r4, r5)) ∧ Aside0 (kq ≤ k1) ∧ Aside0 (Kd.N k51 51 w' w.heap.size (fun k_ => (w.heap.size ≤ k_) ∧ some k_ ≠ (u146002 : Value).ownBlock ∧ some k_ ≠ (u146003 : Value).ownBlock ∧ k_ ≠ gb142 ∧ k_ ≠ gb145 ∧ k_ ≠ g) u146001 x146001_1) ∧ Aside0 (Kd.N (Kd.slice 3 (Kd.int .i64)) 64 w' w.heap.size (fun k_ => (w.heap.size ≤ k_) ∧ some k_ ≠ (u146001 : Value).ownBlock ∧ some k_ ≠ (u146003 : Value).ownBlock ∧ k_ ≠ gb142 ∧ k_ ≠ gb145 ∧ k_ ≠ g) u146002 x146002_1) ∧ Aside0 (Kd.R k66 66 w' w.heap.size (fun k_ => (w.heap.size ≤ k_)) u146003 x146003_2) ∧ Aside0 (w'.heap[gb142]? = some (.cells #[.int .i64 0, (.slice none 0 0), (.slice none 0 0), (.slice none 0 0)] 28 (0, 0))) ∧ Aside0 (w'.heap[gb145]? = some (.cells #[.int .i64 (wrap64 (1 + (Int.tmod t143 5))), u146001, u146002, u146003] 28 (0, 0))) ∧ Aside0 (IsS54 w0 w' g s0_0 x1001_2) ∧ Aside0 (KeepBut w w' g none) ∧ Aside0 (Below w0.heap.size w0 w'))
  case atStart => exact ⟨(0), (t181), (([] : List (S66))), (.slice none 0 0), (by first | rfl | (simp; done) | (simp [*]; done)), H', ⟨Nat.le_refl _⟩, ⟨by refine bN ?_; exact Kd.N_mono HO_146001.out (fun _ hk => ⟨hk.1, ⟨hk.2.1, ⟨(by simp [Value.ownBlock]), ⟨hk.2.2.1, ⟨hk.2.2.2.1, hk.2.2.2.2⟩⟩⟩⟩⟩)⟩, ⟨by refine bN ?_; exact Kd.N_mono HO_146002.out (fun _ hk => ⟨hk.1, ⟨hk.2.1, ⟨(by simp [Value.ownBlock]), ⟨hk.2.2.1, ⟨hk.2.2.2.1, hk.2.2.2.2⟩⟩⟩⟩⟩)⟩, ⟨by first | exact Kd.R_nil _ _ _ _ _ | exact Kd.N_nil _ _ _ _ _ | exact Kd.V_nil _ _ _ _ _ | exact Kd.Q_nil _ _ _ _ _ | exact Kd.S_nil _ _ _ _ _⟩, ⟨bw BK142.out⟩, ⟨bw BK145.out⟩, ⟨bI HI0.out⟩, ⟨bK⟩, ⟨bB⟩⟩
  clear H'
  try clear p2
  try clear p6
  try clear c11
  try clear c11b0
  obtain ⟨x53_2, x1001_2, x146003_2, u146003, rfl, HA, HK2, HO_146001, HO_146002, HO_146003, BK142, BK145, HI0, HK, HB⟩ := hrel
  cases gk with
  | zero => exact absurd HA.out (by simp [script_reader_topo.l2])
  | succ k2 => ?_
  have H := HA.out
  clear HA
  simp only [script_reader_topo.l2] at H
  by_cases c51 : x53_2 < (Int.tmod t180 4)
  rotate_left
  ·rw [if_neg c51] at H
   have c51b0 : decide (x53_2 < (Int.tmod t180 4)) = false := decide_eq_false c51
   clear c51
   simp only [Option.some.injEq, Prod.mk.injEq] at H
   obtain ⟨rfl, rfl, rfl, rfl, rfl⟩ := H
   have hnb64 := NB145_142.out
   have hnc64 := NB142_145.out
   have hnb65 := NB145_0.out
   have hnc65 := NB0_145.out
   obtain ⟨hcz66_0, hcz66_1, hcz66_2, hcz66_3⟩ := cZ4 BK145.out
   obtain ⟨hfz66_0, hfz66_1, hfz66_2, hfz66_3⟩ := fZ4 BK145.out
   have hnb67 := NB142_0.out
   have hnc67 := NB0_142.out
   obtain ⟨hcz68_0, hcz68_1, hcz68_2, hcz68_3⟩ := cZ4 BK142.out
   obtain ⟨hfz68_0, hfz68_1, hfz68_2, hfz68_3⟩ := fZ4 BK142.out
   obtain ⟨Ao69, co69, eo69⟩ := Kd.N_slice HO_146001.out
   subst eo69
   obtain ⟨Ao70, co70, eo70⟩ := Kd.N_slice HO_146002.out
   subst eo70
   obtain ⟨Ao71, co71, eo71⟩ := Kd.R_slice HO_146003.out
   subst eo71
   go_wp2
   refine bodyPost_ret (results_cell_row rfl _ _ gb142 28 #[.int .i64 (wrap64 (1 + (Int.tmod t143 5))), .slice Ao69 x146001_1.length co69, .slice Ao70 x146002_1.length co70, .slice Ao71 x146003_2.length co71] (0, 0) _ rfl (by exact put4 (bw BK142.out)) Tryd.underlying28 rfl (by kernel_rfl)) rfl ?_
   exact ⟨_, _, _, by first | rfl | (simp [errW_none, errW_some] <;> rfl) | (simp [*, errW_none, errW_some] <;> rfl), by refine bN ?_; exact Kd.N_mono (Nfar4 (Kd.N_mono HO_146001.out (fun k_ hk => (⟨hk, hk.2.2.2.1⟩ : _ ∧ k_ ≠ gb142))) (fun _ hk => hk.2)) (fun _ hk => ⟨hk.1.1, ⟨hk.1.2.1, hk.1.2.2.1⟩⟩), by refine bN ?_; exact Kd.N_mono (Nfar4 (Kd.N_mono HO_146002.out (fun k_ hk => (⟨hk, hk.2.2.2.1⟩ : _ ∧ k_ ≠ gb142))) (fun _ hk => hk.2)) (fun _ hk => ⟨hk.1.1, ⟨hk.1.2.1, hk.1.2.2.1⟩⟩), by refine bN ?_; exact Kd.R_mono (Rfar4 (Kd.R_types HO_146003.out BK142.out (by decide)) (fun _ hk => hk.2)) (fun _ hk => hk.1), by exact bI HI0.out, by exact bB, by exact bK⟩
  rw [if_pos c51] at H
  have c51b0 : decide (x53_2 < (Int.tmod t180 4)) = true := decide_eq_true c51
  clear c51
  replace H := Option.bind_eq_some_iff.mp H
  obtain ⟨t182, A520, H⟩ := H
  (try dsimp only at H)
  have A52 := Aside0.mk A520
  clear A520
  replace H := Option.bind_eq_some_iff.mp H
  obtain ⟨⟨t183, t184⟩, A530, H⟩ := H
  (try dsimp only at H)
  have A53 := Aside0.mk A530
  clear A530
  by_cases c54 : (wrap64 (1 + (Int.tmod t143 5))) = 0
  ·rw [if_pos c54] at H
   exact absurd H (by simp)
  rw [if_neg c54] at H
  have c54b0 : ((wrap64 (1 + (Int.tmod t143 5))) == 0) = false := beq_eq_false_iff_ne.mpr c54
  have c54b1 : ((wrap64 (1 + (Int.tmod t143 5))) != 0) = true := bne_iff_ne.mpr c54
  obtain ⟨y185, hy185⟩ : ∃ y_ : List (S66), y_ = (([(⟨t182, Int.tmod t183 (wrap64 (1 + (Int.tmod t143 5)))⟩ : S66)] : List (S66))) := ⟨_, rfl⟩
  replace H : (if x146003_2.length + y185.length < 8796093022208 then (script_reader_topo.l2 k2 (Int.tmod t180 4) (wrap64 (x53_2 + 1)) s0_0 t184 (wrap64 (1 + (Int.tmod t143 5))) x146001_1 x146002_1 (x146003_2 ++ y185)) else (none)) = some (r1, r2, r3, r4, r5) := by first | (rw [hy185]; with_reducible exact H) | (have H2_ := (Option.bind_some _ _).symm.trans H; rw [hy185]; with_reducible exact H2_) | (have H2_ := (Option.bind_some _ _).symm.trans H; with_reducible exact H2_) | with_reducible exact H | (rw [hy185]; exact H) | exact H
  have Ny185 := Aside0.mk hy185
  clear hy185
  by_cases c55 : x146003_2.length + y185.length < 8796093022208
  rotate_left
  ·rw [if_neg c55] at H
   exact absurd H (by simp)
  rw [if_pos c55] at H
  have LMc55 := Aside0.mk c55
  clear c55
  obtain ⟨y188, hy188⟩ : ∃ y_ : List (S66), y_ = (x146003_2 ++ y185) := ⟨_, rfl⟩
  replace H : (script_reader_topo.l2 k2 (Int.tmod t180 4) (wrap64 (x53_2 + 1)) s0_0 t184 (wrap64 (1 + (Int.tmod t143 5))) x146001_1 x146002_1 y188) = some (r1, r2, r3, r4, r5) := by first | (rw [hy188]; with_reducible exact H) | (have H2_ := (Option.bind_some _ _).symm.trans H; rw [hy188]; with_reducible exact H2_) | (have H2_ := (Option.bind_some _ _).symm.trans H; with_reducible exact H2_) | with_reducible exact H | (rw [hy188]; exact H) | exact H
  have Ny188 := Aside0.mk hy188
  clear hy188
  have H' := Aside0.mk H
  clear H
  try go_wp2
  replace HO_146001 := Aside0.mk (Kd.N_drew HO_146001.out)
  replace HO_146002 := Aside0.mk (Kd.N_drew HO_146002.out)
  replace HO_146003 := Aside0.mk (Kd.R_drew HO_146003.out)
  replace BK142 := Aside0.mk (blk_drew BK142.out)
  replace BK145 := Aside0.mk (blk_drew BK145.out)
  replace HI0 := Aside0.mk (IsS54.drew HI0.out)
  replace HK := Aside0.mk (keep_drew HK.out)
  replace HB := Aside0.mk (below_drew1 HB.out)
  refine start_ (n := 14) (S := fun w' => w'.cell? ⟨gb145, 0, none⟩ = some (.int .i64 (wrap64 (1 + (Int.tmod t143 5)))) ∧ w'.cell? ⟨gb145, 1, none⟩ = some (u146001) ∧ w'.cell? ⟨gb145, 2, none⟩ = some (u146002) ∧ w'.cell? ⟨gb145, 3, none⟩ = some (u146003)) (ds := [13]) #[false, false, false, false, false, false, false, false, false, false, false, false, false, false] (by kernel_rfl) rfl rfl ⟨(blk_cell BK145.out 0).trans rfl, (blk_cell BK145.out 1).trans rfl, (blk_cell BK145.out 2).trans rfl, (blk_cell BK145.out 3).trans rfl⟩ (fun hHeld => ?_); refine with_tabW script_reader_topo.tab16 script_reader_topo.bits16 (fun HT_ HW_ => ?_)
  generalize wr.drew = w56 at HO_146001 HO_146002 HO_146003 BK142 BK145 HI0 HK HB hHeld ⊢
  refine pS 0 56 HT_ ?_
  refine pS 2 58 HT_ ?_
  refine pS 4 60 HT_ ?_
  refine pS 6 62 HT_ ?_
  refine tS 1 57 HT_ HW_ hHeld ?_
  refine tS 7 63 HT_ HW_ hHeld ?_
  refine one_ (i := 3) (N := some 59) #[true, true, true, true, true, false, true, true, false, false, false, false, false, false] rfl rfl (one_of HT_.out (by kernel_rfl)) (by decide) (fun K hK => ?_)
  refine goes_ Tryd.func30 (by kernel_rfl) rfl #[.int .i64 2, .int .i64 x53_2] (by rfl) rfl rfl (by (try simp only [List.map_toArray, List.map_cons, List.map_nil]); first | done | rfl | (simp only [List.length_drop, List.length_take]; rfl)) ?_
  with_reducible refine (script_address.calls 2 x53_2 t182 _ A52.out).mono ?_
  rintro e w' ⟨rfl, ⟨nd, rfl⟩⟩
  refine ⟨_, rfl, ?_⟩
  refine hK.out _ _ ⟨(blk_cell BK145.out 0).trans rfl, (blk_cell BK145.out 1).trans rfl, (blk_cell BK145.out 2).trans rfl, (blk_cell BK145.out 3).trans rfl⟩ (fun hHeld => ?_)
  clear hK K
  refine nS 59 ?_
  refine one_ (i := 5) (N := some 61) #[true, true, true, true, true, true, true, true, false, false, false, false, false, false] rfl rfl (one_of HT_.out (by kernel_rfl)) (by decide) (fun K hK => ?_)
  refine goes_ Tryd.func28 (by kernel_rfl) rfl #[.pointer (some ⟨g, 0, none⟩)] (by rfl) rfl rfl (by (try simp only [List.map_toArray, List.map_cons, List.map_nil]); first | done | rfl | (simp only [List.length_drop, List.length_take]; rfl)) ?_
  with_reducible refine (script_reader_next.calls g s0_0 x1001_2 t183 t184 w0 _ ?side1 ?side2 A53.out).mono ?_
  (case side1 => exact bI HI0.out)
  (case side2 => exact bB)
  rintro e w57 ⟨rfl, hi, hb, hk⟩
  refine ⟨_, rfl, ?_⟩
  replace HO_146001 := Aside0.mk (Kd.N_mono (Kd.N_keep (Kd.N_mono (ok := fun k_ => (((w.heap.size ≤ k_)) ∧ (some k_ ≠ (u146002 : Value).ownBlock ∧ (some k_ ≠ (u146003 : Value).ownBlock ∧ (k_ ≠ gb142 ∧ (k_ ≠ gb145 ∧ k_ ≠ g)))))) (bN HO_146001.out) (fun k_ hk_ => (⟨hk_, hk_.2.2.2.2.2⟩ : _ ∧ k_ ≠ g))) hk (fun _ h => h.2)) (fun _ h => h.1))
  replace HO_146002 := Aside0.mk (Kd.N_mono (Kd.N_keep (Kd.N_mono (ok := fun k_ => (((w.heap.size ≤ k_)) ∧ (some k_ ≠ (u146001 : Value).ownBlock ∧ (some k_ ≠ (u146003 : Value).ownBlock ∧ (k_ ≠ gb142 ∧ (k_ ≠ gb145 ∧ k_ ≠ g)))))) (bN HO_146002.out) (fun k_ hk_ => (⟨hk_, hk_.2.2.2.2.2⟩ : _ ∧ k_ ≠ g))) hk (fun _ h => h.2)) (fun _ h => h.1))
  replace HO_146003 := Aside0.mk (Kd.R_mono (Kd.R_keep (IsS54.apart (show IsS54 w0 _ g s0_0 x1001_2 from by exact bI HI0.out) (bN HO_146003.out) (by decide)) hk (fun _ h => h.2)) (fun _ h => h.1))
  replace BK142 := Aside0.mk (KeepBut.blk hk (g' := gb142) (o := .cells #[.int .i64 0, .slice none 0 0, .slice none 0 0, .slice none 0 0] 28 (0, 0)) (bw BK142.out) NB142_0.out (by simp))
  replace BK145 := Aside0.mk (KeepBut.blk hk (g' := gb145) (o := .cells #[.int .i64 (wrap64 (1 + (Int.tmod t143 5))), u146001, u146002, u146003] 28 (0, 0)) (bw BK145.out) NB145_0.out (by simp))
  replace HK := Aside0.mk (KeepBut.trans bK hk (.inl rfl))
  replace HB := Aside0.mk (hb)
  replace HI0 := Aside0.mk (hi)
  (try clear hb)
  (try clear hb2)
  (try clear hk)
  (try clear hi)
  refine hK.out _ _ ⟨(blk_cell BK145.out 0).trans rfl, (blk_cell BK145.out 1).trans rfl, (blk_cell BK145.out 2).trans rfl, (blk_cell BK145.out 3).trans rfl⟩ (fun hHeld => ?_)
  clear hK K
  refine nS 61 ?_
  refine pS 8 64 HT_ ?_
  refine pS 9 65 HT_ ?_
  refine one_ (i := 10) (N := some 66) #[true, true, true, true, true, true, true, true, true, true, true, false, false, false] rfl rfl (one_of HT_.out (by kernel_rfl)) (by decide) (fun K hK => ?_)
  refine Kd.R_lit_step k66 _ 66 ?hg (N := 66) ?hd (xs := ([(⟨t182, Int.tmod t183 (wrap64 (1 + (Int.tmod t143 5)))⟩ : S66)] : List (S66))) (inner := [.int .u64 t182, .int .i64 (Int.tmod t183 (wrap64 (1 + (Int.tmod t143 5))))]) (ok := fun _ => True) (okp := fun _ => True) ?hr ?hp (fun _ hk => hk) trivial (Below.refl _ _) (Nat.le_refl _) (by simp) ?_; (case hd => rfl); (case hg => rfl); (case hr => first | (go_simp; done) | (go_simp; rfl)); (case hp => exact (Reps.c2 (show Kd.M k66 _ _ _ (⟨t182, Int.tmod t183 (wrap64 (1 + (Int.tmod t143 5)))⟩ : S66) [.int .u64 t182, .int .i64 (Int.tmod t183 (wrap64 (1 + (Int.tmod t143 5))))] from (k66_mkM _ _ _ (⟨t182, Int.tmod t183 (wrap64 (1 + (Int.tmod t143 5)))⟩ : S66) )) (Reps.none _ _)))
  intro v186 w58 ho59 hb hg_ hnew_
  clear hg_ hnew_
  (first | rw [← Ny185.out] at ho59 | (simp only [Int.reduceToNat] at ho59; rw [← Ny185.out] at ho59))
  replace HO_146001 := Aside0.mk (Kd.N_elder' (bN HO_146001.out) (Kd.R_base ho59) hb)
  replace HO_146002 := Aside0.mk (Kd.N_elder' (bN HO_146002.out) (Kd.R_base ho59) hb)
  have HO187 := Aside0.mk (Kd.R_lower (Kd.R_new' (Kd.R_newM (M := fun k_ => (w.heap.size ≤ k_)) ho59 (keep_size (w := w) (g := g) (row := none) bK) (fun k_ h_ => h_)) (Kd.R_lt (bN HO_146003.out))) (keep_size (w := w) (g := g) (row := none) bK))
  replace HO_146003 := Aside0.mk (Kd.R_elder' (bN HO_146003.out) (Kd.R_base ho59) hb)
  replace BK142 := Aside0.mk (blk_below (g := gb142) (o := .cells #[.int .i64 0, .slice none 0 0, .slice none 0 0, .slice none 0 0] 28 (0, 0)) (bw BK142.out) hb)
  replace BK145 := Aside0.mk (blk_below (g := gb145) (o := .cells #[.int .i64 (wrap64 (1 + (Int.tmod t143 5))), u146001, u146002, u146003] 28 (0, 0)) (bw BK145.out) hb)
  replace HI0 := Aside0.mk (IsS54.below (bI HI0.out) hb)
  replace HK := Aside0.mk (KeepBut.trans bK (KeepBut.of_below hb g none) (.inl rfl))
  replace HB := Aside0.mk (below_step bB hb)
  clear hb ho59
  obtain ⟨Ao61, co61, eo61⟩ := Kd.R_slice HO187.out
  (first | subst eo61 | (injection eo61 with f1_ f2_ f3_; have f4_ := f1_.symm; have f5_ := f3_.symm; clear f1_ f2_ f3_; subst f4_; subst f5_))
  refine hK.out _ _ ⟨(blk_cell BK145.out 0).trans rfl, (blk_cell BK145.out 1).trans rfl, (blk_cell BK145.out 2).trans rfl, (blk_cell BK145.out 3).trans rfl⟩ (fun hHeld => ?_)
  clear hK K
  refine nS 66 ?_
  refine one_ (i := 11) (N := some 67) #[true, true, true, true, true, true, true, true, true, true, true, true, false, false] rfl rfl (one_of HT_.out (by kernel_rfl)) (by decide) (fun K hK => ?_)
  refine Kd.R_append_rows_step k66 w.heap.size (by rfl) (.tmp 57) (.tmp 66) 26 66 (.agg #[(.int .u64 0), (.int .i64 0)]) 16 rfl Tryd.underlying26 info66 rfl (by decide) (by omega) u146003 x146003_2 y185 _ _ _ (fun k_ => (w.heap.size ≤ k_) ∧ some k_ ≠ (.slice Ao61 y185.length co61 : Value).ownBlock) (fun _ => False) rfl rfl ?aO ?aR (fun _ _ h => h) (fun _ h => h.elim) ?aF (Below.refl _ _) ?aS ?aL ?_
  (case aR => repeat (first | exact (Kd.R_reads' HO187.out).2.2 | (with_reducible refine Kd.C_alloc ?_ _) | (with_reducible refine Kd.C_drewN ?_ _) | (with_reducible refine Kd.C_drew ?_)))
  (case aF => exact (fun k_ hk => ⟨(Nat.le_trans (keep_size (w := w) (g := g) (row := none) bK) hk), Kd.fresh' (Kd.R_lt (bN HO187.out)) k_ hk⟩))
  (case aO => exact (bN HO_146003.out))
  (case aS => exact (keep_size (w := w) (g := g) (row := none) bK))
  (case aL => have := LMc55.out; omega)
  intro v189 w60 ho hb hg hat
  rw [← Ny188.out] at ho
  replace HO_146001 := Aside0.mk (Kd.N_afterv (ok := (fun k_ => (w.heap.size ≤ k_) ∧ some k_ ≠ (u146002 : Value).ownBlock ∧ some k_ ≠ (.slice Ao61 y185.length co61 : Value).ownBlock ∧ k_ ≠ gb142 ∧ k_ ≠ gb145 ∧ k_ ≠ g)) (by refine bN ?_; exact Kd.N_mono HO_146001.out (fun _ hk => ⟨⟨hk.1.1, ⟨hk.1.2.1, ⟨hk.2, ⟨hk.1.2.2.2.1, ⟨hk.1.2.2.2.2.1, hk.1.2.2.2.2.2⟩⟩⟩⟩⟩, hk.1.2.2.1⟩)) hg hat)
  replace HO_146002 := Aside0.mk (Kd.N_afterv (ok := (fun k_ => (w.heap.size ≤ k_) ∧ some k_ ≠ (u146001 : Value).ownBlock ∧ some k_ ≠ (.slice Ao61 y185.length co61 : Value).ownBlock ∧ k_ ≠ gb142 ∧ k_ ≠ gb145 ∧ k_ ≠ g)) (by refine bN ?_; exact Kd.N_mono HO_146002.out (fun _ hk => ⟨⟨hk.1.1, ⟨hk.1.2.1, ⟨hk.2, ⟨hk.1.2.2.2.1, ⟨hk.1.2.2.2.2.1, hk.1.2.2.2.2.2⟩⟩⟩⟩⟩, hk.1.2.2.1⟩)) hg hat)
  replace BK142 := Aside0.mk (blk_grown (g := gb142) (o := .cells #[.int .i64 0, .slice none 0 0, .slice none 0 0, .slice none 0 0] 28 (0, 0)) (bw BK142.out) hg (Kd.R_ne HO_146003.out BK142.out (by decide)))
  replace BK145 := Aside0.mk (blk_grown (g := gb145) (o := .cells #[.int .i64 (wrap64 (1 + (Int.tmod t143 5))), u146001, u146002, u146003] 28 (0, 0)) (bw BK145.out) hg (Kd.R_ne HO_146003.out BK145.out (by decide)))
  replace HI0 := Aside0.mk (IsS54.grown (bI HI0.out) hg (IsS54.own_ne HI0.out HO_146003.out (by decide)))
  replace HO187 := Aside0.mk (Kd.R_after (ok := (fun k_ => (w.heap.size ≤ k_))) (by refine bN ?_; exact Kd.R_mono HO187.out (fun _ hk => ⟨hk.1.1, hk.2⟩)) hg hat)
  replace HB := Aside0.mk (below_weaken bB HL.out hb)
  replace HK := Aside0.mk (KeepBut.trans bK (KeepBut.of_grown hg g) (Kd.R_base2 HO_146003.out))
  have HO190 := Aside0.mk (ho)
  clear HO_146003
  clear ho hb hg hat
  obtain ⟨Ao62, co62, eo62⟩ := Kd.R_slice HO190.out
  (first | subst eo62 | (injection eo62 with f1_ f2_ f3_; have f4_ := f1_.symm; have f5_ := f3_.symm; clear f1_ f2_ f3_; subst f4_; subst f5_))
  refine hK.out _ _ ⟨(blk_cell BK145.out 0).trans rfl, (blk_cell BK145.out 1).trans rfl, (blk_cell BK145.out 2).trans rfl, (blk_cell BK145.out 3).trans rfl⟩ (fun hHeld => ?_)
  clear hK K
  refine nS 67 ?_
  refine pS 12 68 HT_ ?_
  refine last_ (i := 13) (N := none) #[true, true, true, true, true, true, true, true, true, true, true, true, true, true] rfl rfl (one_of HT_.out (by kernel_rfl)) (by decide) (fun K hK => ?_)
  have hs63 : w60.cell? ⟨gb145, 3, none⟩ = some (u146003) := (blk_cell BK145.out 3).trans rfl
  have hfs63 := blk_frozen BK145.out 3
  have hns63_0 := NB142_145.out
  have hms63_0 := NB145_142.out
  refine skip_ (w1 := ?_) (by rfl) rfl ?_ ?_
  rotate_left
  ·go_simp
   rfl
  refine hK.out _ _ ?_
  clear hK K
  refine done_ (done_of HT_.out (by kernel_rfl)) ?_
  try go_wp2
  go_roundg k2
  case measure => have := HK1.out; have := HK2.out; omega
  case rel => exact ⟨(wrap64 (x53_2 + 1)), (t184), (y188), (.slice Ao62 y188.length co62), (by first | rfl | (simp; done) | (simp [*]; done)), H', ⟨by have := HK1.out; have := HK2.out; omega⟩, ⟨by refine bN ?_; exact Kd.N_mono (Kd.N_far (p := ⟨gb145, 3, none⟩) (Kd.N_mono HO_146001.out (fun k_ hk => (⟨hk, hk.1.2.2.2.2.1⟩ : _ ∧ k_ ≠ gb145))) (fun _ hk => hk.2) (.slice Ao62 y188.length co62)) (fun _ hk => ⟨hk.1.1.1, ⟨hk.1.1.2.1, ⟨hk.1.2, ⟨hk.1.1.2.2.2.1, ⟨hk.1.1.2.2.2.2.1, hk.1.1.2.2.2.2.2⟩⟩⟩⟩⟩)⟩, ⟨by refine bN ?_; exact Kd.N_mono (Kd.N_far (p := ⟨gb145, 3, none⟩) (Kd.N_mono HO_146002.out (fun k_ hk => (⟨hk, hk.1.2.2.2.2.1⟩ : _ ∧ k_ ≠ gb145))) (fun _ hk => hk.2) (.slice Ao62 y188.length co62)) (fun _ hk => ⟨hk.1.1.1, ⟨hk.1.1.2.1, ⟨hk.1.2, ⟨hk.1.1.2.2.2.1, ⟨hk.1.1.2.2.2.2.1, hk.1.1.2.2.2.2.2⟩⟩⟩⟩⟩)⟩, ⟨by refine bN ?_; exact Kd.R_mono (Kd.R_far (p := ⟨gb145, 3, none⟩) (Kd.R_types HO190.out BK145.out (by decide)) (fun _ hk => hk.2) (.slice Ao62 y188.length co62)) (fun _ hk => hk.1.1)⟩, ⟨bw BK142.out⟩, ⟨by refine bW ?_; refine blk_put (cs := #[.int .i64 (wrap64 (1 + (Int.tmod t143 5))), u146001, u146002, u146003]) ?_ 3 _ rfl; exact bw BK145.out⟩, ⟨bI HI0.out⟩, ⟨bK⟩, ⟨bB⟩⟩
 rw [if_pos c11] at H
 have c11b0 : decide (x17_1 < (wrap64 (1 + (Int.tmod t146 4)))) = true := decide_eq_true c11
 clear c11
 replace H := Option.bind_eq_some_iff.mp H
 obtain ⟨⟨t148, t149, t150, t151, t152, t153, t154, t155, t158⟩, A120, H⟩ := H
 (try dsimp only at H)
 have A12 := Aside0.mk A120
 clear A120
 have H' := Aside0.mk H
 clear H
 go_wp2_with (first | ((with_reducible refine gate_callee (f := 29) rfl ?_); refine gL (some 22) Tryd.func29 #[.pointer (some ⟨g, 0, none⟩), .int .i64 x17_1] ?_; (with_reducible refine (script_reader_conf.calls k1 g s0_0 x1001_1 x17_1 t148 t149 t150 t151 t152 t153 t154 t155 t158 w0 _ ?side1 ?side2 A12.out).mono ?_); (case side1 => exact bI HI0.out); (case side2 => exact bB); rintro e w13 ⟨v156, rfl, ho0, hi, hb, hk⟩; refine ⟨_, rfl, ?_⟩; replace HO_146001 := Aside0.mk (Kd.N_mono (Kd.N_told (Kd.N_oldK (Kd.N_mono (ok := fun k_ => (((w.heap.size ≤ k_)) ∧ (some k_ ≠ (u146002 : Value).ownBlock ∧ (k_ ≠ gb142 ∧ (k_ ≠ gb145 ∧ k_ ≠ g))))) (bN HO_146001.out) (fun k_ hk_ => (⟨hk_, hk_.2.2.2.2⟩ : _ ∧ k_ ≠ g))) hk) (Kd.R_base ho0)) (fun _ h_ => h_.1)); replace HO_146002 := Aside0.mk (Kd.N_mono (Kd.N_told (Kd.N_oldK (Kd.N_mono (ok := fun k_ => (((w.heap.size ≤ k_)) ∧ (some k_ ≠ (u146001 : Value).ownBlock ∧ (k_ ≠ gb142 ∧ (k_ ≠ gb145 ∧ k_ ≠ g))))) (bN HO_146002.out) (fun k_ hk_ => (⟨hk_, hk_.2.2.2.2⟩ : _ ∧ k_ ≠ g))) hk) (Kd.R_base ho0)) (fun _ h_ => h_.1)); replace BK142 := Aside0.mk (KeepBut.blk hk (g' := gb142) (o := .cells #[.int .i64 0, .slice none 0 0, .slice none 0 0, .slice none 0 0] 28 (0, 0)) (bw BK142.out) NB142_0.out (by simp)); replace BK145 := Aside0.mk (KeepBut.blk hk (g' := gb145) (o := .cells #[.int .i64 (wrap64 (1 + (Int.tmod t143 5))), u146001, u146002, .slice none 0 0] 28 (0, 0)) (bw BK145.out) NB145_0.out (by simp)); have HO157 := Aside0.mk (Kd.R_lower (Kd.R_newM (M := fun k_ => (w.heap.size ≤ k_)) ho0 (keep_size (w := w) (g := g) (row := none) bK) (fun k_ h_ => h_)) (keep_size (w := w) (g := g) (row := none) bK)); replace HK := Aside0.mk (KeepBut.trans bK hk (.inl rfl)); replace HB := Aside0.mk (hb); replace HI0 := Aside0.mk (hi); (try clear hb); (try clear hb2); (try clear hk); (try clear hi); (try clear ho0)) | ((with_reducible refine gate_dst (N := 5) rfl ?_); refine box_event ?hg (N := 5) ?hd (cs := #[.int .u64 0, .int .u16 0, .int .i64 0, .int .i64 0, .int .i64 0, .int .i64 0, .int .i64 0, .slice none 0 0]) (t := 51) ?hr ?_; (case hd => rfl); (case hg => rfl); (case hr => first | (go_simp; done) | (go_simp; rfl)); intro gb159 hg w14 hbox hb; replace HO_146001 := Aside0.mk (Kd.N_below (Kd.N_elderB (bN HO_146001.out) gb159 (Nat.le_of_eq hg.symm)) hb); replace HO_146002 := Aside0.mk (Kd.N_below (Kd.N_elderB (bN HO_146002.out) gb159 (Nat.le_of_eq hg.symm)) hb); replace HO157 := Aside0.mk (Kd.R_below (bN HO157.out) hb); replace HB := Aside0.mk (below_step bB hb); have BK159 := Aside0.mk (hbox); have GW159 := Aside0.mk ((by rw [hg]; exact (keep_size (w := w) (g := g) (row := none) bK) : w.heap.size ≤ gb159)); have GE159 := Aside0.mk ((Nat.le_trans HW0.out (by rw [hg]; exact (keep_size (w := w) (g := g) (row := none) bK) : w.heap.size ≤ gb159) : w0.heap.size ≤ gb159)); replace HK := Aside0.mk (KeepBut.trans bK (KeepBut.of_below hb g none) (.inl rfl)); have NB142_159 := Aside0.mk (nbL (bw BK142.out) hg : gb142 ≠ gb159); have NB159_142 := Aside0.mk (nbL (bw BK142.out) hg : gb142 ≠ gb159).symm; replace BK142 := Aside0.mk (blk_below (g := gb142) (o := .cells #[.int .i64 0, .slice none 0 0, .slice none 0 0, .slice none 0 0] 28 (0, 0)) (bw BK142.out) hb); have NB145_159 := Aside0.mk (nbL (bw BK145.out) hg : gb145 ≠ gb159); have NB159_145 := Aside0.mk (nbL (bw BK145.out) hg : gb145 ≠ gb159).symm; replace BK145 := Aside0.mk (blk_below (g := gb145) (o := .cells #[.int .i64 (wrap64 (1 + (Int.tmod t143 5))), u146001, u146002, .slice none 0 0] 28 (0, 0)) (bw BK145.out) hb); have NB0_159 := Aside0.mk ((by rw [hg]; exact Nat.ne_of_lt (IsS54.lt (show IsS54 w0 _ g s0_0 t158 from by exact bI HI0.out)) : g ≠ gb159)); have NB159_0 := Aside0.mk ((by rw [hg]; exact Nat.ne_of_gt (IsS54.lt (show IsS54 w0 _ g s0_0 t158 from by exact bI HI0.out)) : gb159 ≠ g)); replace HI0 := Aside0.mk (IsS54.below (bI HI0.out) hb); clear hb hbox hg; have hnb15 := NB159_142.out; have hnc15 := NB142_159.out; have hnb16 := NB159_145.out; have hnc16 := NB145_159.out; have hnb17 := NB159_0.out; have hnc17 := NB0_159.out; obtain ⟨hcz18_0, hcz18_1, hcz18_2, hcz18_3, hcz18_4, hcz18_5, hcz18_6, hcz18_7⟩ := cZ8 BK159.out; obtain ⟨hfz18_0, hfz18_1, hfz18_2, hfz18_3, hfz18_4, hfz18_5, hfz18_6, hfz18_7⟩ := fZ8 BK159.out; obtain ⟨Ao19, co19, eo19⟩ := Kd.R_slice HO157.out; subst eo19) | (go_at_call 29; (with_reducible refine (script_reader_conf.calls k1 g s0_0 x1001_1 x17_1 t148 t149 t150 t151 t152 t153 t154 t155 t158 w0 _ ?side1 ?side2 A12.out).mono ?_); (case side1 => exact bI HI0.out); (case side2 => exact bB); rintro e w13 ⟨v156, rfl, ho0, hi, hb, hk⟩; replace HO_146001 := Aside0.mk (Kd.N_mono (Kd.N_told (Kd.N_oldK (Kd.N_mono (ok := fun k_ => (((w.heap.size ≤ k_)) ∧ (some k_ ≠ (u146002 : Value).ownBlock ∧ (k_ ≠ gb142 ∧ (k_ ≠ gb145 ∧ k_ ≠ g))))) (bN HO_146001.out) (fun k_ hk_ => (⟨hk_, hk_.2.2.2.2⟩ : _ ∧ k_ ≠ g))) hk) (Kd.R_base ho0)) (fun _ h_ => h_.1)); replace HO_146002 := Aside0.mk (Kd.N_mono (Kd.N_told (Kd.N_oldK (Kd.N_mono (ok := fun k_ => (((w.heap.size ≤ k_)) ∧ (some k_ ≠ (u146001 : Value).ownBlock ∧ (k_ ≠ gb142 ∧ (k_ ≠ gb145 ∧ k_ ≠ g))))) (bN HO_146002.out) (fun k_ hk_ => (⟨hk_, hk_.2.2.2.2⟩ : _ ∧ k_ ≠ g))) hk) (Kd.R_base ho0)) (fun _ h_ => h_.1)); replace BK142 := Aside0.mk (KeepBut.blk hk (g' := gb142) (o := .cells #[.int .i64 0, .slice none 0 0, .slice none 0 0, .slice none 0 0] 28 (0, 0)) (bw BK142.out) NB142_0.out (by simp)); replace BK145 := Aside0.mk (KeepBut.blk hk (g' := gb145) (o := .cells #[.int .i64 (wrap64 (1 + (Int.tmod t143 5))), u146001, u146002, .slice none 0 0] 28 (0, 0)) (bw BK145.out) NB145_0.out (by simp)); have HO157 := Aside0.mk (Kd.R_lower (Kd.R_newM (M := fun k_ => (w.heap.size ≤ k_)) ho0 (keep_size (w := w) (g := g) (row := none) bK) (fun k_ h_ => h_)) (keep_size (w := w) (g := g) (row := none) bK)); replace HK := Aside0.mk (KeepBut.trans bK hk (.inl rfl)); replace HB := Aside0.mk (hb); replace HI0 := Aside0.mk (hi); (try clear hb); (try clear hb2); (try clear hk); (try clear hi); (try clear ho0)))
 go_loopg [6, 26] k1 (fun kq v6 v26 w' => ∃ (x6_2 : List Int) (x26_2 : Int) (x1001_2 : Int), v26 = .int .i64 x26_2 ∧ Aside0 (script_reader_topo.l1 kq x6_2 (wrap64 (1 + (Int.tmod t146 4))) x17_1 (t155.length : Int) x26_2 s0_0 x1001_2 (wrap64 (1 + (Int.tmod t143 5))) x146001_1 x146002_1 t148 t149 t150 t151 t152 t153 t154 t155 = some (r1, r2, r3, r4, r5)) ∧ Aside0 (kq ≤ k1) ∧ Aside0 (Kd.R (Kd.int .i64) 3 w' w.heap.size (fun k_ => (w.heap.size ≤ k_)) v6 x6_2) ∧ Aside0 (Kd.N k51 51 w' w.heap.size (fun k_ => (w.heap.size ≤ k_) ∧ some k_ ≠ (v6 : Value).ownBlock ∧ some k_ ≠ (u146002 : Value).ownBlock ∧ some k_ ≠ ((.slice Ao19 t155.length co19) : Value).ownBlock ∧ k_ ≠ gb142 ∧ k_ ≠ gb145 ∧ k_ ≠ gb159 ∧ k_ ≠ g) u146001 x146001_1) ∧ Aside0 (Kd.N (Kd.slice 3 (Kd.int .i64)) 64 w' w.heap.size (fun k_ => (w.heap.size ≤ k_) ∧ some k_ ≠ (v6 : Value).ownBlock ∧ some k_ ≠ (u146001 : Value).ownBlock ∧ some k_ ≠ ((.slice Ao19 t155.length co19) : Value).ownBlock ∧ k_ ≠ gb142 ∧ k_ ≠ gb145 ∧ k_ ≠ gb159 ∧ k_ ≠ g) u146002 x146002_1) ∧ Aside0 (Kd.R k63 63 w' w.heap.size (fun k_ => (w.heap.size ≤ k_)) (.slice Ao19 t155.length co19) t155) ∧ Aside0 (w'.heap[gb142]? = some (.cells #[.int .i64 0, (.slice none 0 0), (.slice none 0 0), (.slice none 0 0)] 28 (0, 0))) ∧ Aside0 (w'.heap[gb145]? = some (.cells #[.int .i64 (wrap64 (1 + (Int.tmod t143 5))), u146001, u146002, (.slice none 0 0)] 28 (0, 0))) ∧ Aside0 (w'.heap[gb159]? = some (.cells #[.int .u64 t148, .int .u16 t149, .int .i64 t150, .int .i64 t151, .int .i64 t152, .int .i64 t153, .int .i64 t154, (.slice Ao19 t155.length co19)] 51 (0, 0))) ∧ Aside0 (IsS54 w0 w' g s0_0 x1001_2) ∧ Aside0 (KeepBut w w' g none) ∧ Aside0 (Below w0.heap.size w0 w'))
 case atStart => exact ⟨(([] : List Int)), (0), (t158), (by first | rfl | (simp; done) | (simp [*]; done)), H', ⟨Nat.le_refl _⟩, ⟨by first | exact Kd.R_nil _ _ _ _ _ | exact Kd.N_nil _ _ _ _ _ | exact Kd.V_nil _ _ _ _ _ | exact Kd.Q_nil _ _ _ _ _ | exact Kd.S_nil _ _ _ _ _⟩, ⟨by refine bN ?_; exact Kd.N_mono (Nfar8 (Kd.N_mono HO_146001.out (fun k_ hk => (⟨hk, hk.2⟩ : _ ∧ k_ ≠ gb159))) (fun _ hk => hk.2)) (fun _ hk => ⟨hk.1.1.1.1, ⟨(by simp [Value.ownBlock]), ⟨hk.1.1.1.2.1, ⟨hk.1.1.2, ⟨hk.1.1.1.2.2.1, ⟨hk.1.1.1.2.2.2.1, ⟨hk.1.2, hk.1.1.1.2.2.2.2⟩⟩⟩⟩⟩⟩⟩)⟩, ⟨by refine bN ?_; exact Kd.N_mono (Nfar8 (Kd.N_mono HO_146002.out (fun k_ hk => (⟨hk, hk.2⟩ : _ ∧ k_ ≠ gb159))) (fun _ hk => hk.2)) (fun _ hk => ⟨hk.1.1.1.1, ⟨(by simp [Value.ownBlock]), ⟨hk.1.1.1.2.1, ⟨hk.1.1.2, ⟨hk.1.1.1.2.2.1, ⟨hk.1.1.1.2.2.2.1, ⟨hk.1.2, hk.1.1.1.2.2.2.2⟩⟩⟩⟩⟩⟩⟩)⟩, ⟨by refine bN ?_; exact Kd.R_mono (Rfar8 (Kd.R_types HO157.out BK159.out (by decide)) (fun _ hk => hk.2)) (fun _ hk => hk.1.1)⟩, ⟨bw BK142.out⟩, ⟨bw BK145.out⟩, ⟨by exact put8 (bw BK159.out)⟩, ⟨bI HI0.out⟩, ⟨bK⟩, ⟨bB⟩⟩
 clear H'
 try clear p2
 try clear p6
 try clear c11
 try clear c11b0
 try clear hcz18_0
 try clear hcz18_1
 try clear hcz18_2
 try clear hcz18_3
 try clear hcz18_4
 try clear hcz18_5
 try clear hcz18_6
 try clear hcz18_7
 try clear hfz18_0
 try clear hfz18_1
 try clear hfz18_2
 try clear hfz18_3
 try clear hfz18_4
 try clear hfz18_5
 try clear hfz18_6
 try clear hfz18_7
 try clear p2
 try clear p6
 obtain ⟨x6_2, x26_2, x1001_2, rfl, HA, HK2, HO_6, HO_146001, HO_146002, HO_160007, BK142, BK145, BK159, HI0, HK, HB⟩ := hrel
 cases gk with
 | zero => exact absurd HA.out (by simp [script_reader_topo.l1])
 | succ k2 => ?_
 have H := HA.out
 clear HA
 simp only [script_reader_topo.l1] at H
 by_cases c20 : x26_2 < (t155.length : Int)
 ·rw [if_pos c20] at H
  have c20b0 : decide (x26_2 < (t155.length : Int)) = true := decide_eq_true c20
  clear c20
  replace H := Option.bind_eq_some_iff.mp H
  obtain ⟨⟨t160, t161⟩, A210, H⟩ := H
  (try dsimp only at H)
  have A21 := Aside0.mk A210
  clear A210
  by_cases c22 : (wrap64 (1 + (Int.tmod t143 5))) = 0
  ·rw [if_pos c22] at H
   exact absurd H (by simp)
  rw [if_neg c22] at H
  have c22b0 : ((wrap64 (1 + (Int.tmod t143 5))) == 0) = false := beq_eq_false_iff_ne.mpr c22
  have c22b1 : ((wrap64 (1 + (Int.tmod t143 5))) != 0) = true := bne_iff_ne.mpr c22
  obtain ⟨y162, hy162⟩ : ∃ y_ : List Int, y_ = (([Int.tmod t160 (wrap64 (1 + (Int.tmod t143 5)))] : List Int)) := ⟨_, rfl⟩
  replace H : (if x6_2.length + y162.length < 17592186044416 then (script_reader_topo.l1 k2 (x6_2 ++ y162) (wrap64 (1 + (Int.tmod t146 4))) x17_1 (t155.length : Int) (wrap64 (x26_2 + 1)) s0_0 t161 (wrap64 (1 + (Int.tmod t143 5))) x146001_1 x146002_1 t148 t149 t150 t151 t152 t153 t154 t155) else (none)) = some (r1, r2, r3, r4, r5) := by first | (rw [hy162]; with_reducible exact H) | (have H2_ := (Option.bind_some _ _).symm.trans H; rw [hy162]; with_reducible exact H2_) | (have H2_ := (Option.bind_some _ _).symm.trans H; with_reducible exact H2_) | with_reducible exact H | (rw [hy162]; exact H) | exact H
  have Ny162 := Aside0.mk hy162
  clear hy162
  by_cases c23 : x6_2.length + y162.length < 17592186044416
  rotate_left
  ·rw [if_neg c23] at H
   exact absurd H (by simp)
  rw [if_pos c23] at H
  have LMc23 := Aside0.mk c23
  clear c23
  obtain ⟨y165, hy165⟩ : ∃ y_ : List Int, y_ = (x6_2 ++ y162) := ⟨_, rfl⟩
  replace H : (script_reader_topo.l1 k2 y165 (wrap64 (1 + (Int.tmod t146 4))) x17_1 (t155.length : Int) (wrap64 (x26_2 + 1)) s0_0 t161 (wrap64 (1 + (Int.tmod t143 5))) x146001_1 x146002_1 t148 t149 t150 t151 t152 t153 t154 t155) = some (r1, r2, r3, r4, r5) := by first | (rw [hy165]; with_reducible exact H) | (have H2_ := (Option.bind_some _ _).symm.trans H; rw [hy165]; with_reducible exact H2_) | (have H2_ := (Option.bind_some _ _).symm.trans H; with_reducible exact H2_) | with_reducible exact H | (rw [hy165]; exact H) | exact H
  have Ny165 := Aside0.mk hy165
  clear hy165
  have H' := Aside0.mk H
  clear H
  try go_wp2
  replace HO_6 := Aside0.mk (Kd.R_drew HO_6.out)
  replace HO_146001 := Aside0.mk (Kd.N_drew HO_146001.out)
  replace HO_146002 := Aside0.mk (Kd.N_drew HO_146002.out)
  replace HO_160007 := Aside0.mk (Kd.R_drew HO_160007.out)
  replace BK142 := Aside0.mk (blk_drew BK142.out)
  replace BK145 := Aside0.mk (blk_drew BK145.out)
  replace BK159 := Aside0.mk (blk_drew BK159.out)
  replace HI0 := Aside0.mk (IsS54.drew HI0.out)
  replace HK := Aside0.mk (keep_drew HK.out)
  replace HB := Aside0.mk (below_drew1 HB.out)
  refine start_ (n := 9) (S := fun w' => w'.cell? ⟨gb145, 0, none⟩ = some (.int .i64 (wrap64 (1 + (Int.tmod t143 5)))) ∧ w'.cell? ⟨gb145, 1, none⟩ = some (u146001) ∧ w'.cell? ⟨gb145, 2, none⟩ = some (u146002) ∧ w'.cell? ⟨gb145, 3, none⟩ = some (.slice none 0 0)) (ds := []) #[false, false, false, false, false, false, false, false, false] (by kernel_rfl) rfl rfl ⟨(blk_cell BK145.out 0).trans rfl, (blk_cell BK145.out 1).trans rfl, (blk_cell BK145.out 2).trans rfl, (blk_cell BK145.out 3).trans rfl⟩ (fun hHeld => ?_); refine with_tabW script_reader_topo.tab9 script_reader_topo.bits9 (fun HT_ HW_ => ?_)
  generalize wr.drew = w24 at HO_6 HO_146001 HO_146002 HO_160007 BK142 BK145 BK159 HI0 HK HB hHeld ⊢
  refine pS 0 28 HT_ ?_
  refine pS 1 29 HT_ ?_
  refine pS 3 31 HT_ ?_
  refine tS 4 32 HT_ HW_ hHeld ?_
  refine one_ (i := 2) (N := some 30) #[true, true, true, true, true, false, false, false, false] rfl rfl (one_of HT_.out (by kernel_rfl)) (by decide) (fun K hK => ?_)
  refine goes_ Tryd.func28 (by kernel_rfl) rfl #[.pointer (some ⟨g, 0, none⟩)] (by rfl) rfl rfl (by (try simp only [List.map_toArray, List.map_cons, List.map_nil]); first | done | rfl | (simp only [List.length_drop, List.length_take]; rfl)) ?_
  with_reducible refine (script_reader_next.calls g s0_0 x1001_2 t160 t161 w0 _ ?side1 ?side2 A21.out).mono ?_
  (case side1 => exact bI HI0.out)
  (case side2 => exact bB)
  rintro e w25 ⟨rfl, hi, hb, hk⟩
  refine ⟨_, rfl, ?_⟩
  replace HO_6 := Aside0.mk (Kd.R_mono (Kd.R_keep (IsS54.apart (show IsS54 w0 _ g s0_0 x1001_2 from by exact bI HI0.out) (bN HO_6.out) (by decide)) hk (fun _ h => h.2)) (fun _ h => h.1))
  replace HO_146001 := Aside0.mk (Kd.N_mono (Kd.N_keep (Kd.N_mono (ok := fun k_ => (((w.heap.size ≤ k_)) ∧ (some k_ ≠ (u6 : Value).ownBlock ∧ (some k_ ≠ (u146002 : Value).ownBlock ∧ (some k_ ≠ (.slice Ao19 t155.length co19 : Value).ownBlock ∧ (k_ ≠ gb142 ∧ (k_ ≠ gb145 ∧ (k_ ≠ gb159 ∧ k_ ≠ g)))))))) (bN HO_146001.out) (fun k_ hk_ => (⟨hk_, hk_.2.2.2.2.2.2.2⟩ : _ ∧ k_ ≠ g))) hk (fun _ h => h.2)) (fun _ h => h.1))
  replace HO_146002 := Aside0.mk (Kd.N_mono (Kd.N_keep (Kd.N_mono (ok := fun k_ => (((w.heap.size ≤ k_)) ∧ (some k_ ≠ (u6 : Value).ownBlock ∧ (some k_ ≠ (u146001 : Value).ownBlock ∧ (some k_ ≠ (.slice Ao19 t155.length co19 : Value).ownBlock ∧ (k_ ≠ gb142 ∧ (k_ ≠ gb145 ∧ (k_ ≠ gb159 ∧ k_ ≠ g)))))))) (bN HO_146002.out) (fun k_ hk_ => (⟨hk_, hk_.2.2.2.2.2.2.2⟩ : _ ∧ k_ ≠ g))) hk (fun _ h => h.2)) (fun _ h => h.1))
  replace HO_160007 := Aside0.mk (Kd.R_mono (Kd.R_keep (IsS54.apart (show IsS54 w0 _ g s0_0 x1001_2 from by exact bI HI0.out) (bN HO_160007.out) (by decide)) hk (fun _ h => h.2)) (fun _ h => h.1))
  replace BK142 := Aside0.mk (KeepBut.blk hk (g' := gb142) (o := .cells #[.int .i64 0, .slice none 0 0, .slice none 0 0, .slice none 0 0] 28 (0, 0)) (bw BK142.out) NB142_0.out (by simp))
  replace BK145 := Aside0.mk (KeepBut.blk hk (g' := gb145) (o := .cells #[.int .i64 (wrap64 (1 + (Int.tmod t143 5))), u146001, u146002, .slice none 0 0] 28 (0, 0)) (bw BK145.out) NB145_0.out (by simp))
  replace BK159 := Aside0.mk (KeepBut.blk hk (g' := gb159) (o := .cells #[.int .u64 t148, .int .u16 t149, .int .i64 t150, .int .i64 t151, .int .i64 t152, .int .i64 t153, .int .i64 t154, .slice Ao19 t155.length co19] 51 (0, 0)) (bw BK159.out) NB159_0.out (by simp))
  replace HK := Aside0.mk (KeepBut.trans bK hk (.inl rfl))
  replace HB := Aside0.mk (hb)
  replace HI0 := Aside0.mk (hi)
  (try clear hb)
  (try clear hb2)
  (try clear hk)
  (try clear hi)
  refine hK.out _ _ ⟨(blk_cell BK145.out 0).trans rfl, (blk_cell BK145.out 1).trans rfl, (blk_cell BK145.out 2).trans rfl, (blk_cell BK145.out 3).trans rfl⟩ (fun hHeld => ?_)
  clear hK K
  refine nS 30 ?_
  refine pS 5 33 HT_ ?_
  refine one_ (i := 6) (N := some 34) #[true, true, true, true, true, true, true, false, false] rfl rfl (one_of HT_.out (by kernel_rfl)) (by decide) (fun K hK => ?_)
  refine Kd.R_lit_step (Kd.int .i64) _ 3 ?hg (N := 34) ?hd (xs := ([Int.tmod t160 (wrap64 (1 + (Int.tmod t143 5)))] : List Int)) (inner := [.int .i64 (Int.tmod t160 (wrap64 (1 + (Int.tmod t143 5))))]) (ok := fun _ => True) (okp := fun _ => True) ?hr ?hp (fun _ hk => hk) trivial (Below.refl _ _) (Nat.le_refl _) (by simp) ?_; (case hd => rfl); (case hg => rfl); (case hr => first | (go_simp; done) | (go_simp; rfl)); (case hp => exact (Reps.one (show Kd.M (Kd.int .i64) _ _ _ (Int.tmod t160 (wrap64 (1 + (Int.tmod t143 5)))) [.int .i64 (Int.tmod t160 (wrap64 (1 + (Int.tmod t143 5))))] from rfl) (Reps.none _ _)))
  intro v163 w26 ho27 hb hg_ hnew_
  clear hg_ hnew_
  (first | rw [← Ny162.out] at ho27 | (simp only [Int.reduceToNat] at ho27; rw [← Ny162.out] at ho27))
  replace HO_146001 := Aside0.mk (Kd.N_elder' (bN HO_146001.out) (Kd.R_base ho27) hb)
  replace HO_146002 := Aside0.mk (Kd.N_elder' (bN HO_146002.out) (Kd.R_base ho27) hb)
  replace HO_160007 := Aside0.mk (Kd.R_below (bN HO_160007.out) hb)
  have HO164 := Aside0.mk (Kd.R_lower (Kd.R_new' (Kd.R_newM (M := fun k_ => (w.heap.size ≤ k_)) ho27 (keep_size (w := w) (g := g) (row := none) bK) (fun k_ h_ => h_)) (Kd.R_lt (bN HO_6.out))) (keep_size (w := w) (g := g) (row := none) bK))
  replace HO_6 := Aside0.mk (Kd.R_elder' (bN HO_6.out) (Kd.R_base ho27) hb)
  replace BK142 := Aside0.mk (blk_below (g := gb142) (o := .cells #[.int .i64 0, .slice none 0 0, .slice none 0 0, .slice none 0 0] 28 (0, 0)) (bw BK142.out) hb)
  replace BK145 := Aside0.mk (blk_below (g := gb145) (o := .cells #[.int .i64 (wrap64 (1 + (Int.tmod t143 5))), u146001, u146002, .slice none 0 0] 28 (0, 0)) (bw BK145.out) hb)
  replace BK159 := Aside0.mk (blk_below (g := gb159) (o := .cells #[.int .u64 t148, .int .u16 t149, .int .i64 t150, .int .i64 t151, .int .i64 t152, .int .i64 t153, .int .i64 t154, .slice Ao19 t155.length co19] 51 (0, 0)) (bw BK159.out) hb)
  replace HI0 := Aside0.mk (IsS54.below (bI HI0.out) hb)
  replace HK := Aside0.mk (KeepBut.trans bK (KeepBut.of_below hb g none) (.inl rfl))
  replace HB := Aside0.mk (below_step bB hb)
  clear hb ho27
  obtain ⟨Ao29, co29, eo29⟩ := Kd.R_slice HO164.out
  (first | subst eo29 | (injection eo29 with f1_ f2_ f3_; have f4_ := f1_.symm; have f5_ := f3_.symm; clear f1_ f2_ f3_; subst f4_; subst f5_))
  refine hK.out _ _ ⟨(blk_cell BK145.out 0).trans rfl, (blk_cell BK145.out 1).trans rfl, (blk_cell BK145.out 2).trans rfl, (blk_cell BK145.out 3).trans rfl⟩ (fun hHeld => ?_)
  clear hK K
  refine nS 34 ?_
  refine one_ (i := 7) (N := some 35) #[true, true, true, true, true, true, true, true, false] rfl rfl (one_of HT_.out (by kernel_rfl)) (by decide) (fun K hK => ?_)
  refine Kd.R_append_rows_step (Kd.int .i64) w.heap.size (by rfl) (.tmp 28) (.tmp 34) 64 3 (.int .i64 0) 8 rfl Tryd.underlying64 info3 rfl (by decide) (by omega) u6 x6_2 y162 _ _ _ (fun k_ => (w.heap.size ≤ k_) ∧ some k_ ≠ (.slice Ao29 y162.length co29 : Value).ownBlock) (fun _ => False) rfl rfl ?aO ?aR (fun _ _ h => h) (fun _ h => h.elim) ?aF (Below.refl _ _) ?aS ?aL ?_
  (case aR => repeat (first | exact (Kd.R_reads' HO164.out).2.2 | (with_reducible refine Kd.C_alloc ?_ _) | (with_reducible refine Kd.C_drewN ?_ _) | (with_reducible refine Kd.C_drew ?_)))
  (case aF => exact (fun k_ hk => ⟨(Nat.le_trans (keep_size (w := w) (g := g) (row := none) bK) hk), Kd.fresh' (Kd.R_lt (bN HO164.out)) k_ hk⟩))
  (case aO => exact (bN HO_6.out))
  (case aS => exact (keep_size (w := w) (g := g) (row := none) bK))
  (case aL => have := LMc23.out; omega)
  intro v166 w28 ho hb hg hat
  rw [← Ny165.out] at ho
  replace HO_146001 := Aside0.mk (Kd.N_afterv (ok := (fun k_ => (w.heap.size ≤ k_) ∧ some k_ ≠ (u146002 : Value).ownBlock ∧ some k_ ≠ (.slice Ao19 t155.length co19 : Value).ownBlock ∧ some k_ ≠ (.slice Ao29 y162.length co29 : Value).ownBlock ∧ k_ ≠ gb142 ∧ k_ ≠ gb145 ∧ k_ ≠ gb159 ∧ k_ ≠ g)) (by refine bN ?_; exact Kd.N_mono HO_146001.out (fun _ hk => ⟨⟨hk.1.1, ⟨hk.1.2.2.1, ⟨hk.1.2.2.2.1, ⟨hk.2, ⟨hk.1.2.2.2.2.1, ⟨hk.1.2.2.2.2.2.1, ⟨hk.1.2.2.2.2.2.2.1, hk.1.2.2.2.2.2.2.2⟩⟩⟩⟩⟩⟩⟩, hk.1.2.1⟩)) hg hat)
  replace HO_146002 := Aside0.mk (Kd.N_afterv (ok := (fun k_ => (w.heap.size ≤ k_) ∧ some k_ ≠ (u146001 : Value).ownBlock ∧ some k_ ≠ (.slice Ao19 t155.length co19 : Value).ownBlock ∧ some k_ ≠ (.slice Ao29 y162.length co29 : Value).ownBlock ∧ k_ ≠ gb142 ∧ k_ ≠ gb145 ∧ k_ ≠ gb159 ∧ k_ ≠ g)) (by refine bN ?_; exact Kd.N_mono HO_146002.out (fun _ hk => ⟨⟨hk.1.1, ⟨hk.1.2.2.1, ⟨hk.1.2.2.2.1, ⟨hk.2, ⟨hk.1.2.2.2.2.1, ⟨hk.1.2.2.2.2.2.1, ⟨hk.1.2.2.2.2.2.2.1, hk.1.2.2.2.2.2.2.2⟩⟩⟩⟩⟩⟩⟩, hk.1.2.1⟩)) hg hat)
  replace HO_160007 := Aside0.mk (Kd.R_over' (bN HO_160007.out) (Kd.R_typed (bN HO_6.out)) (by decide) hg)
  replace BK142 := Aside0.mk (blk_grown (g := gb142) (o := .cells #[.int .i64 0, .slice none 0 0, .slice none 0 0, .slice none 0 0] 28 (0, 0)) (bw BK142.out) hg (Kd.R_ne HO_6.out BK142.out (by decide)))
  replace BK145 := Aside0.mk (blk_grown (g := gb145) (o := .cells #[.int .i64 (wrap64 (1 + (Int.tmod t143 5))), u146001, u146002, .slice none 0 0] 28 (0, 0)) (bw BK145.out) hg (Kd.R_ne HO_6.out BK145.out (by decide)))
  replace BK159 := Aside0.mk (blk_grown (g := gb159) (o := .cells #[.int .u64 t148, .int .u16 t149, .int .i64 t150, .int .i64 t151, .int .i64 t152, .int .i64 t153, .int .i64 t154, .slice Ao19 t155.length co19] 51 (0, 0)) (bw BK159.out) hg (Kd.R_ne HO_6.out BK159.out (by decide)))
  replace HI0 := Aside0.mk (IsS54.grown (bI HI0.out) hg (IsS54.own_ne HI0.out HO_6.out (by decide)))
  replace HO164 := Aside0.mk (Kd.R_after (ok := (fun k_ => (w.heap.size ≤ k_))) (by refine bN ?_; exact Kd.R_mono HO164.out (fun _ hk => ⟨hk.1.1, hk.2⟩)) hg hat)
  replace HB := Aside0.mk (below_weaken bB HL.out hb)
  replace HK := Aside0.mk (KeepBut.trans bK (KeepBut.of_grown hg g) (Kd.R_base2 HO_6.out))
  have HO167 := Aside0.mk (ho)
  clear HO_6
  clear ho hb hg hat
  refine hK.out _ _ ⟨(blk_cell BK145.out 0).trans rfl, (blk_cell BK145.out 1).trans rfl, (blk_cell BK145.out 2).trans rfl, (blk_cell BK145.out 3).trans rfl⟩ (fun hHeld => ?_)
  clear hK K
  refine nS 35 ?_
  refine pS 8 6 HT_ ?_
  refine done_ (done_of HT_.out (by kernel_rfl)) ?_
  try go_wp2
  go_roundg k2
  case measure => have := HK1.out; have := HK2.out; omega
  case rel => exact ⟨(y165), (wrap64 (x26_2 + 1)), (t161), (by first | rfl | (simp; done) | (simp [*]; done)), H', ⟨by have := HK1.out; have := HK2.out; omega⟩, ⟨by refine bN ?_; exact Kd.R_mono HO167.out (fun _ hk => hk.1)⟩, ⟨by refine bN ?_; exact Kd.N_mono HO_146001.out (fun _ hk => ⟨hk.1.1, ⟨hk.2, ⟨hk.1.2.1, ⟨hk.1.2.2.1, ⟨hk.1.2.2.2.2.1, ⟨hk.1.2.2.2.2.2.1, ⟨hk.1.2.2.2.2.2.2.1, hk.1.2.2.2.2.2.2.2⟩⟩⟩⟩⟩⟩⟩)⟩, ⟨by refine bN ?_; exact Kd.N_mono HO_146002.out (fun _ hk => ⟨hk.1.1, ⟨hk.2, ⟨hk.1.2.1, ⟨hk.1.2.2.1, ⟨hk.1.2.2.2.2.1, ⟨hk.1.2.2.2.2.2.1, ⟨hk.1.2.2.2.2.2.2.1, hk.1.2.2.2.2.2.2.2⟩⟩⟩⟩⟩⟩⟩)⟩, ⟨bN HO_160007.out⟩, ⟨bw BK142.out⟩, ⟨bw BK145.out⟩, ⟨bw BK159.out⟩, ⟨bI HI0.out⟩, ⟨bK⟩, ⟨bB⟩⟩
 rw [if_neg c20] at H
 have c20b0 : decide (x26_2 < (t155.length : Int)) = false := decide_eq_false c20
 clear c20
 obtain ⟨y168, hy168⟩ : ∃ y_ : List (S51), y_ = (([(⟨t148, t149, t150, t151, t152, t153, t154, t155⟩ : S51)] : List (S51))) := ⟨_, rfl⟩
 replace H : (if x146001_1.length + y168.length < 1759218604441 then ((some (([x6_2] : List (List Int)) : List (List Int))).bind fun y174 => (if x146002_1.length + y174.length < 5864062014805 then (script_reader_topo.l0 k2 (wrap64 (1 + (Int.tmod t146 4))) (wrap64 (x17_1 + 1)) s0_0 x1001_2 (wrap64 (1 + (Int.tmod t143 5))) (x146001_1 ++ y168) (x146002_1 ++ y174)) else (none))) else (none)) = some (r1, r2, r3, r4, r5) := by first | (rw [hy168]; with_reducible exact H) | (have H2_ := (Option.bind_some _ _).symm.trans H; rw [hy168]; with_reducible exact H2_) | (have H2_ := (Option.bind_some _ _).symm.trans H; with_reducible exact H2_) | with_reducible exact H | (rw [hy168]; exact H) | exact H
 have Ny168 := Aside0.mk hy168
 clear hy168
 by_cases c30 : x146001_1.length + y168.length < 1759218604441
 rotate_left
 ·rw [if_neg c30] at H
  exact absurd H (by simp)
 rw [if_pos c30] at H
 have LMc30 := Aside0.mk c30
 clear c30
 obtain ⟨y171, hy171⟩ : ∃ y_ : List (S51), y_ = (x146001_1 ++ y168) := ⟨_, rfl⟩
 replace H : ((some (([x6_2] : List (List Int)) : List (List Int))).bind fun y174 => (if x146002_1.length + y174.length < 5864062014805 then (script_reader_topo.l0 k2 (wrap64 (1 + (Int.tmod t146 4))) (wrap64 (x17_1 + 1)) s0_0 x1001_2 (wrap64 (1 + (Int.tmod t143 5))) y171 (x146002_1 ++ y174)) else (none))) = some (r1, r2, r3, r4, r5) := by first | (rw [hy171]; with_reducible exact H) | (have H2_ := (Option.bind_some _ _).symm.trans H; rw [hy171]; with_reducible exact H2_) | (have H2_ := (Option.bind_some _ _).symm.trans H; with_reducible exact H2_) | with_reducible exact H | (rw [hy171]; exact H) | exact H
 have Ny171 := Aside0.mk hy171
 clear hy171
 obtain ⟨y174, hy174⟩ : ∃ y_ : List (List Int), y_ = (([x6_2] : List (List Int))) := ⟨_, rfl⟩
 replace H : (if x146002_1.length + y174.length < 5864062014805 then (script_reader_topo.l0 k2 (wrap64 (1 + (Int.tmod t146 4))) (wrap64 (x17_1 + 1)) s0_0 x1001_2 (wrap64 (1 + (Int.tmod t143 5))) y171 (x146002_1 ++ y174)) else (none)) = some (r1, r2, r3, r4, r5) := by first | (rw [hy174]; with_reducible exact H) | (have H2_ := (Option.bind_some _ _).symm.trans H; rw [hy174]; with_reducible exact H2_) | (have H2_ := (Option.bind_some _ _).symm.trans H; with_reducible exact H2_) | with_reducible exact H | (rw [hy174]; exact H) | exact H
 have Ny174 := Aside0.mk hy174
 clear hy174
 by_cases c31 : x146002_1.length + y174.length < 5864062014805
 rotate_left
 ·rw [if_neg c31] at H
  exact absurd H (by simp)
 rw [if_pos c31] at H
 have LMc31 := Aside0.mk c31
 clear c31
 obtain ⟨y177, hy177⟩ : ∃ y_ : List (List Int), y_ = (x146002_1 ++ y174) := ⟨_, rfl⟩
 replace H : (script_reader_topo.l0 k2 (wrap64 (1 + (Int.tmod t146 4))) (wrap64 (x17_1 + 1)) s0_0 x1001_2 (wrap64 (1 + (Int.tmod t143 5))) y171 y177) = some (r1, r2, r3, r4, r5) := by first | (rw [hy177]; with_reducible exact H) | (have H2_ := (Option.bind_some _ _).symm.trans H; rw [hy177]; with_reducible exact H2_) | (have H2_ := (Option.bind_some _ _).symm.trans H; with_reducible exact H2_) | with_reducible exact H | (rw [hy177]; exact H) | exact H
 have Ny177 := Aside0.mk hy177
 clear hy177
 have H' := Aside0.mk H
 clear H
 obtain ⟨Ao32, co32, eo32⟩ := Kd.N_slice HO_146001.out
 subst eo32
 obtain ⟨Ao33, co33, eo33⟩ := Kd.N_slice HO_146002.out
 subst eo33
 try go_wp2
 replace HO_6 := Aside0.mk (Kd.R_drew HO_6.out)
 replace HO_146001 := Aside0.mk (Kd.N_drew HO_146001.out)
 replace HO_146002 := Aside0.mk (Kd.N_drew HO_146002.out)
 replace HO_160007 := Aside0.mk (Kd.R_drew HO_160007.out)
 replace BK142 := Aside0.mk (blk_drew BK142.out)
 replace BK145 := Aside0.mk (blk_drew BK145.out)
 replace BK159 := Aside0.mk (blk_drew BK159.out)
 replace HI0 := Aside0.mk (IsS54.drew HI0.out)
 replace HK := Aside0.mk (keep_drew HK.out)
 replace HB := Aside0.mk (below_drew1 HB.out)
 refine start_ (n := 14) (S := fun w' => w'.cell? ⟨gb145, 0, none⟩ = some (.int .i64 (wrap64 (1 + (Int.tmod t143 5)))) ∧ w'.cell? ⟨gb145, 1, none⟩ = some (.slice Ao32 x146001_1.length co32) ∧ w'.cell? ⟨gb145, 2, none⟩ = some (.slice Ao33 x146002_1.length co33) ∧ w'.cell? ⟨gb145, 3, none⟩ = some (.slice none 0 0) ∧ w'.cell? ⟨gb159, 0, none⟩ = some (.int .u64 t148) ∧ w'.cell? ⟨gb159, 1, none⟩ = some (.int .u16 t149) ∧ w'.cell? ⟨gb159, 2, none⟩ = some (.int .i64 t150) ∧ w'.cell? ⟨gb159, 3, none⟩ = some (.int .i64 t151) ∧ w'.cell? ⟨gb159, 4, none⟩ = some (.int .i64 t152) ∧ w'.cell? ⟨gb159, 5, none⟩ = some (.int .i64 t153) ∧ w'.cell? ⟨gb159, 6, none⟩ = some (.int .i64 t154) ∧ w'.cell? ⟨gb159, 7, none⟩ = some (.slice Ao19 t155.length co19)) (ds := [11, 13]) #[false, false, false, false, false, false, false, false, false, false, false, false, false, false] (by kernel_rfl) rfl rfl ⟨(blk_cell BK145.out 0).trans rfl, (blk_cell BK145.out 1).trans rfl, (blk_cell BK145.out 2).trans rfl, (blk_cell BK145.out 3).trans rfl, (blk_cell BK159.out 0).trans rfl, (blk_cell BK159.out 1).trans rfl, (blk_cell BK159.out 2).trans rfl, (blk_cell BK159.out 3).trans rfl, (blk_cell BK159.out 4).trans rfl, (blk_cell BK159.out 5).trans rfl, (blk_cell BK159.out 6).trans rfl, (blk_cell BK159.out 7).trans rfl⟩ (fun hHeld => ?_); refine with_tabW script_reader_topo.tab11 script_reader_topo.bits11 (fun HT_ HW_ => ?_)
 generalize wr.drew = w34 at HO_6 HO_146001 HO_146002 HO_160007 BK142 BK145 BK159 HI0 HK HB hHeld ⊢
 refine pS 0 37 HT_ ?_
 refine pS 5 42 HT_ ?_
 refine pS 7 44 HT_ ?_
 refine tS 1 38 HT_ HW_ hHeld ?_
 refine tS 2 39 HT_ HW_ hHeld ?_
 refine tS 6 43 HT_ HW_ hHeld ?_
 refine join_ (σ := Value × Value × Value) 4 #[true, true, true, true, true, true, true, true, true, false, true, false, false, false] (fun s_ => [(40, s_.1), (41, s_.2.1), (45, s_.2.2), (47, .pointer (some ⟨gb145, 1, none⟩))]) (fun s_ w' => (w'.cell? ⟨gb145, 0, none⟩ = some (.int .i64 (wrap64 (1 + (Int.tmod t143 5)))) ∧ w'.cell? ⟨gb145, 1, none⟩ = some (.slice Ao32 x146001_1.length co32) ∧ w'.cell? ⟨gb145, 2, none⟩ = some (.slice Ao33 x146002_1.length co33) ∧ w'.cell? ⟨gb145, 3, none⟩ = some (.slice none 0 0) ∧ w'.cell? ⟨gb159, 0, none⟩ = some (.int .u64 t148) ∧ w'.cell? ⟨gb159, 1, none⟩ = some (.int .u16 t149) ∧ w'.cell? ⟨gb159, 2, none⟩ = some (.int .i64 t150) ∧ w'.cell? ⟨gb159, 3, none⟩ = some (.int .i64 t151) ∧ w'.cell? ⟨gb159, 4, none⟩ = some (.int .i64 t152) ∧ w'.cell? ⟨gb159, 5, none⟩ = some (.int .i64 t153) ∧ w'.cell? ⟨gb159, 6, none⟩ = some (.int .i64 t154) ∧ w'.cell? ⟨gb159, 7, none⟩ = some (.slice Ao19 t155.length co19)) ∧ (Kd.N k51 51 w' w.heap.size (fun k_ => (w.heap.size ≤ k_) ∧ some k_ ≠ (s_.2.1 : Value).ownBlock ∧ some k_ ≠ (s_.2.2 : Value).ownBlock ∧ some k_ ≠ (.slice Ao33 x146002_1.length co33 : Value).ownBlock ∧ k_ ≠ g ∧ k_ ≠ gb142 ∧ k_ ≠ gb145 ∧ k_ ≠ gb159) s_.1 y168) ∧ (Kd.N k51 51 w' w.heap.size (fun k_ => (w.heap.size ≤ k_) ∧ some k_ ≠ (s_.2.2 : Value).ownBlock ∧ some k_ ≠ (.slice Ao33 x146002_1.length co33 : Value).ownBlock ∧ k_ ≠ g ∧ k_ ≠ gb142 ∧ k_ ≠ gb145 ∧ k_ ≠ gb159) s_.2.1 y171) ∧ (Kd.N (Kd.slice 3 (Kd.int .i64)) 64 w' w.heap.size (fun k_ => (w.heap.size ≤ k_) ∧ some k_ ≠ (s_.1 : Value).ownBlock ∧ some k_ ≠ (s_.2.1 : Value).ownBlock ∧ some k_ ≠ (.slice Ao33 x146002_1.length co33 : Value).ownBlock ∧ k_ ≠ g ∧ k_ ≠ gb142 ∧ k_ ≠ gb145 ∧ k_ ≠ gb159) s_.2.2 y174) ∧ (Kd.N (Kd.slice 3 (Kd.int .i64)) 64 w' w.heap.size (fun k_ => (w.heap.size ≤ k_) ∧ some k_ ≠ (s_.1 : Value).ownBlock ∧ some k_ ≠ (s_.2.1 : Value).ownBlock ∧ some k_ ≠ (s_.2.2 : Value).ownBlock ∧ k_ ≠ g ∧ k_ ≠ gb142 ∧ k_ ≠ gb145 ∧ k_ ≠ gb159) (.slice Ao33 x146002_1.length co33) x146002_1) ∧ (w'.heap[gb142]? = some (.cells #[.int .i64 0, .slice none 0 0, .slice none 0 0, .slice none 0 0] 28 (0, 0))) ∧ (w'.heap[gb145]? = some (.cells #[.int .i64 (wrap64 (1 + (Int.tmod t143 5))), .slice Ao32 x146001_1.length co32, .slice Ao33 x146002_1.length co33, .slice none 0 0] 28 (0, 0))) ∧ (w'.heap[gb159]? = some (.cells #[.int .u64 t148, .int .u16 t149, .int .i64 t150, .int .i64 t151, .int .i64 t152, .int .i64 t153, .int .i64 t154, .slice Ao19 t155.length co19] 51 (0, 0))) ∧ (IsS54 w0 w' g s0_0 x1001_2) ∧ (KeepBut w w' g none) ∧ (Below w0.heap.size w0 w')) ?_ ?_
 rotate_left
 ·intro hCont
  refine two_ (i := 3) (j := 8) (Ni := some 40) (Nj := some 45) #[true, true, true, true, false, true, true, true, false, false, false, false, false, false] #[true, true, true, false, false, true, true, true, true, false, false, false, false, false] rfl rfl rfl rfl (two_of HT_.out (by kernel_rfl)) (by decide) (by decide) (fun K hK => ?_) (fun K hK => ?_)
  ·skip
   refine Kd.N_lit_step k51 _ 51 ?hg (N' := 40) ?hd (xs := ([(⟨t148, t149, t150, t151, t152, t153, t154, t155⟩ : S51)] : List (S51))) (inner := [.int .u64 t148, .int .u16 t149, .int .i64 t150, .int .i64 t151, .int .i64 t152, .int .i64 t153, .int .i64 t154, .slice Ao19 t155.length co19]) (ok := (fun k_ => (w.heap.size ≤ k_) ∧ some k_ ≠ (u6 : Value).ownBlock ∧ some k_ ≠ (.slice Ao32 x146001_1.length co32 : Value).ownBlock ∧ some k_ ≠ (.slice Ao33 x146002_1.length co33 : Value).ownBlock ∧ k_ ≠ gb142 ∧ k_ ≠ gb145 ∧ k_ ≠ gb159 ∧ k_ ≠ g)) (okp := (fun k_ => (w.heap.size ≤ k_) ∧ some k_ ≠ (u6 : Value).ownBlock ∧ some k_ ≠ (.slice Ao32 x146001_1.length co32 : Value).ownBlock ∧ some k_ ≠ (.slice Ao33 x146002_1.length co33 : Value).ownBlock ∧ k_ ≠ gb142 ∧ k_ ≠ gb145 ∧ k_ ≠ gb159 ∧ k_ ≠ g)) ?hr ?hp (fun _ hk => hk) ((show ∀ k_, w34.heap.size ≤ k_ → (fun k_ => (w.heap.size ≤ k_) ∧ some k_ ≠ (u6 : Value).ownBlock ∧ some k_ ≠ (.slice Ao32 x146001_1.length co32 : Value).ownBlock ∧ some k_ ≠ (.slice Ao33 x146002_1.length co33 : Value).ownBlock ∧ k_ ≠ gb142 ∧ k_ ≠ gb145 ∧ k_ ≠ gb159 ∧ k_ ≠ g) k_ from fun k_ hk => ⟨(Nat.le_trans (keep_size (w := w) (g := g) (row := none) bK) hk), Kd.fresh' (Kd.R_lt (bN HO_6.out)) k_ hk, Kd.fresh' (Kd.N_lt (bN HO_146001.out)) k_ hk, Kd.fresh' (Kd.N_lt (bN HO_146002.out)) k_ hk, Kd.freshB (g := gb142) (o := .cells #[.int .i64 0, .slice none 0 0, .slice none 0 0, .slice none 0 0] 28 (0, 0)) (bw BK142.out) k_ hk, Kd.freshB (g := gb145) (o := .cells #[.int .i64 (wrap64 (1 + (Int.tmod t143 5))), .slice Ao32 x146001_1.length co32, .slice Ao33 x146002_1.length co33, .slice none 0 0] 28 (0, 0)) (bw BK145.out) k_ hk, Kd.freshB (g := gb159) (o := .cells #[.int .u64 t148, .int .u16 t149, .int .i64 t150, .int .i64 t151, .int .i64 t152, .int .i64 t153, .int .i64 t154, .slice Ao19 t155.length co19] 51 (0, 0)) (bw BK159.out) k_ hk, IsS54.fresh (bI HI0.out) k_ hk⟩) _ (Nat.le_refl _)) (Below.refl _ _) (Nat.le_refl _) (by simp) ?_; (case hd => rfl); (case hg => rfl); (case hr => first | (go_simp; done) | (go_simp; rfl)); (case hp => exact (Reps.c8 (show Kd.FK k51 _ _ (⟨t148, t149, t150, t151, t152, t153, t154, t155⟩ : S51) [.int .u64 t148, .int .u16 t149, .int .i64 t150, .int .i64 t151, .int .i64 t152, .int .i64 t153, .int .i64 t154, .slice Ao19 t155.length co19] from (k51_mkF _ _ (⟨t148, t149, t150, t151, t152, t153, t154, t155⟩ : S51) (Kd.R_reads' (Kd.R_mono (ok' := (fun k_ => (w.heap.size ≤ k_) ∧ some k_ ≠ (u6 : Value).ownBlock ∧ some k_ ≠ (.slice Ao32 x146001_1.length co32 : Value).ownBlock ∧ some k_ ≠ (.slice Ao33 x146002_1.length co33 : Value).ownBlock ∧ k_ ≠ gb142 ∧ k_ ≠ gb145 ∧ k_ ≠ gb159 ∧ k_ ≠ g)) (IsS54.apart HI0.out (Kd.R_types (Kd.R_types (Kd.R_types (Kd.R_apart' (Kd.R_apart' (Kd.R_apart' (HO_160007.out) (Kd.R_typed HO_6.out) (by decide)) (Kd.N_typed HO_146001.out) (by decide)) (Kd.N_typed HO_146002.out) (by decide)) BK142.out (by decide)) BK145.out (by decide)) BK159.out (by decide)) (by decide)) (fun k_ hk => ⟨hk.1.1.1.1.1.1.1, ⟨hk.1.1.1.1.1.1.2, ⟨hk.1.1.1.1.1.2, ⟨hk.1.1.1.1.2, ⟨hk.1.1.1.2, ⟨hk.1.1.2, ⟨hk.1.2, hk.2⟩⟩⟩⟩⟩⟩⟩))).2.1 (Kd.R_F (Kd.R_mono (ok' := (fun k_ => (w.heap.size ≤ k_) ∧ some k_ ≠ (u6 : Value).ownBlock ∧ some k_ ≠ (.slice Ao32 x146001_1.length co32 : Value).ownBlock ∧ some k_ ≠ (.slice Ao33 x146002_1.length co33 : Value).ownBlock ∧ k_ ≠ gb142 ∧ k_ ≠ gb145 ∧ k_ ≠ gb159 ∧ k_ ≠ g)) (IsS54.apart HI0.out (Kd.R_types (Kd.R_types (Kd.R_types (Kd.R_apart' (Kd.R_apart' (Kd.R_apart' (HO_160007.out) (Kd.R_typed HO_6.out) (by decide)) (Kd.N_typed HO_146001.out) (by decide)) (Kd.N_typed HO_146002.out) (by decide)) BK142.out (by decide)) BK145.out (by decide)) BK159.out (by decide)) (by decide)) (fun k_ hk => ⟨hk.1.1.1.1.1.1.1, ⟨hk.1.1.1.1.1.1.2, ⟨hk.1.1.1.1.1.2, ⟨hk.1.1.1.1.2, ⟨hk.1.1.1.2, ⟨hk.1.1.2, ⟨hk.1.2, hk.2⟩⟩⟩⟩⟩⟩⟩))))) (Reps.none _ _)))
   intro v169 w35 ho36 hb hg_ hnew_
   clear hg_ hnew_
   (first | rw [← Ny168.out] at ho36 | (simp only [Int.reduceToNat] at ho36; rw [← Ny168.out] at ho36))
   replace HO_6 := Aside0.mk (Kd.R_below (bN HO_6.out) hb)
   replace HO_146001 := Aside0.mk (Kd.N_elder' (bN HO_146001.out) (Kd.N_base ho36) hb)
   replace HO_146002 := Aside0.mk (Kd.N_elder' (bN HO_146002.out) (Kd.N_base ho36) hb)
   have HO170 := Aside0.mk (Kd.N_lower ho36 (keep_size (w := w) (g := g) (row := none) bK))
   replace BK142 := Aside0.mk (blk_below (g := gb142) (o := .cells #[.int .i64 0, .slice none 0 0, .slice none 0 0, .slice none 0 0] 28 (0, 0)) (bw BK142.out) hb)
   replace BK145 := Aside0.mk (blk_below (g := gb145) (o := .cells #[.int .i64 (wrap64 (1 + (Int.tmod t143 5))), .slice Ao32 x146001_1.length co32, .slice Ao33 x146002_1.length co33, .slice none 0 0] 28 (0, 0)) (bw BK145.out) hb)
   replace BK159 := Aside0.mk (blk_below (g := gb159) (o := .cells #[.int .u64 t148, .int .u16 t149, .int .i64 t150, .int .i64 t151, .int .i64 t152, .int .i64 t153, .int .i64 t154, .slice Ao19 t155.length co19] 51 (0, 0)) (bw BK159.out) hb)
   replace HI0 := Aside0.mk (IsS54.below (bI HI0.out) hb)
   replace HK := Aside0.mk (KeepBut.trans bK (KeepBut.of_below hb g none) (.inl rfl))
   replace HB := Aside0.mk (below_step bB hb)
   clear HO_160007
   clear hb ho36
   obtain ⟨Ao38, co38, eo38⟩ := Kd.N_slice HO170.out
   (first | subst eo38 | (injection eo38 with f1_ f2_ f3_; have f4_ := f1_.symm; have f5_ := f3_.symm; clear f1_ f2_ f3_; subst f4_; subst f5_))
   refine hK.out _ _ ⟨(blk_cell BK145.out 0).trans rfl, (blk_cell BK145.out 1).trans rfl, (blk_cell BK145.out 2).trans rfl, (blk_cell BK145.out 3).trans rfl, (blk_cell BK159.out 0).trans rfl, (blk_cell BK159.out 1).trans rfl, (blk_cell BK159.out 2).trans rfl, (blk_cell BK159.out 3).trans rfl, (blk_cell BK159.out 4).trans rfl, (blk_cell BK159.out 5).trans rfl, (blk_cell BK159.out 6).trans rfl, (blk_cell BK159.out 7).trans rfl⟩ (fun hHeld => ?_)
   clear hK K
   refine nS 40 ?_
   refine two_ (i := 4) (j := 8) (Ni := some 41) (Nj := some 45) #[true, true, true, true, true, true, true, true, false, false, false, false, false, false] #[true, true, true, true, false, true, true, true, true, false, false, false, false, false] rfl rfl rfl rfl (two_of HT_.out (by kernel_rfl)) (by decide) (by decide) (fun K hK => ?_) (fun K hK => ?_)
   ·skip
    refine Kd.N_append_rows_step k51 w.heap.size (by rfl) (.tmp 38) (.tmp 40) 24 51 (.agg #[(.int .u64 0), (.int .u16 0), (.int .i64 0), (.int .i64 0), (.int .i64 0), (.int .i64 0), (.int .i64 0), (.slice none 0 0)]) 80 rfl Tryd.underlying24 info51 rfl (by decide) (by omega) (.slice Ao32 x146001_1.length co32) x146001_1 y168 _ _ _ (fun k_ => (w.heap.size ≤ k_) ∧ some k_ ≠ (u6 : Value).ownBlock ∧ some k_ ≠ (.slice Ao33 x146002_1.length co33 : Value).ownBlock ∧ k_ ≠ gb142 ∧ k_ ≠ gb145 ∧ k_ ≠ gb159 ∧ k_ ≠ g) (fun k_ => ((fun k_ => (w.heap.size ≤ k_) ∧ some k_ ≠ (u6 : Value).ownBlock ∧ some k_ ≠ (.slice Ao33 x146002_1.length co33 : Value).ownBlock ∧ k_ ≠ gb142 ∧ k_ ≠ gb145 ∧ k_ ≠ gb159 ∧ k_ ≠ g)) k_ ∧ some k_ ≠ (.slice Ao32 x146001_1.length co32 : Value).ownBlock) rfl rfl ?aO ?aR (fun _ hk => hk) ?aF (Below.refl _ _) ?aS ?aL ?_
    (case aR => exact (by skip; exact Kd.N_F (Kd.N_mono (ok' := (fun k_ => ((fun k_ => (w.heap.size ≤ k_) ∧ some k_ ≠ (u6 : Value).ownBlock ∧ some k_ ≠ (.slice Ao33 x146002_1.length co33 : Value).ownBlock ∧ k_ ≠ gb142 ∧ k_ ≠ gb145 ∧ k_ ≠ gb159 ∧ k_ ≠ g)) k_ ∧ some k_ ≠ (.slice Ao32 x146001_1.length co32 : Value).ownBlock)) (HO170.out) (fun k_ hk => ⟨⟨hk.1, ⟨hk.2.1, ⟨hk.2.2.2.1, ⟨hk.2.2.2.2.1, ⟨hk.2.2.2.2.2.1, ⟨hk.2.2.2.2.2.2.1, hk.2.2.2.2.2.2.2⟩⟩⟩⟩⟩⟩, hk.2.2.1⟩))))
    (case aF => exact (fun k_ hk => ⟨(Nat.le_trans (keep_size (w := w) (g := g) (row := none) bK) hk), Kd.fresh' (Kd.R_lt (bN HO_6.out)) k_ hk, Kd.fresh' (Kd.N_lt (bN HO_146002.out)) k_ hk, Kd.freshB (g := gb142) (o := .cells #[.int .i64 0, .slice none 0 0, .slice none 0 0, .slice none 0 0] 28 (0, 0)) (bw BK142.out) k_ hk, Kd.freshB (g := gb145) (o := .cells #[.int .i64 (wrap64 (1 + (Int.tmod t143 5))), .slice Ao32 x146001_1.length co32, .slice Ao33 x146002_1.length co33, .slice none 0 0] 28 (0, 0)) (bw BK145.out) k_ hk, Kd.freshB (g := gb159) (o := .cells #[.int .u64 t148, .int .u16 t149, .int .i64 t150, .int .i64 t151, .int .i64 t152, .int .i64 t153, .int .i64 t154, .slice Ao19 t155.length co19] 51 (0, 0)) (bw BK159.out) k_ hk, IsS54.fresh (bI HI0.out) k_ hk⟩))
    (case aO => exact (by refine bN ?_; exact Kd.N_mono HO_146001.out (fun _ hk => ⟨hk.1.1, ⟨hk.1.2.1, ⟨hk.1.2.2.1, ⟨hk.1.2.2.2.2.1, ⟨hk.1.2.2.2.2.2.1, ⟨hk.1.2.2.2.2.2.2.1, hk.1.2.2.2.2.2.2.2⟩⟩⟩⟩⟩⟩)))
    (case aS => exact (keep_size (w := w) (g := g) (row := none) bK))
    (case aL => have := LMc30.out; omega)
    intro v172 w37 ho hb hg hat
    rw [← Ny171.out] at ho
    replace HO_6 := Aside0.mk (Kd.R_over' (bN HO_6.out) (Kd.N_typed (bN HO_146001.out)) (by decide) hg)
    replace HO_146002 := Aside0.mk (Kd.N_afterv (ok := (fun k_ => (w.heap.size ≤ k_) ∧ some k_ ≠ (u6 : Value).ownBlock ∧ some k_ ≠ (.slice Ao38 y168.length co38 : Value).ownBlock ∧ k_ ≠ gb142 ∧ k_ ≠ gb145 ∧ k_ ≠ gb159 ∧ k_ ≠ g)) (by refine bN ?_; exact Kd.N_mono HO_146002.out (fun _ hk => ⟨⟨hk.1.1, ⟨hk.1.2.1, ⟨hk.2, ⟨hk.1.2.2.2.2.1, ⟨hk.1.2.2.2.2.2.1, ⟨hk.1.2.2.2.2.2.2.1, hk.1.2.2.2.2.2.2.2⟩⟩⟩⟩⟩⟩, hk.1.2.2.1⟩)) hg hat)
    replace BK142 := Aside0.mk (blk_grown (g := gb142) (o := .cells #[.int .i64 0, .slice none 0 0, .slice none 0 0, .slice none 0 0] 28 (0, 0)) (bw BK142.out) hg (Kd.N_ne HO_146001.out BK142.out (by decide)))
    replace BK145 := Aside0.mk (blk_grown (g := gb145) (o := .cells #[.int .i64 (wrap64 (1 + (Int.tmod t143 5))), .slice Ao32 x146001_1.length co32, .slice Ao33 x146002_1.length co33, .slice none 0 0] 28 (0, 0)) (bw BK145.out) hg (Kd.N_ne HO_146001.out BK145.out (by decide)))
    replace BK159 := Aside0.mk (blk_grown (g := gb159) (o := .cells #[.int .u64 t148, .int .u16 t149, .int .i64 t150, .int .i64 t151, .int .i64 t152, .int .i64 t153, .int .i64 t154, .slice Ao19 t155.length co19] 51 (0, 0)) (bw BK159.out) hg (Kd.N_away HO_146001.out (fun _ hk => hk.1.2.2.2.2.2.2.1)))
    replace HI0 := Aside0.mk (IsS54.grown (bI HI0.out) hg (IsS54.own_neN HI0.out HO_146001.out (by decide)))
    replace HO170 := Aside0.mk (Kd.N_afterv (ok := (fun k_ => (w.heap.size ≤ k_) ∧ some k_ ≠ (u6 : Value).ownBlock ∧ some k_ ≠ (.slice Ao33 x146002_1.length co33 : Value).ownBlock ∧ k_ ≠ gb142 ∧ k_ ≠ gb145 ∧ k_ ≠ gb159 ∧ k_ ≠ g)) (by refine bN ?_; exact Kd.N_mono HO170.out (fun _ hk => ⟨⟨hk.1, ⟨hk.2.1, ⟨hk.2.2.2.1, ⟨hk.2.2.2.2.1, ⟨hk.2.2.2.2.2.1, ⟨hk.2.2.2.2.2.2.1, hk.2.2.2.2.2.2.2⟩⟩⟩⟩⟩⟩, hk.2.2.1⟩)) hg hat)
    replace HB := Aside0.mk (below_weaken bB HL.out hb)
    replace HK := Aside0.mk (KeepBut.trans bK (KeepBut.of_grown hg g) (Kd.N_base2 HO_146001.out))
    have HO173 := Aside0.mk (ho)
    clear HO_146001
    clear ho hb hg hat
    obtain ⟨Ao39, co39, eo39⟩ := Kd.R_slice HO_6.out
    (first | subst eo39 | (injection eo39 with f1_ f2_ f3_; have f4_ := f1_.symm; have f5_ := f3_.symm; clear f1_ f2_ f3_; subst f4_; subst f5_))
    refine hK.out _ _ ⟨(blk_cell BK145.out 0).trans rfl, (blk_cell BK145.out 1).trans rfl, (blk_cell BK145.out 2).trans rfl, (blk_cell BK145.out 3).trans rfl, (blk_cell BK159.out 0).trans rfl, (blk_cell BK159.out 1).trans rfl, (blk_cell BK159.out 2).trans rfl, (blk_cell BK159.out 3).trans rfl, (blk_cell BK159.out 4).trans rfl, (blk_cell BK159.out 5).trans rfl, (blk_cell BK159.out 6).trans rfl, (blk_cell BK159.out 7).trans rfl⟩ (fun hHeld => ?_)
    clear hK K
    refine nS 41 ?_
    refine pure_ (i := 10) (N := some 47) (v := ?_) (a' := ?_) #[true, true, true, true, true, true, true, true, false, false, true, false, false, false] rfl rfl (any_of HT_.out (by kernel_rfl)) (fun _ _ _ h => h) (Or.inl ⟨by rfl, ?_⟩) ?_ ?_
    rotate_left
    ·intro w'
     go_simp
     with_reducible rfl
    rotate_left
    ·simp only [Act.put, List.setIfInBounds_toArray, List.set_cons_zero, List.set_cons_succ, i64_w, i32_w]
     rfl
    refine one_ (i := 8) (N := some 45) #[true, true, true, true, true, true, true, true, true, false, true, false, false, false] rfl rfl (one_of HT_.out (by kernel_rfl)) (by decide) (fun K hK => ?_)
    refine Kd.N_lit_step (Kd.slice 3 (Kd.int .i64)) _ 64 ?hg (N' := 45) ?hd (xs := ([x6_2] : List (List Int))) (inner := [.slice Ao39 x6_2.length co39]) (ok := (fun k_ => (w.heap.size ≤ k_) ∧ some k_ ≠ (.slice Ao33 x146002_1.length co33 : Value).ownBlock ∧ some k_ ≠ (.slice Ao38 y168.length co38 : Value).ownBlock ∧ some k_ ≠ (v172 : Value).ownBlock ∧ k_ ≠ gb142 ∧ k_ ≠ gb145 ∧ k_ ≠ gb159 ∧ k_ ≠ g)) (okp := (fun k_ => (w.heap.size ≤ k_) ∧ some k_ ≠ (.slice Ao33 x146002_1.length co33 : Value).ownBlock ∧ some k_ ≠ (.slice Ao38 y168.length co38 : Value).ownBlock ∧ some k_ ≠ (v172 : Value).ownBlock ∧ k_ ≠ gb142 ∧ k_ ≠ gb145 ∧ k_ ≠ gb159 ∧ k_ ≠ g)) ?hr ?hp (fun _ hk => hk) ((show ∀ k_, w37.heap.size ≤ k_ → (fun k_ => (w.heap.size ≤ k_) ∧ some k_ ≠ (.slice Ao33 x146002_1.length co33 : Value).ownBlock ∧ some k_ ≠ (.slice Ao38 y168.length co38 : Value).ownBlock ∧ some k_ ≠ (v172 : Value).ownBlock ∧ k_ ≠ gb142 ∧ k_ ≠ gb145 ∧ k_ ≠ gb159 ∧ k_ ≠ g) k_ from fun k_ hk => ⟨(Nat.le_trans (keep_size (w := w) (g := g) (row := none) bK) hk), Kd.fresh' (Kd.N_lt (bN HO_146002.out)) k_ hk, Kd.fresh' (Kd.N_lt (bN HO170.out)) k_ hk, Kd.fresh' (Kd.N_lt (bN HO173.out)) k_ hk, Kd.freshB (g := gb142) (o := .cells #[.int .i64 0, .slice none 0 0, .slice none 0 0, .slice none 0 0] 28 (0, 0)) (bw BK142.out) k_ hk, Kd.freshB (g := gb145) (o := .cells #[.int .i64 (wrap64 (1 + (Int.tmod t143 5))), .slice Ao32 x146001_1.length co32, .slice Ao33 x146002_1.length co33, .slice none 0 0] 28 (0, 0)) (bw BK145.out) k_ hk, Kd.freshB (g := gb159) (o := .cells #[.int .u64 t148, .int .u16 t149, .int .i64 t150, .int .i64 t151, .int .i64 t152, .int .i64 t153, .int .i64 t154, .slice Ao19 t155.length co19] 51 (0, 0)) (bw BK159.out) k_ hk, IsS54.fresh (bI HI0.out) k_ hk⟩) _ (Nat.le_refl _)) (Below.refl _ _) (Nat.le_refl _) (by simp) ?_; (case hd => rfl); (case hg => rfl); (case hr => first | (go_simp; done) | (go_simp; rfl)); (case hp => exact (Reps.one (show Kd.FK (Kd.slice 3 (Kd.int .i64)) _ _ x6_2 [.slice Ao39 x6_2.length co39] from (Kd.FK_slice_mk (Kd.R_reads' (Kd.R_mono (ok' := (fun k_ => (w.heap.size ≤ k_) ∧ some k_ ≠ (.slice Ao33 x146002_1.length co33 : Value).ownBlock ∧ some k_ ≠ (.slice Ao38 y168.length co38 : Value).ownBlock ∧ some k_ ≠ (v172 : Value).ownBlock ∧ k_ ≠ gb142 ∧ k_ ≠ gb145 ∧ k_ ≠ gb159 ∧ k_ ≠ g)) (IsS54.apart HI0.out (Kd.R_types (Kd.R_types (Kd.R_types (Kd.R_apart' (Kd.R_apart' (Kd.R_apart' (HO_6.out) (Kd.N_typed HO_146002.out) (by decide)) (Kd.N_typed HO170.out) (by decide)) (Kd.N_typed HO173.out) (by decide)) BK142.out (by decide)) BK145.out (by decide)) BK159.out (by decide)) (by decide)) (fun k_ hk => ⟨hk.1.1.1.1.1.1.1, ⟨hk.1.1.1.1.1.1.2, ⟨hk.1.1.1.1.1.2, ⟨hk.1.1.1.1.2, ⟨hk.1.1.1.2, ⟨hk.1.1.2, ⟨hk.1.2, hk.2⟩⟩⟩⟩⟩⟩⟩))).2.1 (Kd.R_F (Kd.R_mono (ok' := (fun k_ => (w.heap.size ≤ k_) ∧ some k_ ≠ (.slice Ao33 x146002_1.length co33 : Value).ownBlock ∧ some k_ ≠ (.slice Ao38 y168.length co38 : Value).ownBlock ∧ some k_ ≠ (v172 : Value).ownBlock ∧ k_ ≠ gb142 ∧ k_ ≠ gb145 ∧ k_ ≠ gb159 ∧ k_ ≠ g)) (IsS54.apart HI0.out (Kd.R_types (Kd.R_types (Kd.R_types (Kd.R_apart' (Kd.R_apart' (Kd.R_apart' (HO_6.out) (Kd.N_typed HO_146002.out) (by decide)) (Kd.N_typed HO170.out) (by decide)) (Kd.N_typed HO173.out) (by decide)) BK142.out (by decide)) BK145.out (by decide)) BK159.out (by decide)) (by decide)) (fun k_ hk => ⟨hk.1.1.1.1.1.1.1, ⟨hk.1.1.1.1.1.1.2, ⟨hk.1.1.1.1.1.2, ⟨hk.1.1.1.1.2, ⟨hk.1.1.1.2, ⟨hk.1.1.2, ⟨hk.1.2, hk.2⟩⟩⟩⟩⟩⟩⟩))))) (Reps.none _ _)))
    intro v175 w40 ho41 hb hg_ hnew_
    clear hg_ hnew_
    (first | rw [← Ny174.out] at ho41 | (simp only [Int.reduceToNat] at ho41; rw [← Ny174.out] at ho41))
    replace HO_146002 := Aside0.mk (Kd.N_elder' (bN HO_146002.out) (Kd.N_base ho41) hb)
    replace HO170 := Aside0.mk (Kd.N_elder' (bN HO170.out) (Kd.N_base ho41) hb)
    replace HO173 := Aside0.mk (Kd.N_elder' (bN HO173.out) (Kd.N_base ho41) hb)
    have HO176 := Aside0.mk (Kd.N_lower ho41 (keep_size (w := w) (g := g) (row := none) bK))
    replace BK142 := Aside0.mk (blk_below (g := gb142) (o := .cells #[.int .i64 0, .slice none 0 0, .slice none 0 0, .slice none 0 0] 28 (0, 0)) (bw BK142.out) hb)
    replace BK145 := Aside0.mk (blk_below (g := gb145) (o := .cells #[.int .i64 (wrap64 (1 + (Int.tmod t143 5))), .slice Ao32 x146001_1.length co32, .slice Ao33 x146002_1.length co33, .slice none 0 0] 28 (0, 0)) (bw BK145.out) hb)
    replace BK159 := Aside0.mk (blk_below (g := gb159) (o := .cells #[.int .u64 t148, .int .u16 t149, .int .i64 t150, .int .i64 t151, .int .i64 t152, .int .i64 t153, .int .i64 t154, .slice Ao19 t155.length co19] 51 (0, 0)) (bw BK159.out) hb)
    replace HI0 := Aside0.mk (IsS54.below (bI HI0.out) hb)
    replace HK := Aside0.mk (KeepBut.trans bK (KeepBut.of_below hb g none) (.inl rfl))
    replace HB := Aside0.mk (below_step bB hb)
    clear HO_6
    clear hb ho41
    refine hK.out _ _ ⟨(blk_cell BK145.out 0).trans rfl, (blk_cell BK145.out 1).trans rfl, (blk_cell BK145.out 2).trans rfl, (blk_cell BK145.out 3).trans rfl, (blk_cell BK159.out 0).trans rfl, (blk_cell BK159.out 1).trans rfl, (blk_cell BK159.out 2).trans rfl, (blk_cell BK159.out 3).trans rfl, (blk_cell BK159.out 4).trans rfl, (blk_cell BK159.out 5).trans rfl, (blk_cell BK159.out 6).trans rfl, (blk_cell BK159.out 7).trans rfl⟩ (fun hHeld => ?_)
    clear hK K
    refine nS 45 ?_
    exact norm_ (by simp only [putAll, Act.put, List.setIfInBounds_toArray, List.set_cons_zero, List.set_cons_succ]) (hCont (.slice Ao38 y168.length co38, v172, v175) _ ⟨hHeld, (by refine bN ?_; exact Kd.N_mono HO170.out (fun _ hk => ⟨hk.1.1.1, ⟨hk.1.2, ⟨hk.2, ⟨hk.1.1.2.2.1, ⟨hk.1.1.2.2.2.2.2.2, ⟨hk.1.1.2.2.2.1, ⟨hk.1.1.2.2.2.2.1, hk.1.1.2.2.2.2.2.1⟩⟩⟩⟩⟩⟩⟩)), (by refine bN ?_; exact Kd.N_mono HO173.out (fun _ hk => ⟨hk.1.1, ⟨hk.2, ⟨hk.1.2.2.1, ⟨hk.1.2.2.2.2.2.2, ⟨hk.1.2.2.2.1, ⟨hk.1.2.2.2.2.1, hk.1.2.2.2.2.2.1⟩⟩⟩⟩⟩⟩)), (by refine bN ?_; exact Kd.N_mono HO176.out (fun _ hk => ⟨hk.1, ⟨hk.2.2.1, ⟨hk.2.2.2.1, ⟨hk.2.1, ⟨hk.2.2.2.2.2.2.2, ⟨hk.2.2.2.2.1, ⟨hk.2.2.2.2.2.1, hk.2.2.2.2.2.2.1⟩⟩⟩⟩⟩⟩⟩)), (by refine bN ?_; exact Kd.N_mono HO_146002.out (fun _ hk => ⟨hk.1.1.1, ⟨hk.1.1.2.2.1, ⟨hk.1.2, ⟨hk.2, ⟨hk.1.1.2.2.2.2.2.2, ⟨hk.1.1.2.2.2.1, ⟨hk.1.1.2.2.2.2.1, hk.1.1.2.2.2.2.2.1⟩⟩⟩⟩⟩⟩⟩)), (bw BK142.out), (bw BK145.out), (bw BK159.out), (bI HI0.out), bK, bB⟩)
   skip
   obtain ⟨Ao37, co37, eo37⟩ := Kd.R_slice HO_6.out
   (first | subst eo37 | (injection eo37 with f1_ f2_ f3_; have f4_ := f1_.symm; have f5_ := f3_.symm; clear f1_ f2_ f3_; subst f4_; subst f5_))
   refine Kd.N_lit_step (Kd.slice 3 (Kd.int .i64)) _ 64 ?hg (N' := 45) ?hd (xs := ([x6_2] : List (List Int))) (inner := [.slice Ao37 x6_2.length co37]) (ok := (fun k_ => (w.heap.size ≤ k_) ∧ some k_ ≠ (.slice Ao32 x146001_1.length co32 : Value).ownBlock ∧ some k_ ≠ (.slice Ao33 x146002_1.length co33 : Value).ownBlock ∧ some k_ ≠ ((.slice Ao38 y168.length co38) : Value).ownBlock ∧ k_ ≠ gb142 ∧ k_ ≠ gb145 ∧ k_ ≠ gb159 ∧ k_ ≠ g)) (okp := (fun k_ => (w.heap.size ≤ k_) ∧ some k_ ≠ (.slice Ao32 x146001_1.length co32 : Value).ownBlock ∧ some k_ ≠ (.slice Ao33 x146002_1.length co33 : Value).ownBlock ∧ some k_ ≠ ((.slice Ao38 y168.length co38) : Value).ownBlock ∧ k_ ≠ gb142 ∧ k_ ≠ gb145 ∧ k_ ≠ gb159 ∧ k_ ≠ g)) ?hr ?hp (fun _ hk => hk) ((show ∀ k_, w35.heap.size ≤ k_ → (fun k_ => (w.heap.size ≤ k_) ∧ some k_ ≠ (.slice Ao32 x146001_1.length co32 : Value).ownBlock ∧ some k_ ≠ (.slice Ao33 x146002_1.length co33 : Value).ownBlock ∧ some k_ ≠ ((.slice Ao38 y168.length co38) : Value).ownBlock ∧ k_ ≠ gb142 ∧ k_ ≠ gb145 ∧ k_ ≠ gb159 ∧ k_ ≠ g) k_ from fun k_ hk => ⟨(Nat.le_trans (keep_size (w := w) (g := g) (row := none) bK) hk), Kd.fresh' (Kd.N_lt (bN HO_146001.out)) k_ hk, Kd.fresh' (Kd.N_lt (bN HO_146002.out)) k_ hk, Kd.fresh' (Kd.N_lt (bN HO170.out)) k_ hk, Kd.freshB (g := gb142) (o := .cells #[.int .i64 0, .slice none 0 0, .slice none 0 0, .slice none 0 0] 28 (0, 0)) (bw BK142.out) k_ hk, Kd.freshB (g := gb145) (o := .cells #[.int .i64 (wrap64 (1 + (Int.tmod t143 5))), .slice Ao32 x146001_1.length co32, .slice Ao33 x146002_1.length co33, .slice none 0 0] 28 (0, 0)) (bw BK145.out) k_ hk, Kd.freshB (g := gb159) (o := .cells #[.int .u64 t148, .int .u16 t149, .int .i64 t150, .int .i64 t151, .int .i64 t152, .int .i64 t153, .int .i64 t154, .slice Ao19 t155.length co19] 51 (0, 0)) (bw BK159.out) k_ hk, IsS54.fresh (bI HI0.out) k_ hk⟩) _ (Nat.le_refl _)) (Below.refl _ _) (Nat.le_refl _) (by simp) ?_; (case hd => rfl); (case hg => rfl); (case hr => first | (go_simp; done) | (go_simp; rfl)); (case hp => exact (Reps.one (show Kd.FK (Kd.slice 3 (Kd.int .i64)) _ _ x6_2 [.slice Ao37 x6_2.length co37] from (Kd.FK_slice_mk (Kd.R_reads' (Kd.R_mono (ok' := (fun k_ => (w.heap.size ≤ k_) ∧ some k_ ≠ (.slice Ao32 x146001_1.length co32 : Value).ownBlock ∧ some k_ ≠ (.slice Ao33 x146002_1.length co33 : Value).ownBlock ∧ some k_ ≠ ((.slice Ao38 y168.length co38) : Value).ownBlock ∧ k_ ≠ gb142 ∧ k_ ≠ gb145 ∧ k_ ≠ gb159 ∧ k_ ≠ g)) (IsS54.apart HI0.out (Kd.R_types (Kd.R_types (Kd.R_types (Kd.R_apart' (Kd.R_apart' (Kd.R_apart' (HO_6.out) (Kd.N_typed HO_146001.out) (by decide)) (Kd.N_typed HO_146002.out) (by decide)) (Kd.N_typed HO170.out) (by decide)) BK142.out (by decide)) BK145.out (by decide)) BK159.out (by decide)) (by decide)) (fun k_ hk => ⟨hk.1.1.1.1.1.1.1, ⟨hk.1.1.1.1.1.1.2, ⟨hk.1.1.1.1.1.2, ⟨hk.1.1.1.1.2, ⟨hk.1.1.1.2, ⟨hk.1.1.2, ⟨hk.1.2, hk.2⟩⟩⟩⟩⟩⟩⟩))).2.1 (Kd.R_F (Kd.R_mono (ok' := (fun k_ => (w.heap.size ≤ k_) ∧ some k_ ≠ (.slice Ao32 x146001_1.length co32 : Value).ownBlock ∧ some k_ ≠ (.slice Ao33 x146002_1.length co33 : Value).ownBlock ∧ some k_ ≠ ((.slice Ao38 y168.length co38) : Value).ownBlock ∧ k_ ≠ gb142 ∧ k_ ≠ gb145 ∧ k_ ≠ gb159 ∧ k_ ≠ g)) (IsS54.apart HI0.out (Kd.R_types (Kd.R_types (Kd.R_types (Kd.R_apart' (Kd.R_apart' (Kd.R_apart' (HO_6.out) (Kd.N_typed HO_146001.out) (by decide)) (Kd.N_typed HO_146002.out) (by decide)) (Kd.N_typed HO170.out) (by decide)) BK142.out (by decide)) BK145.out (by decide)) BK159.out (by decide)) (by decide)) (fun k_ hk => ⟨hk.1.1.1.1.1.1.1, ⟨hk.1.1.1.1.1.1.2, ⟨hk.1.1.1.1.1.2, ⟨hk.1.1.1.1.2, ⟨hk.1.1.1.2, ⟨hk.1.1.2, ⟨hk.1.2, hk.2⟩⟩⟩⟩⟩⟩⟩))))) (Reps.none _ _)))
   intro v175 w38 ho39 hb hg_ hnew_
   clear hg_ hnew_
   (first | rw [← Ny174.out] at ho39 | (simp only [Int.reduceToNat] at ho39; rw [← Ny174.out] at ho39))
   replace HO_146001 := Aside0.mk (Kd.N_elder' (bN HO_146001.out) (Kd.N_base ho39) hb)
   replace HO_146002 := Aside0.mk (Kd.N_elder' (bN HO_146002.out) (Kd.N_base ho39) hb)
   replace HO170 := Aside0.mk (Kd.N_elder' (bN HO170.out) (Kd.N_base ho39) hb)
   have HO176 := Aside0.mk (Kd.N_lower ho39 (keep_size (w := w) (g := g) (row := none) bK))
   replace BK142 := Aside0.mk (blk_below (g := gb142) (o := .cells #[.int .i64 0, .slice none 0 0, .slice none 0 0, .slice none 0 0] 28 (0, 0)) (bw BK142.out) hb)
   replace BK145 := Aside0.mk (blk_below (g := gb145) (o := .cells #[.int .i64 (wrap64 (1 + (Int.tmod t143 5))), .slice Ao32 x146001_1.length co32, .slice Ao33 x146002_1.length co33, .slice none 0 0] 28 (0, 0)) (bw BK145.out) hb)
   replace BK159 := Aside0.mk (blk_below (g := gb159) (o := .cells #[.int .u64 t148, .int .u16 t149, .int .i64 t150, .int .i64 t151, .int .i64 t152, .int .i64 t153, .int .i64 t154, .slice Ao19 t155.length co19] 51 (0, 0)) (bw BK159.out) hb)
   replace HI0 := Aside0.mk (IsS54.below (bI HI0.out) hb)
   replace HK := Aside0.mk (KeepBut.trans bK (KeepBut.of_below hb g none) (.inl rfl))
   replace HB := Aside0.mk (below_step bB hb)
   clear HO_6
   clear hb ho39
   obtain ⟨Ao41, co41, eo41⟩ := Kd.N_slice HO170.out
   (first | subst eo41 | (injection eo41 with f1_ f2_ f3_; have f4_ := f1_.symm; have f5_ := f3_.symm; clear f1_ f2_ f3_; subst f4_; subst f5_))
   refine hK.out _ _ ⟨(blk_cell BK145.out 0).trans rfl, (blk_cell BK145.out 1).trans rfl, (blk_cell BK145.out 2).trans rfl, (blk_cell BK145.out 3).trans rfl, (blk_cell BK159.out 0).trans rfl, (blk_cell BK159.out 1).trans rfl, (blk_cell BK159.out 2).trans rfl, (blk_cell BK159.out 3).trans rfl, (blk_cell BK159.out 4).trans rfl, (blk_cell BK159.out 5).trans rfl, (blk_cell BK159.out 6).trans rfl, (blk_cell BK159.out 7).trans rfl⟩ (fun hHeld => ?_)
   clear hK K
   refine nS 45 ?_
   refine one_ (i := 4) (N := some 41) #[true, true, true, true, true, true, true, true, true, false, false, false, false, false] rfl rfl (one_of HT_.out (by kernel_rfl)) (by decide) (fun K hK => ?_)
   refine Kd.N_append_rows_step k51 w.heap.size (by rfl) (.tmp 38) (.tmp 40) 24 51 (.agg #[(.int .u64 0), (.int .u16 0), (.int .i64 0), (.int .i64 0), (.int .i64 0), (.int .i64 0), (.int .i64 0), (.slice none 0 0)]) 80 rfl Tryd.underlying24 info51 rfl (by decide) (by omega) (.slice Ao32 x146001_1.length co32) x146001_1 y168 _ _ _ (fun k_ => (w.heap.size ≤ k_) ∧ some k_ ≠ (.slice Ao33 x146002_1.length co33 : Value).ownBlock ∧ some k_ ≠ (v175 : Value).ownBlock ∧ k_ ≠ gb142 ∧ k_ ≠ gb145 ∧ k_ ≠ gb159 ∧ k_ ≠ g) (fun k_ => ((fun k_ => (w.heap.size ≤ k_) ∧ some k_ ≠ (.slice Ao33 x146002_1.length co33 : Value).ownBlock ∧ some k_ ≠ (v175 : Value).ownBlock ∧ k_ ≠ gb142 ∧ k_ ≠ gb145 ∧ k_ ≠ gb159 ∧ k_ ≠ g)) k_ ∧ some k_ ≠ (.slice Ao32 x146001_1.length co32 : Value).ownBlock) rfl rfl ?aO ?aR (fun _ hk => hk) ?aF (Below.refl _ _) ?aS ?aL ?_
   (case aR => exact (by skip; exact Kd.N_F (Kd.N_mono (ok' := (fun k_ => ((fun k_ => (w.heap.size ≤ k_) ∧ some k_ ≠ (.slice Ao33 x146002_1.length co33 : Value).ownBlock ∧ some k_ ≠ (v175 : Value).ownBlock ∧ k_ ≠ gb142 ∧ k_ ≠ gb145 ∧ k_ ≠ gb159 ∧ k_ ≠ g)) k_ ∧ some k_ ≠ (.slice Ao32 x146001_1.length co32 : Value).ownBlock)) (HO170.out) (fun k_ hk => ⟨⟨hk.1.1, ⟨hk.1.2.2.2.1, ⟨hk.2, ⟨hk.1.2.2.2.2.1, ⟨hk.1.2.2.2.2.2.1, ⟨hk.1.2.2.2.2.2.2.1, hk.1.2.2.2.2.2.2.2⟩⟩⟩⟩⟩⟩, hk.1.2.2.1⟩))))
   (case aF => exact (fun k_ hk => ⟨(Nat.le_trans (keep_size (w := w) (g := g) (row := none) bK) hk), Kd.fresh' (Kd.N_lt (bN HO_146002.out)) k_ hk, Kd.fresh' (Kd.N_lt (bN HO176.out)) k_ hk, Kd.freshB (g := gb142) (o := .cells #[.int .i64 0, .slice none 0 0, .slice none 0 0, .slice none 0 0] 28 (0, 0)) (bw BK142.out) k_ hk, Kd.freshB (g := gb145) (o := .cells #[.int .i64 (wrap64 (1 + (Int.tmod t143 5))), .slice Ao32 x146001_1.length co32, .slice Ao33 x146002_1.length co33, .slice none 0 0] 28 (0, 0)) (bw BK145.out) k_ hk, Kd.freshB (g := gb159) (o := .cells #[.int .u64 t148, .int .u16 t149, .int .i64 t150, .int .i64 t151, .int .i64 t152, .int .i64 t153, .int .i64 t154, .slice Ao19 t155.length co19] 51 (0, 0)) (bw BK159.out) k_ hk, IsS54.fresh (bI HI0.out) k_ hk⟩))
   (case aO => exact (by refine bN ?_; exact Kd.N_mono HO_146001.out (fun _ hk => ⟨hk.1.1.1, ⟨hk.1.1.2.2.1, ⟨hk.2, ⟨hk.1.1.2.2.2.2.1, ⟨hk.1.1.2.2.2.2.2.1, ⟨hk.1.1.2.2.2.2.2.2.1, hk.1.1.2.2.2.2.2.2.2⟩⟩⟩⟩⟩⟩)))
   (case aS => exact (keep_size (w := w) (g := g) (row := none) bK))
   (case aL => have := LMc30.out; omega)
   intro v172 w40 ho hb hg hat
   rw [← Ny171.out] at ho
   replace HO_146002 := Aside0.mk (Kd.N_afterv (ok := (fun k_ => (w.heap.size ≤ k_) ∧ some k_ ≠ (.slice Ao41 y168.length co41 : Value).ownBlock ∧ some k_ ≠ (v175 : Value).ownBlock ∧ k_ ≠ gb142 ∧ k_ ≠ gb145 ∧ k_ ≠ gb159 ∧ k_ ≠ g)) (by refine bN ?_; exact Kd.N_mono HO_146002.out (fun _ hk => ⟨⟨hk.1.1.1, ⟨hk.1.2, ⟨hk.2, ⟨hk.1.1.2.2.2.2.1, ⟨hk.1.1.2.2.2.2.2.1, ⟨hk.1.1.2.2.2.2.2.2.1, hk.1.1.2.2.2.2.2.2.2⟩⟩⟩⟩⟩⟩, hk.1.1.2.2.1⟩)) hg hat)
   replace BK142 := Aside0.mk (blk_grown (g := gb142) (o := .cells #[.int .i64 0, .slice none 0 0, .slice none 0 0, .slice none 0 0] 28 (0, 0)) (bw BK142.out) hg (Kd.N_ne HO_146001.out BK142.out (by decide)))
   replace BK145 := Aside0.mk (blk_grown (g := gb145) (o := .cells #[.int .i64 (wrap64 (1 + (Int.tmod t143 5))), .slice Ao32 x146001_1.length co32, .slice Ao33 x146002_1.length co33, .slice none 0 0] 28 (0, 0)) (bw BK145.out) hg (Kd.N_ne HO_146001.out BK145.out (by decide)))
   replace BK159 := Aside0.mk (blk_grown (g := gb159) (o := .cells #[.int .u64 t148, .int .u16 t149, .int .i64 t150, .int .i64 t151, .int .i64 t152, .int .i64 t153, .int .i64 t154, .slice Ao19 t155.length co19] 51 (0, 0)) (bw BK159.out) hg (Kd.N_away HO_146001.out (fun _ hk => hk.1.1.2.2.2.2.2.2.1)))
   replace HI0 := Aside0.mk (IsS54.grown (bI HI0.out) hg (IsS54.own_neN HI0.out HO_146001.out (by decide)))
   replace HO170 := Aside0.mk (Kd.N_afterv (ok := (fun k_ => (w.heap.size ≤ k_) ∧ some k_ ≠ (.slice Ao33 x146002_1.length co33 : Value).ownBlock ∧ some k_ ≠ (v175 : Value).ownBlock ∧ k_ ≠ gb142 ∧ k_ ≠ gb145 ∧ k_ ≠ gb159 ∧ k_ ≠ g)) (by refine bN ?_; exact Kd.N_mono HO170.out (fun _ hk => ⟨⟨hk.1.1, ⟨hk.1.2.2.2.1, ⟨hk.2, ⟨hk.1.2.2.2.2.1, ⟨hk.1.2.2.2.2.2.1, ⟨hk.1.2.2.2.2.2.2.1, hk.1.2.2.2.2.2.2.2⟩⟩⟩⟩⟩⟩, hk.1.2.2.1⟩)) hg hat)
   replace HO176 := Aside0.mk (Kd.N_afterv (ok := (fun k_ => (w.heap.size ≤ k_) ∧ some k_ ≠ (.slice Ao33 x146002_1.length co33 : Value).ownBlock ∧ some k_ ≠ (.slice Ao41 y168.length co41 : Value).ownBlock ∧ k_ ≠ gb142 ∧ k_ ≠ gb145 ∧ k_ ≠ gb159 ∧ k_ ≠ g)) (by refine bN ?_; exact Kd.N_mono HO176.out (fun _ hk => ⟨⟨hk.1, ⟨hk.2.2.1, ⟨hk.2.2.2.1, ⟨hk.2.2.2.2.1, ⟨hk.2.2.2.2.2.1, ⟨hk.2.2.2.2.2.2.1, hk.2.2.2.2.2.2.2⟩⟩⟩⟩⟩⟩, hk.2.1⟩)) hg hat)
   replace HB := Aside0.mk (below_weaken bB HL.out hb)
   replace HK := Aside0.mk (KeepBut.trans bK (KeepBut.of_grown hg g) (Kd.N_base2 HO_146001.out))
   have HO173 := Aside0.mk (ho)
   clear HO_146001
   clear ho hb hg hat
   refine hK.out _ _ ⟨(blk_cell BK145.out 0).trans rfl, (blk_cell BK145.out 1).trans rfl, (blk_cell BK145.out 2).trans rfl, (blk_cell BK145.out 3).trans rfl, (blk_cell BK159.out 0).trans rfl, (blk_cell BK159.out 1).trans rfl, (blk_cell BK159.out 2).trans rfl, (blk_cell BK159.out 3).trans rfl, (blk_cell BK159.out 4).trans rfl, (blk_cell BK159.out 5).trans rfl, (blk_cell BK159.out 6).trans rfl, (blk_cell BK159.out 7).trans rfl⟩ (fun hHeld => ?_)
   clear hK K
   refine nS 41 ?_
   refine pS 10 47 HT_ ?_
   exact norm_ (by simp only [putAll, Act.put, List.setIfInBounds_toArray, List.set_cons_zero, List.set_cons_succ]) (hCont (.slice Ao41 y168.length co41, v172, v175) _ ⟨hHeld, (by refine bN ?_; exact Kd.N_mono HO170.out (fun _ hk => ⟨hk.1.1, ⟨hk.2, ⟨hk.1.2.2.1, ⟨hk.1.2.1, ⟨hk.1.2.2.2.2.2.2, ⟨hk.1.2.2.2.1, ⟨hk.1.2.2.2.2.1, hk.1.2.2.2.2.2.1⟩⟩⟩⟩⟩⟩⟩)), (by refine bN ?_; exact Kd.N_mono HO173.out (fun _ hk => ⟨hk.1, ⟨hk.2.2.1, ⟨hk.2.1, ⟨hk.2.2.2.2.2.2, ⟨hk.2.2.2.1, ⟨hk.2.2.2.2.1, hk.2.2.2.2.2.1⟩⟩⟩⟩⟩⟩)), (by refine bN ?_; exact Kd.N_mono HO176.out (fun _ hk => ⟨hk.1.1, ⟨hk.1.2.2.1, ⟨hk.2, ⟨hk.1.2.1, ⟨hk.1.2.2.2.2.2.2, ⟨hk.1.2.2.2.1, ⟨hk.1.2.2.2.2.1, hk.1.2.2.2.2.2.1⟩⟩⟩⟩⟩⟩⟩)), (by refine bN ?_; exact Kd.N_mono HO_146002.out (fun _ hk => ⟨hk.1.1, ⟨hk.1.2.1, ⟨hk.2, ⟨hk.1.2.2.1, ⟨hk.1.2.2.2.2.2.2, ⟨hk.1.2.2.2.1, ⟨hk.1.2.2.2.2.1, hk.1.2.2.2.2.2.1⟩⟩⟩⟩⟩⟩⟩)), (bw BK142.out), (bw BK145.out), (bw BK159.out), (bI HI0.out), bK, bB⟩)
  skip
  obtain ⟨Ao35, co35, eo35⟩ := Kd.R_slice HO_6.out
  (first | subst eo35 | (injection eo35 with f1_ f2_ f3_; have f4_ := f1_.symm; have f5_ := f3_.symm; clear f1_ f2_ f3_; subst f4_; subst f5_))
  refine Kd.N_lit_step (Kd.slice 3 (Kd.int .i64)) _ 64 ?hg (N' := 45) ?hd (xs := ([x6_2] : List (List Int))) (inner := [.slice Ao35 x6_2.length co35]) (ok := (fun k_ => (w.heap.size ≤ k_) ∧ some k_ ≠ (.slice Ao32 x146001_1.length co32 : Value).ownBlock ∧ some k_ ≠ (.slice Ao33 x146002_1.length co33 : Value).ownBlock ∧ some k_ ≠ (.slice Ao19 t155.length co19 : Value).ownBlock ∧ k_ ≠ gb142 ∧ k_ ≠ gb145 ∧ k_ ≠ gb159 ∧ k_ ≠ g)) (okp := (fun k_ => (w.heap.size ≤ k_) ∧ some k_ ≠ (.slice Ao32 x146001_1.length co32 : Value).ownBlock ∧ some k_ ≠ (.slice Ao33 x146002_1.length co33 : Value).ownBlock ∧ some k_ ≠ (.slice Ao19 t155.length co19 : Value).ownBlock ∧ k_ ≠ gb142 ∧ k_ ≠ gb145 ∧ k_ ≠ gb159 ∧ k_ ≠ g)) ?hr ?hp (fun _ hk => hk) ((show ∀ k_, w34.heap.size ≤ k_ → (fun k_ => (w.heap.size ≤ k_) ∧ some k_ ≠ (.slice Ao32 x146001_1.length co32 : Value).ownBlock ∧ some k_ ≠ (.slice Ao33 x146002_1.length co33 : Value).ownBlock ∧ some k_ ≠ (.slice Ao19 t155.length co19 : Value).ownBlock ∧ k_ ≠ gb142 ∧ k_ ≠ gb145 ∧ k_ ≠ gb159 ∧ k_ ≠ g) k_ from fun k_ hk => ⟨(Nat.le_trans (keep_size (w := w) (g := g) (row := none) bK) hk), Kd.fresh' (Kd.N_lt (bN HO_146001.out)) k_ hk, Kd.fresh' (Kd.N_lt (bN HO_146002.out)) k_ hk, Kd.fresh' (Kd.R_lt (bN HO_160007.out)) k_ hk, Kd.freshB (g := gb142) (o := .cells #[.int .i64 0, .slice none 0 0, .slice none 0 0, .slice none 0 0] 28 (0, 0)) (bw BK142.out) k_ hk, Kd.freshB (g := gb145) (o := .cells #[.int .i64 (wrap64 (1 + (Int.tmod t143 5))), .slice Ao32 x146001_1.length co32, .slice Ao33 x146002_1.length co33, .slice none 0 0] 28 (0, 0)) (bw BK145.out) k_ hk, Kd.freshB (g := gb159) (o := .cells #[.int .u64 t148, .int .u16 t149, .int .i64 t150, .int .i64 t151, .int .i64 t152, .int .i64 t153, .int .i64 t154, .slice Ao19 t155.length co19] 51 (0, 0)) (bw BK159.out) k_ hk, IsS54.fresh (bI HI0.out) k_ hk⟩) _ (Nat.le_refl _)) (Below.refl _ _) (Nat.le_refl _) (by simp) ?_; (case hd => rfl); (case hg => rfl); (case hr => first | (go_simp; done) | (go_simp; rfl)); (case hp => exact (Reps.one (show Kd.FK (Kd.slice 3 (Kd.int .i64)) _ _ x6_2 [.slice Ao35 x6_2.length co35] from (Kd.FK_slice_mk (Kd.R_reads' (Kd.R_mono (ok' := (fun k_ => (w.heap.size ≤ k_) ∧ some k_ ≠ (.slice Ao32 x146001_1.length co32 : Value).ownBlock ∧ some k_ ≠ (.slice Ao33 x146002_1.length co33 : Value).ownBlock ∧ some k_ ≠ (.slice Ao19 t155.length co19 : Value).ownBlock ∧ k_ ≠ gb142 ∧ k_ ≠ gb145 ∧ k_ ≠ gb159 ∧ k_ ≠ g)) (IsS54.apart HI0.out (Kd.R_types (Kd.R_types (Kd.R_types (Kd.R_apart' (Kd.R_apart' (Kd.R_apart' (HO_6.out) (Kd.N_typed HO_146001.out) (by decide)) (Kd.N_typed HO_146002.out) (by decide)) (Kd.R_typed HO_160007.out) (by decide)) BK142.out (by decide)) BK145.out (by decide)) BK159.out (by decide)) (by decide)) (fun k_ hk => ⟨hk.1.1.1.1.1.1.1, ⟨hk.1.1.1.1.1.1.2, ⟨hk.1.1.1.1.1.2, ⟨hk.1.1.1.1.2, ⟨hk.1.1.1.2, ⟨hk.1.1.2, ⟨hk.1.2, hk.2⟩⟩⟩⟩⟩⟩⟩))).2.1 (Kd.R_F (Kd.R_mono (ok' := (fun k_ => (w.heap.size ≤ k_) ∧ some k_ ≠ (.slice Ao32 x146001_1.length co32 : Value).ownBlock ∧ some k_ ≠ (.slice Ao33 x146002_1.length co33 : Value).ownBlock ∧ some k_ ≠ (.slice Ao19 t155.length co19 : Value).ownBlock ∧ k_ ≠ gb142 ∧ k_ ≠ gb145 ∧ k_ ≠ gb159 ∧ k_ ≠ g)) (IsS54.apart HI0.out (Kd.R_types (Kd.R_types (Kd.R_types (Kd.R_apart' (Kd.R_apart' (Kd.R_apart' (HO_6.out) (Kd.N_typed HO_146001.out) (by decide)) (Kd.N_typed HO_146002.out) (by decide)) (Kd.R_typed HO_160007.out) (by decide)) BK142.out (by decide)) BK145.out (by decide)) BK159.out (by decide)) (by decide)) (fun k_ hk => ⟨hk.1.1.1.1.1.1.1, ⟨hk.1.1.1.1.1.1.2, ⟨hk.1.1.1.1.1.2, ⟨hk.1.1.1.1.2, ⟨hk.1.1.1.2, ⟨hk.1.1.2, ⟨hk.1.2, hk.2⟩⟩⟩⟩⟩⟩⟩))))) (Reps.none _ _)))
  intro v175 w36 ho37 hb hg_ hnew_
  clear hg_ hnew_
  (first | rw [← Ny174.out] at ho37 | (simp only [Int.reduceToNat] at ho37; rw [← Ny174.out] at ho37))
  replace HO_146001 := Aside0.mk (Kd.N_elder' (bN HO_146001.out) (Kd.N_base ho37) hb)
  replace HO_146002 := Aside0.mk (Kd.N_elder' (bN HO_146002.out) (Kd.N_base ho37) hb)
  replace HO_160007 := Aside0.mk (Kd.R_below (bN HO_160007.out) hb)
  have HO176 := Aside0.mk (Kd.N_lower ho37 (keep_size (w := w) (g := g) (row := none) bK))
  replace BK142 := Aside0.mk (blk_below (g := gb142) (o := .cells #[.int .i64 0, .slice none 0 0, .slice none 0 0, .slice none 0 0] 28 (0, 0)) (bw BK142.out) hb)
  replace BK145 := Aside0.mk (blk_below (g := gb145) (o := .cells #[.int .i64 (wrap64 (1 + (Int.tmod t143 5))), .slice Ao32 x146001_1.length co32, .slice Ao33 x146002_1.length co33, .slice none 0 0] 28 (0, 0)) (bw BK145.out) hb)
  replace BK159 := Aside0.mk (blk_below (g := gb159) (o := .cells #[.int .u64 t148, .int .u16 t149, .int .i64 t150, .int .i64 t151, .int .i64 t152, .int .i64 t153, .int .i64 t154, .slice Ao19 t155.length co19] 51 (0, 0)) (bw BK159.out) hb)
  replace HI0 := Aside0.mk (IsS54.below (bI HI0.out) hb)
  replace HK := Aside0.mk (KeepBut.trans bK (KeepBut.of_below hb g none) (.inl rfl))
  replace HB := Aside0.mk (below_step bB hb)
  clear HO_6
  clear hb ho37
  refine hK.out _ _ ⟨(blk_cell BK145.out 0).trans rfl, (blk_cell BK145.out 1).trans rfl, (blk_cell BK145.out 2).trans rfl, (blk_cell BK145.out 3).trans rfl, (blk_cell BK159.out 0).trans rfl, (blk_cell BK159.out 1).trans rfl, (blk_cell BK159.out 2).trans rfl, (blk_cell BK159.out 3).trans rfl, (blk_cell BK159.out 4).trans rfl, (blk_cell BK159.out 5).trans rfl, (blk_cell BK159.out 6).trans rfl, (blk_cell BK159.out 7).trans rfl⟩ (fun hHeld => ?_)
  clear hK K
  refine nS 45 ?_
  refine one_ (i := 3) (N := some 40) #[true, true, true, true, false, true, true, true, true, false, false, false, false, false] rfl rfl (one_of HT_.out (by kernel_rfl)) (by decide) (fun K hK => ?_)
  refine Kd.N_lit_step k51 _ 51 ?hg (N' := 40) ?hd (xs := ([(⟨t148, t149, t150, t151, t152, t153, t154, t155⟩ : S51)] : List (S51))) (inner := [.int .u64 t148, .int .u16 t149, .int .i64 t150, .int .i64 t151, .int .i64 t152, .int .i64 t153, .int .i64 t154, .slice Ao19 t155.length co19]) (ok := (fun k_ => (w.heap.size ≤ k_) ∧ some k_ ≠ (.slice Ao32 x146001_1.length co32 : Value).ownBlock ∧ some k_ ≠ (.slice Ao33 x146002_1.length co33 : Value).ownBlock ∧ some k_ ≠ (v175 : Value).ownBlock ∧ k_ ≠ gb142 ∧ k_ ≠ gb145 ∧ k_ ≠ gb159 ∧ k_ ≠ g)) (okp := (fun k_ => (w.heap.size ≤ k_) ∧ some k_ ≠ (.slice Ao32 x146001_1.length co32 : Value).ownBlock ∧ some k_ ≠ (.slice Ao33 x146002_1.length co33 : Value).ownBlock ∧ some k_ ≠ (v175 : Value).ownBlock ∧ k_ ≠ gb142 ∧ k_ ≠ gb145 ∧ k_ ≠ gb159 ∧ k_ ≠ g)) ?hr ?hp (fun _ hk => hk) ((show ∀ k_, w36.heap.size ≤ k_ → (fun k_ => (w.heap.size ≤ k_) ∧ some k_ ≠ (.slice Ao32 x146001_1.length co32 : Value).ownBlock ∧ some k_ ≠ (.slice Ao33 x146002_1.length co33 : Value).ownBlock ∧ some k_ ≠ (v175 : Value).ownBlock ∧ k_ ≠ gb142 ∧ k_ ≠ gb145 ∧ k_ ≠ gb159 ∧ k_ ≠ g) k_ from fun k_ hk => ⟨(Nat.le_trans (keep_size (w := w) (g := g) (row := none) bK) hk), Kd.fresh' (Kd.N_lt (bN HO_146001.out)) k_ hk, Kd.fresh' (Kd.N_lt (bN HO_146002.out)) k_ hk, Kd.fresh' (Kd.N_lt (bN HO176.out)) k_ hk, Kd.freshB (g := gb142) (o := .cells #[.int .i64 0, .slice none 0 0, .slice none 0 0, .slice none 0 0] 28 (0, 0)) (bw BK142.out) k_ hk, Kd.freshB (g := gb145) (o := .cells #[.int .i64 (wrap64 (1 + (Int.tmod t143 5))), .slice Ao32 x146001_1.length co32, .slice Ao33 x146002_1.length co33, .slice none 0 0] 28 (0, 0)) (bw BK145.out) k_ hk, Kd.freshB (g := gb159) (o := .cells #[.int .u64 t148, .int .u16 t149, .int .i64 t150, .int .i64 t151, .int .i64 t152, .int .i64 t153, .int .i64 t154, .slice Ao19 t155.length co19] 51 (0, 0)) (bw BK159.out) k_ hk, IsS54.fresh (bI HI0.out) k_ hk⟩) _ (Nat.le_refl _)) (Below.refl _ _) (Nat.le_refl _) (by simp) ?_; (case hd => rfl); (case hg => rfl); (case hr => first | (go_simp; done) | (go_simp; rfl)); (case hp => exact (Reps.c8 (show Kd.FK k51 _ _ (⟨t148, t149, t150, t151, t152, t153, t154, t155⟩ : S51) [.int .u64 t148, .int .u16 t149, .int .i64 t150, .int .i64 t151, .int .i64 t152, .int .i64 t153, .int .i64 t154, .slice Ao19 t155.length co19] from (k51_mkF _ _ (⟨t148, t149, t150, t151, t152, t153, t154, t155⟩ : S51) (Kd.R_reads' (Kd.R_mono (ok' := (fun k_ => (w.heap.size ≤ k_) ∧ some k_ ≠ (.slice Ao32 x146001_1.length co32 : Value).ownBlock ∧ some k_ ≠ (.slice Ao33 x146002_1.length co33 : Value).ownBlock ∧ some k_ ≠ (v175 : Value).ownBlock ∧ k_ ≠ gb142 ∧ k_ ≠ gb145 ∧ k_ ≠ gb159 ∧ k_ ≠ g)) (IsS54.apart HI0.out (Kd.R_types (Kd.R_types (Kd.R_types (Kd.R_apart' (Kd.R_apart' (Kd.R_apart' (HO_160007.out) (Kd.N_typed HO_146001.out) (by decide)) (Kd.N_typed HO_146002.out) (by decide)) (Kd.N_typed HO176.out) (by decide)) BK142.out (by decide)) BK145.out (by decide)) BK159.out (by decide)) (by decide)) (fun k_ hk => ⟨hk.1.1.1.1.1.1.1, ⟨hk.1.1.1.1.1.1.2, ⟨hk.1.1.1.1.1.2, ⟨hk.1.1.1.1.2, ⟨hk.1.1.1.2, ⟨hk.1.1.2, ⟨hk.1.2, hk.2⟩⟩⟩⟩⟩⟩⟩))).2.1 (Kd.R_F (Kd.R_mono (ok' := (fun k_ => (w.heap.size ≤ k_) ∧ some k_ ≠ (.slice Ao32 x146001_1.length co32 : Value).ownBlock ∧ some k_ ≠ (.slice Ao33 x146002_1.length co33 : Value).ownBlock ∧ some k_ ≠ (v175 : Value).ownBlock ∧ k_ ≠ gb142 ∧ k_ ≠ gb145 ∧ k_ ≠ gb159 ∧ k_ ≠ g)) (IsS54.apart HI0.out (Kd.R_types (Kd.R_types (Kd.R_types (Kd.R_apart' (Kd.R_apart' (Kd.R_apart' (HO_160007.out) (Kd.N_typed HO_146001.out) (by decide)) (Kd.N_typed HO_146002.out) (by decide)) (Kd.N_typed HO176.out) (by decide)) BK142.out (by decide)) BK145.out (by decide)) BK159.out (by decide)) (by decide)) (fun k_ hk => ⟨hk.1.1.1.1.1.1.1, ⟨hk.1.1.1.1.1.1.2, ⟨hk.1.1.1.1.1.2, ⟨hk.1.1.1.1.2, ⟨hk.1.1.1.2, ⟨hk.1.1.2, ⟨hk.1.2, hk.2⟩⟩⟩⟩⟩⟩⟩))))) (Reps.none _ _)))
  intro v169 w38 ho39 hb hg_ hnew_
  clear hg_ hnew_
  (first | rw [← Ny168.out] at ho39 | (simp only [Int.reduceToNat] at ho39; rw [← Ny168.out] at ho39))
  replace HO_146001 := Aside0.mk (Kd.N_elder' (bN HO_146001.out) (Kd.N_base ho39) hb)
  replace HO_146002 := Aside0.mk (Kd.N_elder' (bN HO_146002.out) (Kd.N_base ho39) hb)
  replace HO176 := Aside0.mk (Kd.N_elder' (bN HO176.out) (Kd.N_base ho39) hb)
  have HO170 := Aside0.mk (Kd.N_lower ho39 (keep_size (w := w) (g := g) (row := none) bK))
  replace BK142 := Aside0.mk (blk_below (g := gb142) (o := .cells #[.int .i64 0, .slice none 0 0, .slice none 0 0, .slice none 0 0] 28 (0, 0)) (bw BK142.out) hb)
  replace BK145 := Aside0.mk (blk_below (g := gb145) (o := .cells #[.int .i64 (wrap64 (1 + (Int.tmod t143 5))), .slice Ao32 x146001_1.length co32, .slice Ao33 x146002_1.length co33, .slice none 0 0] 28 (0, 0)) (bw BK145.out) hb)
  replace BK159 := Aside0.mk (blk_below (g := gb159) (o := .cells #[.int .u64 t148, .int .u16 t149, .int .i64 t150, .int .i64 t151, .int .i64 t152, .int .i64 t153, .int .i64 t154, .slice Ao19 t155.length co19] 51 (0, 0)) (bw BK159.out) hb)
  replace HI0 := Aside0.mk (IsS54.below (bI HI0.out) hb)
  replace HK := Aside0.mk (KeepBut.trans bK (KeepBut.of_below hb g none) (.inl rfl))
  replace HB := Aside0.mk (below_step bB hb)
  clear HO_160007
  clear hb ho39
  obtain ⟨Ao41, co41, eo41⟩ := Kd.N_slice HO170.out
  (first | subst eo41 | (injection eo41 with f1_ f2_ f3_; have f4_ := f1_.symm; have f5_ := f3_.symm; clear f1_ f2_ f3_; subst f4_; subst f5_))
  refine hK.out _ _ ⟨(blk_cell BK145.out 0).trans rfl, (blk_cell BK145.out 1).trans rfl, (blk_cell BK145.out 2).trans rfl, (blk_cell BK145.out 3).trans rfl, (blk_cell BK159.out 0).trans rfl, (blk_cell BK159.out 1).trans rfl, (blk_cell BK159.out 2).trans rfl, (blk_cell BK159.out 3).trans rfl, (blk_cell BK159.out 4).trans rfl, (blk_cell BK159.out 5).trans rfl, (blk_cell BK159.out 6).trans rfl, (blk_cell BK159.out 7).trans rfl⟩ (fun hHeld => ?_)
  clear hK K
  refine nS 40 ?_
  refine one_ (i := 4) (N := some 41) #[true, true, true, true, true, true, true, true, true, false, false, false, false, false] rfl rfl (one_of HT_.out (by kernel_rfl)) (by decide) (fun K hK => ?_)
  refine Kd.N_append_rows_step k51 w.heap.size (by rfl) (.tmp 38) (.tmp 40) 24 51 (.agg #[(.int .u64 0), (.int .u16 0), (.int .i64 0), (.int .i64 0), (.int .i64 0), (.int .i64 0), (.int .i64 0), (.slice none 0 0)]) 80 rfl Tryd.underlying24 info51 rfl (by decide) (by omega) (.slice Ao32 x146001_1.length co32) x146001_1 y168 _ _ _ (fun k_ => (w.heap.size ≤ k_) ∧ some k_ ≠ (.slice Ao33 x146002_1.length co33 : Value).ownBlock ∧ some k_ ≠ (v175 : Value).ownBlock ∧ k_ ≠ gb142 ∧ k_ ≠ gb145 ∧ k_ ≠ gb159 ∧ k_ ≠ g) (fun k_ => ((fun k_ => (w.heap.size ≤ k_) ∧ some k_ ≠ (.slice Ao33 x146002_1.length co33 : Value).ownBlock ∧ some k_ ≠ (v175 : Value).ownBlock ∧ k_ ≠ gb142 ∧ k_ ≠ gb145 ∧ k_ ≠ gb159 ∧ k_ ≠ g)) k_ ∧ some k_ ≠ (.slice Ao32 x146001_1.length co32 : Value).ownBlock) rfl rfl ?aO ?aR (fun _ hk => hk) ?aF (Below.refl _ _) ?aS ?aL ?_
  (case aR => exact (by skip; exact Kd.N_F (Kd.N_mono (ok' := (fun k_ => ((fun k_ => (w.heap.size ≤ k_) ∧ some k_ ≠ (.slice Ao33 x146002_1.length co33 : Value).ownBlock ∧ some k_ ≠ (v175 : Value).ownBlock ∧ k_ ≠ gb142 ∧ k_ ≠ gb145 ∧ k_ ≠ gb159 ∧ k_ ≠ g)) k_ ∧ some k_ ≠ (.slice Ao32 x146001_1.length co32 : Value).ownBlock)) (HO170.out) (fun k_ hk => ⟨⟨hk.1, ⟨hk.2.2.1, ⟨hk.2.2.2.1, ⟨hk.2.2.2.2.1, ⟨hk.2.2.2.2.2.1, ⟨hk.2.2.2.2.2.2.1, hk.2.2.2.2.2.2.2⟩⟩⟩⟩⟩⟩, hk.2.1⟩))))
  (case aF => exact (fun k_ hk => ⟨(Nat.le_trans (keep_size (w := w) (g := g) (row := none) bK) hk), Kd.fresh' (Kd.N_lt (bN HO_146002.out)) k_ hk, Kd.fresh' (Kd.N_lt (bN HO176.out)) k_ hk, Kd.freshB (g := gb142) (o := .cells #[.int .i64 0, .slice none 0 0, .slice none 0 0, .slice none 0 0] 28 (0, 0)) (bw BK142.out) k_ hk, Kd.freshB (g := gb145) (o := .cells #[.int .i64 (wrap64 (1 + (Int.tmod t143 5))), .slice Ao32 x146001_1.length co32, .slice Ao33 x146002_1.length co33, .slice none 0 0] 28 (0, 0)) (bw BK145.out) k_ hk, Kd.freshB (g := gb159) (o := .cells #[.int .u64 t148, .int .u16 t149, .int .i64 t150, .int .i64 t151, .int .i64 t152, .int .i64 t153, .int .i64 t154, .slice Ao19 t155.length co19] 51 (0, 0)) (bw BK159.out) k_ hk, IsS54.fresh (bI HI0.out) k_ hk⟩))
  (case aO => exact (by refine bN ?_; exact Kd.N_mono HO_146001.out (fun _ hk => ⟨hk.1.1.1, ⟨hk.1.1.2.2.1, ⟨hk.1.2, ⟨hk.1.1.2.2.2.2.1, ⟨hk.1.1.2.2.2.2.2.1, ⟨hk.1.1.2.2.2.2.2.2.1, hk.1.1.2.2.2.2.2.2.2⟩⟩⟩⟩⟩⟩)))
  (case aS => exact (keep_size (w := w) (g := g) (row := none) bK))
  (case aL => have := LMc30.out; omega)
  intro v172 w40 ho hb hg hat
  rw [← Ny171.out] at ho
  replace HO_146002 := Aside0.mk (Kd.N_afterv (ok := (fun k_ => (w.heap.size ≤ k_) ∧ some k_ ≠ (v175 : Value).ownBlock ∧ some k_ ≠ (.slice Ao41 y168.length co41 : Value).ownBlock ∧ k_ ≠ gb142 ∧ k_ ≠ gb145 ∧ k_ ≠ gb159 ∧ k_ ≠ g)) (by refine bN ?_; exact Kd.N_mono HO_146002.out (fun _ hk => ⟨⟨hk.1.1.1, ⟨hk.1.2, ⟨hk.2, ⟨hk.1.1.2.2.2.2.1, ⟨hk.1.1.2.2.2.2.2.1, ⟨hk.1.1.2.2.2.2.2.2.1, hk.1.1.2.2.2.2.2.2.2⟩⟩⟩⟩⟩⟩, hk.1.1.2.2.1⟩)) hg hat)
  replace BK142 := Aside0.mk (blk_grown (g := gb142) (o := .cells #[.int .i64 0, .slice none 0 0, .slice none 0 0, .slice none 0 0] 28 (0, 0)) (bw BK142.out) hg (Kd.N_ne HO_146001.out BK142.out (by decide)))
  replace BK145 := Aside0.mk (blk_grown (g := gb145) (o := .cells #[.int .i64 (wrap64 (1 + (Int.tmod t143 5))), .slice Ao32 x146001_1.length co32, .slice Ao33 x146002_1.length co33, .slice none 0 0] 28 (0, 0)) (bw BK145.out) hg (Kd.N_ne HO_146001.out BK145.out (by decide)))
  replace BK159 := Aside0.mk (blk_grown (g := gb159) (o := .cells #[.int .u64 t148, .int .u16 t149, .int .i64 t150, .int .i64 t151, .int .i64 t152, .int .i64 t153, .int .i64 t154, .slice Ao19 t155.length co19] 51 (0, 0)) (bw BK159.out) hg (Kd.N_away HO_146001.out (fun _ hk => hk.1.1.2.2.2.2.2.2.1)))
  replace HI0 := Aside0.mk (IsS54.grown (bI HI0.out) hg (IsS54.own_neN HI0.out HO_146001.out (by decide)))
  replace HO176 := Aside0.mk (Kd.N_afterv (ok := (fun k_ => (w.heap.size ≤ k_) ∧ some k_ ≠ (.slice Ao33 x146002_1.length co33 : Value).ownBlock ∧ some k_ ≠ (.slice Ao41 y168.length co41 : Value).ownBlock ∧ k_ ≠ gb142 ∧ k_ ≠ gb145 ∧ k_ ≠ gb159 ∧ k_ ≠ g)) (by refine bN ?_; exact Kd.N_mono HO176.out (fun _ hk => ⟨⟨hk.1.1, ⟨hk.1.2.2.1, ⟨hk.2, ⟨hk.1.2.2.2.2.1, ⟨hk.1.2.2.2.2.2.1, ⟨hk.1.2.2.2.2.2.2.1, hk.1.2.2.2.2.2.2.2⟩⟩⟩⟩⟩⟩, hk.1.2.1⟩)) hg hat)
  replace HO170 := Aside0.mk (Kd.N_afterv (ok := (fun k_ => (w.heap.size ≤ k_) ∧ some k_ ≠ (.slice Ao33 x146002_1.length co33 : Value).ownBlock ∧ some k_ ≠ (v175 : Value).ownBlock ∧ k_ ≠ gb142 ∧ k_ ≠ gb145 ∧ k_ ≠ gb159 ∧ k_ ≠ g)) (by refine bN ?_; exact Kd.N_mono HO170.out (fun _ hk => ⟨⟨hk.1, ⟨hk.2.2.1, ⟨hk.2.2.2.1, ⟨hk.2.2.2.2.1, ⟨hk.2.2.2.2.2.1, ⟨hk.2.2.2.2.2.2.1, hk.2.2.2.2.2.2.2⟩⟩⟩⟩⟩⟩, hk.2.1⟩)) hg hat)
  replace HB := Aside0.mk (below_weaken bB HL.out hb)
  replace HK := Aside0.mk (KeepBut.trans bK (KeepBut.of_grown hg g) (Kd.N_base2 HO_146001.out))
  have HO173 := Aside0.mk (ho)
  clear HO_146001
  clear ho hb hg hat
  refine hK.out _ _ ⟨(blk_cell BK145.out 0).trans rfl, (blk_cell BK145.out 1).trans rfl, (blk_cell BK145.out 2).trans rfl, (blk_cell BK145.out 3).trans rfl, (blk_cell BK159.out 0).trans rfl, (blk_cell BK159.out 1).trans rfl, (blk_cell BK159.out 2).trans rfl, (blk_cell BK159.out 3).trans rfl, (blk_cell BK159.out 4).trans rfl, (blk_cell BK159.out 5).trans rfl, (blk_cell BK159.out 6).trans rfl, (blk_cell BK159.out 7).trans rfl⟩ (fun hHeld => ?_)
  clear hK K
  refine nS 41 ?_
  refine pS 10 47 HT_ ?_
  exact norm_ (by simp only [putAll, Act.put, List.setIfInBounds_toArray, List.set_cons_zero, List.set_cons_succ]) (hCont (.slice Ao41 y168.length co41, v172, v175) _ ⟨hHeld, (by refine bN ?_; exact Kd.N_mono HO170.out (fun _ hk => ⟨hk.1.1, ⟨hk.2, ⟨hk.1.2.2.1, ⟨hk.1.2.1, ⟨hk.1.2.2.2.2.2.2, ⟨hk.1.2.2.2.1, ⟨hk.1.2.2.2.2.1, hk.1.2.2.2.2.2.1⟩⟩⟩⟩⟩⟩⟩)), (by refine bN ?_; exact Kd.N_mono HO173.out (fun _ hk => ⟨hk.1, ⟨hk.2.2.1, ⟨hk.2.1, ⟨hk.2.2.2.2.2.2, ⟨hk.2.2.2.1, ⟨hk.2.2.2.2.1, hk.2.2.2.2.2.1⟩⟩⟩⟩⟩⟩)), (by refine bN ?_; exact Kd.N_mono HO176.out (fun _ hk => ⟨hk.1.1, ⟨hk.1.2.2.1, ⟨hk.2, ⟨hk.1.2.1, ⟨hk.1.2.2.2.2.2.2, ⟨hk.1.2.2.2.1, ⟨hk.1.2.2.2.2.1, hk.1.2.2.2.2.2.1⟩⟩⟩⟩⟩⟩⟩)), (by refine bN ?_; exact Kd.N_mono HO_146002.out (fun _ hk => ⟨hk.1.1, ⟨hk.1.2.2.1, ⟨hk.2, ⟨hk.1.2.1, ⟨hk.1.2.2.2.2.2.2, ⟨hk.1.2.2.2.1, ⟨hk.1.2.2.2.2.1, hk.1.2.2.2.2.2.1⟩⟩⟩⟩⟩⟩⟩)), (bw BK142.out), (bw BK145.out), (bw BK159.out), (bI HI0.out), bK, bB⟩)
 rintro ⟨v169, v172, v175⟩ w42 ⟨hS_, h0_, h1_, h2_, h3_, h4_, h5_, h6_, h7_, h8_, h9_⟩
 have HO170 : Aside0 (Kd.N k51 51 w42 w.heap.size (fun k_ => (w.heap.size ≤ k_) ∧ some k_ ≠ (v172 : Value).ownBlock ∧ some k_ ≠ (v175 : Value).ownBlock ∧ some k_ ≠ (.slice Ao33 x146002_1.length co33 : Value).ownBlock ∧ k_ ≠ g ∧ k_ ≠ gb142 ∧ k_ ≠ gb145 ∧ k_ ≠ gb159) v169 y168) := ⟨h0_⟩
 have HO173 : Aside0 (Kd.N k51 51 w42 w.heap.size (fun k_ => (w.heap.size ≤ k_) ∧ some k_ ≠ (v175 : Value).ownBlock ∧ some k_ ≠ (.slice Ao33 x146002_1.length co33 : Value).ownBlock ∧ k_ ≠ g ∧ k_ ≠ gb142 ∧ k_ ≠ gb145 ∧ k_ ≠ gb159) v172 y171) := ⟨h1_⟩
 have HO176 : Aside0 (Kd.N (Kd.slice 3 (Kd.int .i64)) 64 w42 w.heap.size (fun k_ => (w.heap.size ≤ k_) ∧ some k_ ≠ (v169 : Value).ownBlock ∧ some k_ ≠ (v172 : Value).ownBlock ∧ some k_ ≠ (.slice Ao33 x146002_1.length co33 : Value).ownBlock ∧ k_ ≠ g ∧ k_ ≠ gb142 ∧ k_ ≠ gb145 ∧ k_ ≠ gb159) v175 y174) := ⟨h2_⟩
 replace HO_146002 : Aside0 (Kd.N (Kd.slice 3 (Kd.int .i64)) 64 w42 w.heap.size (fun k_ => (w.heap.size ≤ k_) ∧ some k_ ≠ (v169 : Value).ownBlock ∧ some k_ ≠ (v172 : Value).ownBlock ∧ some k_ ≠ (v175 : Value).ownBlock ∧ k_ ≠ g ∧ k_ ≠ gb142 ∧ k_ ≠ gb145 ∧ k_ ≠ gb159) (.slice Ao33 x146002_1.length co33) x146002_1) := ⟨h3_⟩
 replace BK142 : Aside0 (w42.heap[gb142]? = some (.cells #[.int .i64 0, .slice none 0 0, .slice none 0 0, .slice none 0 0] 28 (0, 0))) := ⟨h4_⟩
 replace BK145 : Aside0 (w42.heap[gb145]? = some (.cells #[.int .i64 (wrap64 (1 + (Int.tmod t143 5))), .slice Ao32 x146001_1.length co32, .slice Ao33 x146002_1.length co33, .slice none 0 0] 28 (0, 0))) := ⟨h5_⟩
 replace BK159 : Aside0 (w42.heap[gb159]? = some (.cells #[.int .u64 t148, .int .u16 t149, .int .i64 t150, .int .i64 t151, .int .i64 t152, .int .i64 t153, .int .i64 t154, .slice Ao19 t155.length co19] 51 (0, 0))) := ⟨h6_⟩
 replace HI0 : Aside0 (IsS54 w0 w42 g s0_0 x1001_2) := ⟨h7_⟩
 replace HK : Aside0 (KeepBut w w42 g none) := ⟨h8_⟩
 replace HB : Aside0 (Below w0.heap.size w0 w42) := ⟨h9_⟩
 clear HO_6 HO_146001 HO_160007 h0_ h1_ h2_ h3_ h4_ h5_ h6_ h7_ h8_ h9_
 have hHeld : w42.cell? ⟨gb145, 0, none⟩ = some (.int .i64 (wrap64 (1 + (Int.tmod t143 5)))) ∧ w42.cell? ⟨gb145, 1, none⟩ = some (.slice Ao32 x146001_1.length co32) ∧ w42.cell? ⟨gb145, 2, none⟩ = some (.slice Ao33 x146002_1.length co33) ∧ w42.cell? ⟨gb145, 3, none⟩ = some (.slice none 0 0) ∧ w42.cell? ⟨gb159, 0, none⟩ = some (.int .u64 t148) ∧ w42.cell? ⟨gb159, 1, none⟩ = some (.int .u16 t149) ∧ w42.cell? ⟨gb159, 2, none⟩ = some (.int .i64 t150) ∧ w42.cell? ⟨gb159, 3, none⟩ = some (.int .i64 t151) ∧ w42.cell? ⟨gb159, 4, none⟩ = some (.int .i64 t152) ∧ w42.cell? ⟨gb159, 5, none⟩ = some (.int .i64 t153) ∧ w42.cell? ⟨gb159, 6, none⟩ = some (.int .i64 t154) ∧ w42.cell? ⟨gb159, 7, none⟩ = some (.slice Ao19 t155.length co19) := hS_
 obtain ⟨Ao44, co44, eo44⟩ := Kd.N_slice HO176.out
 (first | subst eo44 | (injection eo44 with f1_ f2_ f3_; have f4_ := f1_.symm; have f5_ := f3_.symm; clear f1_ f2_ f3_; subst f4_; subst f5_))
 refine norm_ (a' := ?_) ?_ ?_
 rotate_left
 ·simp only [putAll, Act.put, List.setIfInBounds_toArray, List.set_cons_zero, List.set_cons_succ]
  rfl
 refine one_ (i := 9) (N := some 46) #[true, true, true, true, true, true, true, true, true, true, true, false, false, false] rfl rfl (one_of HT_.out (by kernel_rfl)) (by decide) (fun K hK => ?_)
 refine Kd.N_append_rows_step (Kd.slice 3 (Kd.int .i64)) w.heap.size (by rfl) (.tmp 43) (.tmp 45) 25 64 (.slice none 0 0) 24 rfl Tryd.underlying25 info64 rfl (by decide) (by omega) (.slice Ao33 x146002_1.length co33) x146002_1 y174 _ _ _ (fun k_ => (w.heap.size ≤ k_) ∧ some k_ ≠ (v169 : Value).ownBlock ∧ some k_ ≠ (v172 : Value).ownBlock ∧ k_ ≠ gb142 ∧ k_ ≠ gb145 ∧ k_ ≠ gb159 ∧ k_ ≠ g) (fun k_ => ((fun k_ => (w.heap.size ≤ k_) ∧ some k_ ≠ (v169 : Value).ownBlock ∧ some k_ ≠ (v172 : Value).ownBlock ∧ k_ ≠ gb142 ∧ k_ ≠ gb145 ∧ k_ ≠ gb159 ∧ k_ ≠ g)) k_ ∧ some k_ ≠ (.slice Ao33 x146002_1.length co33 : Value).ownBlock) rfl rfl ?aO ?aR (fun _ hk => hk) ?aF (Below.refl _ _) ?aS ?aL ?_
 (case aR => exact (by skip; exact Kd.N_F (Kd.N_mono (ok' := (fun k_ => ((fun k_ => (w.heap.size ≤ k_) ∧ some k_ ≠ (v169 : Value).ownBlock ∧ some k_ ≠ (v172 : Value).ownBlock ∧ k_ ≠ gb142 ∧ k_ ≠ gb145 ∧ k_ ≠ gb159 ∧ k_ ≠ g)) k_ ∧ some k_ ≠ (.slice Ao33 x146002_1.length co33 : Value).ownBlock)) (HO176.out) (fun k_ hk => ⟨⟨hk.1, ⟨hk.2.1, ⟨hk.2.2.1, ⟨hk.2.2.2.2.2.1, ⟨hk.2.2.2.2.2.2.1, ⟨hk.2.2.2.2.2.2.2, hk.2.2.2.2.1⟩⟩⟩⟩⟩⟩, hk.2.2.2.1⟩))))
 (case aF => exact (fun k_ hk => ⟨(Nat.le_trans (keep_size (w := w) (g := g) (row := none) bK) hk), Kd.fresh' (Kd.N_lt (bN HO170.out)) k_ hk, Kd.fresh' (Kd.N_lt (bN HO173.out)) k_ hk, Kd.freshB (g := gb142) (o := .cells #[.int .i64 0, .slice none 0 0, .slice none 0 0, .slice none 0 0] 28 (0, 0)) (bw BK142.out) k_ hk, Kd.freshB (g := gb145) (o := .cells #[.int .i64 (wrap64 (1 + (Int.tmod t143 5))), .slice Ao32 x146001_1.length co32, .slice Ao33 x146002_1.length co33, .slice none 0 0] 28 (0, 0)) (bw BK145.out) k_ hk, Kd.freshB (g := gb159) (o := .cells #[.int .u64 t148, .int .u16 t149, .int .i64 t150, .int .i64 t151, .int .i64 t152, .int .i64 t153, .int .i64 t154, .slice Ao19 t155.length co19] 51 (0, 0)) (bw BK159.out) k_ hk, IsS54.fresh (bI HI0.out) k_ hk⟩))
 (case aO => exact (by refine bN ?_; exact Kd.N_mono HO_146002.out (fun _ hk => ⟨hk.1, ⟨hk.2.1, ⟨hk.2.2.1, ⟨hk.2.2.2.2.2.1, ⟨hk.2.2.2.2.2.2.1, ⟨hk.2.2.2.2.2.2.2, hk.2.2.2.2.1⟩⟩⟩⟩⟩⟩)))
 (case aS => exact (keep_size (w := w) (g := g) (row := none) bK))
 (case aL => have := LMc31.out; omega)
 intro v178 w43 ho hb hg hat
 rw [← Ny177.out] at ho
 replace BK142 := Aside0.mk (blk_grown (g := gb142) (o := .cells #[.int .i64 0, .slice none 0 0, .slice none 0 0, .slice none 0 0] 28 (0, 0)) (bw BK142.out) hg (Kd.N_ne HO_146002.out BK142.out (by decide)))
 replace BK145 := Aside0.mk (blk_grown (g := gb145) (o := .cells #[.int .i64 (wrap64 (1 + (Int.tmod t143 5))), .slice Ao32 x146001_1.length co32, .slice Ao33 x146002_1.length co33, .slice none 0 0] 28 (0, 0)) (bw BK145.out) hg (Kd.N_ne HO_146002.out BK145.out (by decide)))
 replace BK159 := Aside0.mk (blk_grown (g := gb159) (o := .cells #[.int .u64 t148, .int .u16 t149, .int .i64 t150, .int .i64 t151, .int .i64 t152, .int .i64 t153, .int .i64 t154, .slice Ao19 t155.length co19] 51 (0, 0)) (bw BK159.out) hg (Kd.N_ne HO_146002.out BK159.out (by decide)))
 replace HI0 := Aside0.mk (IsS54.grown (bI HI0.out) hg (IsS54.own_neN HI0.out HO_146002.out (by decide)))
 replace HO170 := Aside0.mk (Kd.N_afterv (ok := (fun k_ => (w.heap.size ≤ k_) ∧ some k_ ≠ (v172 : Value).ownBlock ∧ some k_ ≠ (.slice Ao44 y174.length co44 : Value).ownBlock ∧ k_ ≠ g ∧ k_ ≠ gb142 ∧ k_ ≠ gb145 ∧ k_ ≠ gb159)) (by refine bN ?_; exact Kd.N_mono HO170.out (fun _ hk => ⟨⟨hk.1, ⟨hk.2.1, ⟨hk.2.2.1, ⟨hk.2.2.2.2.1, ⟨hk.2.2.2.2.2.1, ⟨hk.2.2.2.2.2.2.1, hk.2.2.2.2.2.2.2⟩⟩⟩⟩⟩⟩, hk.2.2.2.1⟩)) hg hat)
 replace HO173 := Aside0.mk (Kd.N_afterv (ok := (fun k_ => (w.heap.size ≤ k_) ∧ some k_ ≠ (.slice Ao44 y174.length co44 : Value).ownBlock ∧ k_ ≠ g ∧ k_ ≠ gb142 ∧ k_ ≠ gb145 ∧ k_ ≠ gb159)) (by refine bN ?_; exact Kd.N_mono HO173.out (fun _ hk => ⟨⟨hk.1, ⟨hk.2.1, ⟨hk.2.2.2.1, ⟨hk.2.2.2.2.1, ⟨hk.2.2.2.2.2.1, hk.2.2.2.2.2.2⟩⟩⟩⟩⟩, hk.2.2.1⟩)) hg hat)
 replace HO176 := Aside0.mk (Kd.N_afterv (ok := (fun k_ => (w.heap.size ≤ k_) ∧ some k_ ≠ (v169 : Value).ownBlock ∧ some k_ ≠ (v172 : Value).ownBlock ∧ k_ ≠ g ∧ k_ ≠ gb142 ∧ k_ ≠ gb145 ∧ k_ ≠ gb159)) (by refine bN ?_; exact Kd.N_mono HO176.out (fun _ hk => ⟨⟨hk.1, ⟨hk.2.1, ⟨hk.2.2.1, ⟨hk.2.2.2.2.1, ⟨hk.2.2.2.2.2.1, ⟨hk.2.2.2.2.2.2.1, hk.2.2.2.2.2.2.2⟩⟩⟩⟩⟩⟩, hk.2.2.2.1⟩)) hg hat)
 replace HB := Aside0.mk (below_weaken bB HL.out hb)
 replace HK := Aside0.mk (KeepBut.trans bK (KeepBut.of_grown hg g) (Kd.N_base2 HO_146002.out))
 have HO179 := Aside0.mk (ho)
 clear HO_146002
 clear ho hb hg hat
 obtain ⟨Ao45, co45, eo45⟩ := Kd.N_slice HO173.out
 (first | subst eo45 | (injection eo45 with f1_ f2_ f3_; have f4_ := f1_.symm; have f5_ := f3_.symm; clear f1_ f2_ f3_; subst f4_; subst f5_))
 obtain ⟨Ao47, co47, eo47⟩ := Kd.N_slice HO179.out
 (first | subst eo47 | (injection eo47 with f1_ f2_ f3_; have f4_ := f1_.symm; have f5_ := f3_.symm; clear f1_ f2_ f3_; subst f4_; subst f5_))
 refine hK.out _ _ ⟨(blk_cell BK145.out 0).trans rfl, (blk_cell BK145.out 1).trans rfl, (blk_cell BK145.out 2).trans rfl, (blk_cell BK145.out 3).trans rfl, (blk_cell BK159.out 0).trans rfl, (blk_cell BK159.out 1).trans rfl, (blk_cell BK159.out 2).trans rfl, (blk_cell BK159.out 3).trans rfl, (blk_cell BK159.out 4).trans rfl, (blk_cell BK159.out 5).trans rfl, (blk_cell BK159.out 6).trans rfl, (blk_cell BK159.out 7).trans rfl⟩ (fun hHeld => ?_)
 clear hK K
 refine nS 46 ?_
 refine last_ (i := 11) (N := none) #[true, true, true, true, true, true, true, true, true, true, true, true, false, false] rfl rfl (one_of HT_.out (by kernel_rfl)) (by decide) (fun K hK => ?_)
 have hs46 : w43.cell? ⟨gb145, 1, none⟩ = some (.slice Ao32 x146001_1.length co32) := (blk_cell BK145.out 1).trans rfl
 have hfs46 := blk_frozen BK145.out 1
 have hns46_0 := NB142_145.out
 have hns46_2 := NB159_145.out
 have hms46_0 := NB145_142.out
 have hms46_2 := NB145_159.out
 refine skip_ (w1 := ?_) (by rfl) rfl ?_ ?_
 rotate_left
 ·go_simp
  rfl
 refine hK.out _ _ ?_
 clear hK K
 refine pS 12 48 HT_ ?_
 refine last_ (i := 13) (N := none) #[true, true, true, true, true, true, true, true, true, true, true, true, true, true] rfl rfl (one_of HT_.out (by kernel_rfl)) (by decide) (fun K hK => ?_)
 have hs48 : w43.cell? ⟨gb145, 2, none⟩ = some (.slice Ao33 x146002_1.length co33) := (blk_cell BK145.out 2).trans rfl
 have hfs48 := blk_frozen BK145.out 2
 have hns48_0 := NB142_145.out
 have hns48_2 := NB159_145.out
 have hms48_0 := NB145_142.out
 have hms48_2 := NB145_159.out
 refine skip_ (w1 := ?_) (by rfl) rfl ?_ ?_
 rotate_left
 ·go_simp
  rfl
 refine hK.out _ _ ?_
 clear hK K
 refine done_ (done_of HT_.out (by kernel_rfl)) ?_
 try go_wp2
 go_roundg k2
 case measure => have := HK1.out; have := HK2.out; omega
 case rel => exact ⟨(wrap64 (x17_1 + 1)), (x1001_2), (y171), (y177), (.slice Ao45 y171.length co45), (.slice Ao47 y177.length co47), (by first | rfl | (simp; done) | (simp [*]; done)), H', ⟨by have := HK1.out; have := HK2.out; omega⟩, ⟨by refine bN ?_; exact Kd.N_mono (Nfar2 (Kd.N_mono HO173.out (fun k_ hk => (⟨hk, hk.1.2.2.2.2.1⟩ : _ ∧ k_ ≠ gb145))) (fun _ hk => hk.2)) (fun _ hk => ⟨hk.1.1.1, ⟨hk.1.2, ⟨hk.1.1.2.2.2.1, ⟨hk.1.1.2.2.2.2.1, hk.1.1.2.2.1⟩⟩⟩⟩)⟩, ⟨by refine bN ?_; exact Kd.N_mono (Nfar2 (Kd.N_mono HO179.out (fun k_ hk => (⟨hk, hk.2.2.2.2.1⟩ : _ ∧ k_ ≠ gb145))) (fun _ hk => hk.2)) (fun _ hk => ⟨hk.1.1, ⟨hk.1.2.2.1, ⟨hk.1.2.2.2.1, ⟨hk.1.2.2.2.2.1, hk.1.2.2.2.2.2.2⟩⟩⟩⟩)⟩, ⟨bw BK142.out⟩, ⟨by refine bW ?_; refine blk_put (cs := #[.int .i64 (wrap64 (1 + (Int.tmod t143 5))), .slice Ao45 y171.length co45, .slice Ao33 x146002_1.length co33, .slice none 0 0]) ?_ 2 _ rfl; refine bW ?_; refine blk_put (cs := #[.int .i64 (wrap64 (1 + (Int.tmod t143 5))), .slice Ao32 x146001_1.length co32, .slice Ao33 x146002_1.length co33, .slice none 0 0]) ?_ 1 _ rfl; exact bw BK145.out⟩, ⟨bI HI0.out⟩, ⟨bK⟩, ⟨bB⟩⟩
end Go.Proofs.YtiikllgppmmiaaaDoor.OScriptReads
