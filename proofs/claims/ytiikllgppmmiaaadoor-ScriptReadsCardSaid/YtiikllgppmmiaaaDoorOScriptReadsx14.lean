/- What Go functions that the law ScriptReads uses come to, and why: part 14. Made out of the kit's print by a program of this session (wip/tools/stub.py, splice.py), functions that it does not take told by hand. -/
import Derived.Test.YtiikllgppmmiaaaDoorOScriptReadsx13
namespace Go.Proofs.YtiikllgppmmiaaaDoor.OScriptReads
open Go.RowKit Go.Proofs.YtiikllgppmmiaaaDoorW.PrintWords Go.Proofs.YtiikllgppmmiaaaDoorW.PrintLast Go.Proofs.YtiikllgppmmiaaaDoorW.PrintMore
attribute [local go_sem] max2_int min2_int max_two min_two max_three min_three max_four min_four   -- for this text's walks alone
set_option linter.unusedVariables false
set_option linter.unusedSimpArgs false

/-! ### treelineref24_SameOps: function 12 -/
theorem cfA {w : World} {a : Addr} {g : Nat} {v : Value} (h : w.cell? a = some v) (hg : w.heap.size ≤ g) : a.block ≠ g :=
  Nat.ne_of_lt (Nat.lt_of_lt_of_le (World.block_lt_of_cell? w _ h) hg)
theorem far6 {W : World} {g j0 j1 j2 j3 j4 j5 : Nat} {a : Addr} {v u0 u1 u2 u3 u4 u5 : Value} (h : W.cell? a = some v) (hn : a.block ≠ g) : ((((((W.setCell ⟨g, j0, none⟩ u0).setCell ⟨g, j1, none⟩ u1).setCell ⟨g, j2, none⟩ u2).setCell ⟨g, j3, none⟩ u3).setCell ⟨g, j4, none⟩ u4).setCell ⟨g, j5, none⟩ u5).cell? a = some v :=
  (cell_far (p := ⟨g, _, none⟩) hn _).trans ((cell_far (p := ⟨g, _, none⟩) hn _).trans ((cell_far (p := ⟨g, _, none⟩) hn _).trans ((cell_far (p := ⟨g, _, none⟩) hn _).trans ((cell_far (p := ⟨g, _, none⟩) hn _).trans ((cell_far (p := ⟨g, _, none⟩) hn _).trans (h))))))
def treelineref24_SameOps.l0 : Nat → List (S39) → List (S39) → Int → Option (Bool)
  | 0, _, _, _ => none
  | k + 1, x0, x1, x5 => if x5 < (x0.length : Int) then (if 0 ≤ x5 then (if x5 < (x1.length : Int) then (if ((rd_T39 x0 x5).f0) = ((rd_T39 x1 x5).f0) then (if ((rd_T39 x0 x5).f1) = ((rd_T39 x1 x5).f1) then (if ((rd_T39 x0 x5).f2) = ((rd_T39 x1 x5).f2) then (if (((rd_T39 x0 x5).f3) != ((rd_T39 x1 x5).f3)) = true then (some false) else (if ((rd_T39 x0 x5).f4) = ((rd_T39 x1 x5).f4) then (if (strOfNums ((rd_T39 x0 x5).f5)).toList = (strOfNums ((rd_T39 x1 x5).f5)).toList then (treelineref24_SameOps.l0 k x0 x1 (wrap64 (x5 + 1))) else (some false)) else (some false))) else (some false)) else (some false)) else (some false)) else (none)) else (none)) else (some true)
def treelineref24_SameOps.f (k : Nat) (l0 : List (S39)) (l1 : List (S39)) : Option (Bool) := if (l0.length : Int) = (l1.length : Int) then (treelineref24_SameOps.l0 k l0 l1 0) else (some false)
theorem treelineref24_SameOps.mono_l : ∀ k, (∀ y0 y1 y2, LeO (treelineref24_SameOps.l0 k y0 y1 y2) (treelineref24_SameOps.l0 (k + 1) y0 y1 y2))
  | 0 => fun _ _ _ r h => by simp [treelineref24_SameOps.l0] at h
  | k + 1 => by
    have ih0 := treelineref24_SameOps.mono_l k
    · intro y0 y1 y2
      unfold treelineref24_SameOps.l0
      repeat' first
      | (with_reducible apply ih0)
      | (with_reducible exact LeO.refl _)
      | (with_reducible exact LeO.none _)
      | (with_reducible refine LeO.ite ?_ ?_)
      | (with_reducible refine LeO.bind ?_ (fun _ => ?_))
      | apply ih0
      | exact LeO.none _
      | refine LeO.ite ?_ ?_
      | refine LeO.bind ?_ (fun _ => ?_)
theorem treelineref24_SameOps.mono : ∀ a0 a1 k, LeO (treelineref24_SameOps.f k a0 a1) (treelineref24_SameOps.f (k + 1) a0 a1) := by
  intro a0 a1 k
  have ih0 := treelineref24_SameOps.mono_l k
  unfold treelineref24_SameOps.f
  repeat' first
      | (with_reducible apply ih0)
      | (with_reducible exact LeO.refl _)
      | (with_reducible exact LeO.none _)
      | (with_reducible refine LeO.ite ?_ ?_)
      | (with_reducible refine LeO.bind ?_ (fun _ => ?_))
      | apply ih0
      | exact LeO.none _
      | refine LeO.ite ?_ ?_
      | refine LeO.bind ?_ (fun _ => ?_)
def treelineref24_SameOps.T6 : Bool × List (List Nat × List Nat) := (true, [([], []), ([], []), ([0, 1], [0, 1]), ([2], [2]), ([], []), ([], []), ([4, 5], [4, 5]), ([6], [6]), ([], []), ([], []), ([8, 3, 0, 1, 2, 3, 8, 9], [3, 8]), ([9, 7, 10, 0, 1, 2, 3, 4, 5, 6, 7, 8, 9, 10], [7, 9])])
def treelineref24_SameOps.B6 : List Nat := [0, 0, 3, 7, 0, 0, 48, 112, 0, 0, 783, 2047]
theorem treelineref24_SameOps.tab6 : rtab .any (opsOf Tryd.f12 6) = treelineref24_SameOps.T6 := by kernel_rfl
theorem treelineref24_SameOps.bits6 : waitsOk treelineref24_SameOps.T6.2 treelineref24_SameOps.B6 = true := by kernel_rfl
set_option maxHeartbeats 8000000 in
set_option maxRecDepth 100000 in
theorem treelineref24_SameOps.calls (k : Nat) (A0 : Option Addr) (c0 : Nat) (l0 : List (S39)) (A1 : Option Addr) (c1 : Nat) (l1 : List (S39)) (r : Bool) (w : World) (hr0 : Kd.C k39 w A0 l0.length l0) (hc0 : l0.length ≤ c0) (hr1 : Kd.C k39 w A1 l1.length l1) (hc1 : l1.length ≤ c1) (h : treelineref24_SameOps.f k l0 l1 = some r) :
  Calls Tryd.prog 12 #[.slice A0 l0.length c0, .slice A1 l1.length c1] w fun e w' => e = .returned (.bool r) ∧ Below w.heap.size w w' := by
 have hu39 := Tryd.underlying39
 have HR0 := Aside0.mk hr0
 have HC0 := Aside0.mk hc0
 clear hr0 hc0
 have HR1 := Aside0.mk hr1
 have HC1 := Aside0.mk hc1
 clear hr1 hc1
 have HB := Aside0.mk (Below.refl w.heap.size w)
 have H : (if (l0.length : Int) = (l1.length : Int) then (treelineref24_SameOps.l0 k l0 l1 0) else (some false)) = some r := h
 clear h
 by_cases c3 : (l0.length : Int) = (l1.length : Int)
 rotate_left
 ·rw [if_neg c3] at H
  have c3b0 : ((l0.length : Int) == (l1.length : Int)) = false := beq_eq_false_iff_ne.mpr c3
  have c3b1 : ((l0.length : Int) != (l1.length : Int)) = true := bne_iff_ne.mpr c3
  have c3b2 : (l0.length == l1.length) = false := by first | simpa using c3 | (simp at c3 ⊢; omega)
  obtain rfl := Option.some.inj H
  go_enter Tryd.func12, Tryd.ntmps12
  go_wp2
  go_ret
  exact ⟨by first | rfl | (simp [errW_none, errW_some] <;> rfl) | (simp [*, errW_none, errW_some] <;> rfl), by exact bB⟩
 rw [if_pos c3] at H
 have c3b0 : ((l0.length : Int) == (l1.length : Int)) = true := beq_iff_eq.mpr c3
 have c3b1 : ((l0.length : Int) != (l1.length : Int)) = false := bne_eq_false_iff_eq.mpr c3
 have c3b2 : (l0.length == l1.length) = true := by first | simpa using c3 | (simp at c3 ⊢; omega)
 clear c3
 have H' := Aside0.mk H
 clear H
 go_enter Tryd.func12, Tryd.ntmps12
 go_wp2
 go_loopg [5] k (fun kq v5 w' => ∃ (x5_1 : Int), v5 = .int .i64 x5_1 ∧ Aside0 (treelineref24_SameOps.l0 kq l0 l1 x5_1 = some r) ∧ Aside0 (kq ≤ k) ∧ Aside0 (Below w.heap.size w w'))
 case atStart => exact ⟨(0), (by first | rfl | (simp; done) | (simp [*]; done)), H', ⟨Nat.le_refl _⟩, ⟨bB⟩⟩
 clear H'
 try clear p2
 try clear c3
 try clear c3b0
 try clear c3b1
 try clear c3b2
 obtain ⟨x5_1, rfl, HA, HK1, HB⟩ := hrel
 cases gk with
 | zero => exact absurd HA.out (by simp [treelineref24_SameOps.l0])
 | succ k1 => ?_
 have H := HA.out
 clear HA
 simp only [treelineref24_SameOps.l0] at H
 by_cases c4 : x5_1 < (l0.length : Int)
 rotate_left
 ·rw [if_neg c4] at H
  have c4b0 : decide (x5_1 < (l0.length : Int)) = false := decide_eq_false c4
  clear c4
  obtain rfl := Option.some.inj H
  go_wp2
  go_ret
  exact ⟨by first | rfl | (simp [errW_none, errW_some] <;> rfl) | (simp [*, errW_none, errW_some] <;> rfl), by exact bB⟩
 rw [if_pos c4] at H
 have c4b0 : decide (x5_1 < (l0.length : Int)) = true := decide_eq_true c4
 clear c4
 by_cases c5 : 0 ≤ x5_1
 rotate_left
 ·rw [if_neg c5] at H
  exact absurd H (by simp)
 rw [if_pos c5] at H
 have c5b0 : decide (0 ≤ x5_1) = true := decide_eq_true c5
 clear c5
 by_cases c6 : x5_1 < (l1.length : Int)
 rotate_left
 ·rw [if_neg c6] at H
  exact absurd H (by simp)
 rw [if_pos c6] at H
 have c6b0 : decide (x5_1 < (l1.length : Int)) = true := decide_eq_true c6
 clear c6
 have H0_ := Aside0.mk H
 clear H
 try go_wp2
 have n0_ := Aside0.mk (below_drew1 HB.out)
 clear HB
 have HB := n0_
 clear n0_
 have p322 : 0 ≤ (x5_1 : Int) := of_decide_eq_true (by first | (with_reducible assumption) | assumption)
 have q322 : x5_1 < (l0.length : Int) := of_decide_eq_true (by first | (with_reducible assumption) | assumption)
 obtain ⟨ad322, A322_5, c322_5, e322, hx322_0, hx322_1, hx322_2, hx322_3, hx322_4, hx322_5, hl322_5, hi322_5⟩ := at_T39 HR0.out x5_1 p322 q322
 have hw322_5 := hx322_5
 have hw322_4 := hx322_4
 have hw322_3 := hx322_3
 have hw322_2 := hx322_2
 have hw322_1 := hx322_1
 have hw322_0 := hx322_0
 cases e322
 replace hx322_0 := (HB.out.cell (World.block_lt_of_cell? w _ hx322_0)).trans hx322_0
 replace hx322_1 := (HB.out.cell (World.block_lt_of_cell? w _ hx322_1)).trans hx322_1
 replace hx322_2 := (HB.out.cell (World.block_lt_of_cell? w _ hx322_2)).trans hx322_2
 replace hx322_3 := (HB.out.cell (World.block_lt_of_cell? w _ hx322_3)).trans hx322_3
 replace hx322_4 := (HB.out.cell (World.block_lt_of_cell? w _ hx322_4)).trans hx322_4
 replace hx322_5 := (HB.out.cell (World.block_lt_of_cell? w _ hx322_5)).trans hx322_5
 have HR322_5 := Aside0.mk hi322_5
 have HC322_5 := Aside0.mk hl322_5
 clear hi322_5 hl322_5
 replace p322 := eq_true p322
 replace q322 := eq_true q322
 have p323 : 0 ≤ (x5_1 : Int) := of_decide_eq_true (by first | (with_reducible assumption) | assumption)
 have q323 : x5_1 < (l1.length : Int) := of_decide_eq_true (by first | (with_reducible assumption) | assumption)
 obtain ⟨ad323, A323_5, c323_5, e323, hx323_0, hx323_1, hx323_2, hx323_3, hx323_4, hx323_5, hl323_5, hi323_5⟩ := at_T39 HR1.out x5_1 p323 q323
 have hw323_5 := hx323_5
 have hw323_4 := hx323_4
 have hw323_3 := hx323_3
 have hw323_2 := hx323_2
 have hw323_1 := hx323_1
 have hw323_0 := hx323_0
 cases e323
 replace hx323_0 := (HB.out.cell (World.block_lt_of_cell? w _ hx323_0)).trans hx323_0
 replace hx323_1 := (HB.out.cell (World.block_lt_of_cell? w _ hx323_1)).trans hx323_1
 replace hx323_2 := (HB.out.cell (World.block_lt_of_cell? w _ hx323_2)).trans hx323_2
 replace hx323_3 := (HB.out.cell (World.block_lt_of_cell? w _ hx323_3)).trans hx323_3
 replace hx323_4 := (HB.out.cell (World.block_lt_of_cell? w _ hx323_4)).trans hx323_4
 replace hx323_5 := (HB.out.cell (World.block_lt_of_cell? w _ hx323_5)).trans hx323_5
 have HR323_5 := Aside0.mk hi323_5
 have HC323_5 := Aside0.mk hl323_5
 clear hi323_5 hl323_5
 replace p323 := eq_true p323
 replace q323 := eq_true q323
 refine start_ (n := 12) (S := fun w' => w'.cell? (ad322.add ((x5_1).toNat * 6)) = some (.int .i64 ((rd_T39 l0 x5_1).f0)) ∧ w'.cell? ⟨(ad322.add ((x5_1).toNat * 6)).block, (ad322.add ((x5_1).toNat * 6)).off + 1, none⟩ = some (.int .i64 ((rd_T39 l0 x5_1).f1)) ∧ w'.cell? ⟨(ad322.add ((x5_1).toNat * 6)).block, (ad322.add ((x5_1).toNat * 6)).off + 2, none⟩ = some (.int .i64 ((rd_T39 l0 x5_1).f2)) ∧ w'.cell? ⟨(ad322.add ((x5_1).toNat * 6)).block, (ad322.add ((x5_1).toNat * 6)).off + 3, none⟩ = some (.bool ((rd_T39 l0 x5_1).f3)) ∧ w'.cell? ⟨(ad322.add ((x5_1).toNat * 6)).block, (ad322.add ((x5_1).toNat * 6)).off + 4, none⟩ = some (.int .u64 ((rd_T39 l0 x5_1).f4)) ∧ w'.cell? ⟨(ad322.add ((x5_1).toNat * 6)).block, (ad322.add ((x5_1).toNat * 6)).off + 5, none⟩ = some (.slice A322_5 ((rd_T39 l0 x5_1).f5).length c322_5) ∧ w'.cell? (ad323.add ((x5_1).toNat * 6)) = some (.int .i64 ((rd_T39 l1 x5_1).f0)) ∧ w'.cell? ⟨(ad323.add ((x5_1).toNat * 6)).block, (ad323.add ((x5_1).toNat * 6)).off + 1, none⟩ = some (.int .i64 ((rd_T39 l1 x5_1).f1)) ∧ w'.cell? ⟨(ad323.add ((x5_1).toNat * 6)).block, (ad323.add ((x5_1).toNat * 6)).off + 2, none⟩ = some (.int .i64 ((rd_T39 l1 x5_1).f2)) ∧ w'.cell? ⟨(ad323.add ((x5_1).toNat * 6)).block, (ad323.add ((x5_1).toNat * 6)).off + 3, none⟩ = some (.bool ((rd_T39 l1 x5_1).f3)) ∧ w'.cell? ⟨(ad323.add ((x5_1).toNat * 6)).block, (ad323.add ((x5_1).toNat * 6)).off + 4, none⟩ = some (.int .u64 ((rd_T39 l1 x5_1).f4)) ∧ w'.cell? ⟨(ad323.add ((x5_1).toNat * 6)).block, (ad323.add ((x5_1).toNat * 6)).off + 5, none⟩ = some (.slice A323_5 ((rd_T39 l1 x5_1).f5).length c323_5)) (ds := []) #[false, false, false, false, false, false, false, false, false, false, false, false] (by kernel_rfl) rfl rfl ⟨((HB.out.cell (World.block_lt_of_cell? w _ hw322_0)).trans hw322_0), ((HB.out.cell (World.block_lt_of_cell? w _ hw322_1)).trans hw322_1), ((HB.out.cell (World.block_lt_of_cell? w _ hw322_2)).trans hw322_2), ((HB.out.cell (World.block_lt_of_cell? w _ hw322_3)).trans hw322_3), ((HB.out.cell (World.block_lt_of_cell? w _ hw322_4)).trans hw322_4), ((HB.out.cell (World.block_lt_of_cell? w _ hw322_5)).trans hw322_5), ((HB.out.cell (World.block_lt_of_cell? w _ hw323_0)).trans hw323_0), ((HB.out.cell (World.block_lt_of_cell? w _ hw323_1)).trans hw323_1), ((HB.out.cell (World.block_lt_of_cell? w _ hw323_2)).trans hw323_2), ((HB.out.cell (World.block_lt_of_cell? w _ hw323_3)).trans hw323_3), ((HB.out.cell (World.block_lt_of_cell? w _ hw323_4)).trans hw323_4), ((HB.out.cell (World.block_lt_of_cell? w _ hw323_5)).trans hw323_5)⟩ (fun hHeld => ?_); refine with_tabW treelineref24_SameOps.tab6 treelineref24_SameOps.bits6 (fun HT_ HW_ => ?_)
 generalize wr.drew = w11 at HB HR322_5 HR323_5 hx322_0 hx322_1 hx322_2 hx322_3 hx322_4 hx322_5 hx323_0 hx323_1 hx323_2 hx323_3 hx323_4 hx323_5 hHeld ⊢
 refine pS 0 19 HT_ ?_
 refine pS 1 20 HT_ ?_
 refine pS 2 21 HT_ ?_
 refine pS 4 23 HT_ ?_
 refine pS 5 24 HT_ ?_
 refine pS 6 25 HT_ ?_
 refine tS 3 22 HT_ HW_ hHeld ?_
 refine tS 7 26 HT_ HW_ hHeld ?_
 refine join_ (σ := Nat × Nat) 2 #[true, true, true, true, true, true, true, true, true, true, false, false] (fun s_ => [(6, .pointer (some ⟨s_.1, 0, none⟩)), (7, .pointer (some ⟨s_.2, 0, none⟩))]) (fun s_ w' => (w'.cell? (ad322.add ((x5_1).toNat * 6)) = some (.int .i64 ((rd_T39 l0 x5_1).f0)) ∧ w'.cell? ⟨(ad322.add ((x5_1).toNat * 6)).block, (ad322.add ((x5_1).toNat * 6)).off + 1, none⟩ = some (.int .i64 ((rd_T39 l0 x5_1).f1)) ∧ w'.cell? ⟨(ad322.add ((x5_1).toNat * 6)).block, (ad322.add ((x5_1).toNat * 6)).off + 2, none⟩ = some (.int .i64 ((rd_T39 l0 x5_1).f2)) ∧ w'.cell? ⟨(ad322.add ((x5_1).toNat * 6)).block, (ad322.add ((x5_1).toNat * 6)).off + 3, none⟩ = some (.bool ((rd_T39 l0 x5_1).f3)) ∧ w'.cell? ⟨(ad322.add ((x5_1).toNat * 6)).block, (ad322.add ((x5_1).toNat * 6)).off + 4, none⟩ = some (.int .u64 ((rd_T39 l0 x5_1).f4)) ∧ w'.cell? ⟨(ad322.add ((x5_1).toNat * 6)).block, (ad322.add ((x5_1).toNat * 6)).off + 5, none⟩ = some (.slice A322_5 ((rd_T39 l0 x5_1).f5).length c322_5) ∧ w'.cell? (ad323.add ((x5_1).toNat * 6)) = some (.int .i64 ((rd_T39 l1 x5_1).f0)) ∧ w'.cell? ⟨(ad323.add ((x5_1).toNat * 6)).block, (ad323.add ((x5_1).toNat * 6)).off + 1, none⟩ = some (.int .i64 ((rd_T39 l1 x5_1).f1)) ∧ w'.cell? ⟨(ad323.add ((x5_1).toNat * 6)).block, (ad323.add ((x5_1).toNat * 6)).off + 2, none⟩ = some (.int .i64 ((rd_T39 l1 x5_1).f2)) ∧ w'.cell? ⟨(ad323.add ((x5_1).toNat * 6)).block, (ad323.add ((x5_1).toNat * 6)).off + 3, none⟩ = some (.bool ((rd_T39 l1 x5_1).f3)) ∧ w'.cell? ⟨(ad323.add ((x5_1).toNat * 6)).block, (ad323.add ((x5_1).toNat * 6)).off + 4, none⟩ = some (.int .u64 ((rd_T39 l1 x5_1).f4)) ∧ w'.cell? ⟨(ad323.add ((x5_1).toNat * 6)).block, (ad323.add ((x5_1).toNat * 6)).off + 5, none⟩ = some (.slice A323_5 ((rd_T39 l1 x5_1).f5).length c323_5)) ∧ (w'.heap[s_.1]? = some (.cells #[.int .i64 0, .int .i64 0, .int .i64 0, .bool false, .int .u64 0, .slice none 0 0] 39 (0, 0))) ∧ (w'.heap[s_.2]? = some (.cells #[.int .i64 0, .int .i64 0, .int .i64 0, .bool false, .int .u64 0, .slice none 0 0] 39 (0, 0))) ∧ (w.heap.size ≤ s_.1) ∧ (w.heap.size ≤ s_.1) ∧ (s_.2 ≠ s_.1) ∧ (s_.1 ≠ s_.2) ∧ (w.heap.size ≤ s_.2) ∧ (w.heap.size ≤ s_.2) ∧ (Below w.heap.size w w')) ?_ ?_
 rotate_left
 ·intro hCont
  refine two_ (i := 8) (j := 9) (Ni := some 6) (Nj := some 7) #[true, true, true, true, true, true, true, true, true, false, false, false] #[true, true, true, true, true, true, true, true, false, true, false, false] rfl rfl rfl rfl (two_of HT_.out (by kernel_rfl)) (by decide) (by decide) (fun K hK => ?_) (fun K hK => ?_)
  ·skip
   refine box_step ?hg (N := 6) ?hd (cs := #[.int .i64 0, .int .i64 0, .int .i64 0, .bool false, .int .u64 0, .slice none 0 0]) (t := 39) ?hr ?_; (case hd => rfl); (case hg => rfl); (case hr => first | (go_simp; done) | (go_simp; rfl))
   intro gb324 hg w12 hbox hb
   have BK324 := Aside0.mk (hbox)
   have GW324 := Aside0.mk ((by rw [hg]; exact (below_size bB) : w.heap.size ≤ gb324))
   have GE324 := Aside0.mk ((by rw [hg]; exact (below_size bB) : w.heap.size ≤ gb324))
   replace HB := Aside0.mk (below_step bB hb)
   clear hb hbox hg
   refine hK.out _ _ ⟨((HB.out.cell (World.block_lt_of_cell? w _ hw322_0)).trans hw322_0), ((HB.out.cell (World.block_lt_of_cell? w _ hw322_1)).trans hw322_1), ((HB.out.cell (World.block_lt_of_cell? w _ hw322_2)).trans hw322_2), ((HB.out.cell (World.block_lt_of_cell? w _ hw322_3)).trans hw322_3), ((HB.out.cell (World.block_lt_of_cell? w _ hw322_4)).trans hw322_4), ((HB.out.cell (World.block_lt_of_cell? w _ hw322_5)).trans hw322_5), ((HB.out.cell (World.block_lt_of_cell? w _ hw323_0)).trans hw323_0), ((HB.out.cell (World.block_lt_of_cell? w _ hw323_1)).trans hw323_1), ((HB.out.cell (World.block_lt_of_cell? w _ hw323_2)).trans hw323_2), ((HB.out.cell (World.block_lt_of_cell? w _ hw323_3)).trans hw323_3), ((HB.out.cell (World.block_lt_of_cell? w _ hw323_4)).trans hw323_4), ((HB.out.cell (World.block_lt_of_cell? w _ hw323_5)).trans hw323_5)⟩ (fun hHeld => ?_)
   clear hK K
   refine nS 6 ?_
   refine one_ (i := 9) (N := some 7) #[true, true, true, true, true, true, true, true, true, true, false, false] rfl rfl (one_of HT_.out (by kernel_rfl)) (by decide) (fun K hK => ?_)
   refine box_step ?hg (N := 7) ?hd (cs := #[.int .i64 0, .int .i64 0, .int .i64 0, .bool false, .int .u64 0, .slice none 0 0]) (t := 39) ?hr ?_; (case hd => rfl); (case hg => rfl); (case hr => first | (go_simp; done) | (go_simp; rfl))
   intro gb325 hg w13 hbox hb
   have BK325 := Aside0.mk (hbox)
   have GW325 := Aside0.mk ((by rw [hg]; exact (below_size bB) : w.heap.size ≤ gb325))
   have GE325 := Aside0.mk ((by rw [hg]; exact (below_size bB) : w.heap.size ≤ gb325))
   replace HB := Aside0.mk (below_step bB hb)
   have NB324_325 := Aside0.mk (nbL (bw BK324.out) hg : gb324 ≠ gb325)
   have NB325_324 := Aside0.mk (nbL (bw BK324.out) hg : gb324 ≠ gb325).symm
   replace BK324 := Aside0.mk (blk_below (g := gb324) (o := .cells #[.int .i64 0, .int .i64 0, .int .i64 0, .bool false, .int .u64 0, .slice none 0 0] 39 (0, 0)) (bw BK324.out) hb)
   clear hb hbox hg
   refine hK.out _ _ ⟨((HB.out.cell (World.block_lt_of_cell? w _ hw322_0)).trans hw322_0), ((HB.out.cell (World.block_lt_of_cell? w _ hw322_1)).trans hw322_1), ((HB.out.cell (World.block_lt_of_cell? w _ hw322_2)).trans hw322_2), ((HB.out.cell (World.block_lt_of_cell? w _ hw322_3)).trans hw322_3), ((HB.out.cell (World.block_lt_of_cell? w _ hw322_4)).trans hw322_4), ((HB.out.cell (World.block_lt_of_cell? w _ hw322_5)).trans hw322_5), ((HB.out.cell (World.block_lt_of_cell? w _ hw323_0)).trans hw323_0), ((HB.out.cell (World.block_lt_of_cell? w _ hw323_1)).trans hw323_1), ((HB.out.cell (World.block_lt_of_cell? w _ hw323_2)).trans hw323_2), ((HB.out.cell (World.block_lt_of_cell? w _ hw323_3)).trans hw323_3), ((HB.out.cell (World.block_lt_of_cell? w _ hw323_4)).trans hw323_4), ((HB.out.cell (World.block_lt_of_cell? w _ hw323_5)).trans hw323_5)⟩ (fun hHeld => ?_)
   clear hK K
   refine nS 7 ?_
   exact norm_ (by simp only [putAll, Act.put, List.setIfInBounds_toArray, List.set_cons_zero, List.set_cons_succ]) (hCont (gb324, gb325) _ ⟨hHeld, (bw BK324.out), (bw BK325.out), GW324.out, GE324.out, NB325_324.out, NB324_325.out, GW325.out, GE325.out, bB⟩)
  skip
  refine box_step ?hg (N := 7) ?hd (cs := #[.int .i64 0, .int .i64 0, .int .i64 0, .bool false, .int .u64 0, .slice none 0 0]) (t := 39) ?hr ?_; (case hd => rfl); (case hg => rfl); (case hr => first | (go_simp; done) | (go_simp; rfl))
  intro gb325 hg w12 hbox hb
  have BK325 := Aside0.mk (hbox)
  have GW325 := Aside0.mk ((by rw [hg]; exact (below_size bB) : w.heap.size ≤ gb325))
  have GE325 := Aside0.mk ((by rw [hg]; exact (below_size bB) : w.heap.size ≤ gb325))
  replace HB := Aside0.mk (below_step bB hb)
  clear hb hbox hg
  refine hK.out _ _ ⟨((HB.out.cell (World.block_lt_of_cell? w _ hw322_0)).trans hw322_0), ((HB.out.cell (World.block_lt_of_cell? w _ hw322_1)).trans hw322_1), ((HB.out.cell (World.block_lt_of_cell? w _ hw322_2)).trans hw322_2), ((HB.out.cell (World.block_lt_of_cell? w _ hw322_3)).trans hw322_3), ((HB.out.cell (World.block_lt_of_cell? w _ hw322_4)).trans hw322_4), ((HB.out.cell (World.block_lt_of_cell? w _ hw322_5)).trans hw322_5), ((HB.out.cell (World.block_lt_of_cell? w _ hw323_0)).trans hw323_0), ((HB.out.cell (World.block_lt_of_cell? w _ hw323_1)).trans hw323_1), ((HB.out.cell (World.block_lt_of_cell? w _ hw323_2)).trans hw323_2), ((HB.out.cell (World.block_lt_of_cell? w _ hw323_3)).trans hw323_3), ((HB.out.cell (World.block_lt_of_cell? w _ hw323_4)).trans hw323_4), ((HB.out.cell (World.block_lt_of_cell? w _ hw323_5)).trans hw323_5)⟩ (fun hHeld => ?_)
  clear hK K
  refine nS 7 ?_
  refine one_ (i := 8) (N := some 6) #[true, true, true, true, true, true, true, true, true, true, false, false] rfl rfl (one_of HT_.out (by kernel_rfl)) (by decide) (fun K hK => ?_)
  refine box_step ?hg (N := 6) ?hd (cs := #[.int .i64 0, .int .i64 0, .int .i64 0, .bool false, .int .u64 0, .slice none 0 0]) (t := 39) ?hr ?_; (case hd => rfl); (case hg => rfl); (case hr => first | (go_simp; done) | (go_simp; rfl))
  intro gb324 hg w13 hbox hb
  have BK324 := Aside0.mk (hbox)
  have GW324 := Aside0.mk ((by rw [hg]; exact (below_size bB) : w.heap.size ≤ gb324))
  have GE324 := Aside0.mk ((by rw [hg]; exact (below_size bB) : w.heap.size ≤ gb324))
  replace HB := Aside0.mk (below_step bB hb)
  have NB325_324 := Aside0.mk (nbL (bw BK325.out) hg : gb325 ≠ gb324)
  have NB324_325 := Aside0.mk (nbL (bw BK325.out) hg : gb325 ≠ gb324).symm
  replace BK325 := Aside0.mk (blk_below (g := gb325) (o := .cells #[.int .i64 0, .int .i64 0, .int .i64 0, .bool false, .int .u64 0, .slice none 0 0] 39 (0, 0)) (bw BK325.out) hb)
  clear hb hbox hg
  refine hK.out _ _ ⟨((HB.out.cell (World.block_lt_of_cell? w _ hw322_0)).trans hw322_0), ((HB.out.cell (World.block_lt_of_cell? w _ hw322_1)).trans hw322_1), ((HB.out.cell (World.block_lt_of_cell? w _ hw322_2)).trans hw322_2), ((HB.out.cell (World.block_lt_of_cell? w _ hw322_3)).trans hw322_3), ((HB.out.cell (World.block_lt_of_cell? w _ hw322_4)).trans hw322_4), ((HB.out.cell (World.block_lt_of_cell? w _ hw322_5)).trans hw322_5), ((HB.out.cell (World.block_lt_of_cell? w _ hw323_0)).trans hw323_0), ((HB.out.cell (World.block_lt_of_cell? w _ hw323_1)).trans hw323_1), ((HB.out.cell (World.block_lt_of_cell? w _ hw323_2)).trans hw323_2), ((HB.out.cell (World.block_lt_of_cell? w _ hw323_3)).trans hw323_3), ((HB.out.cell (World.block_lt_of_cell? w _ hw323_4)).trans hw323_4), ((HB.out.cell (World.block_lt_of_cell? w _ hw323_5)).trans hw323_5)⟩ (fun hHeld => ?_)
  clear hK K
  refine nS 6 ?_
  exact norm_ (by simp only [putAll, Act.put, List.setIfInBounds_toArray, List.set_cons_zero, List.set_cons_succ]) (hCont (gb324, gb325) _ ⟨hHeld, (bw BK324.out), (bw BK325.out), GW324.out, GE324.out, NB325_324.out, NB324_325.out, GW325.out, GE325.out, bB⟩)
 rintro ⟨gb324, gb325⟩ w14 ⟨hS_, h0_, h1_, h2_, h3_, h4_, h5_, h6_, h7_, h8_⟩
 have BK324 : Aside0 (w14.heap[gb324]? = some (.cells #[.int .i64 0, .int .i64 0, .int .i64 0, .bool false, .int .u64 0, .slice none 0 0] 39 (0, 0))) := ⟨h0_⟩
 have BK325 : Aside0 (w14.heap[gb325]? = some (.cells #[.int .i64 0, .int .i64 0, .int .i64 0, .bool false, .int .u64 0, .slice none 0 0] 39 (0, 0))) := ⟨h1_⟩
 have GW324 : Aside0 (w.heap.size ≤ gb324) := ⟨h2_⟩
 have GE324 : Aside0 (w.heap.size ≤ gb324) := ⟨h3_⟩
 have NB325_324 : Aside0 (gb325 ≠ gb324) := ⟨h4_⟩
 have NB324_325 : Aside0 (gb324 ≠ gb325) := ⟨h5_⟩
 have GW325 : Aside0 (w.heap.size ≤ gb325) := ⟨h6_⟩
 have GE325 : Aside0 (w.heap.size ≤ gb325) := ⟨h7_⟩
 replace HB : Aside0 (Below w.heap.size w w14) := ⟨h8_⟩
 clear h0_ h1_ h2_ h3_ h4_ h5_ h6_ h7_ h8_
 have hHeld : w14.cell? (ad322.add ((x5_1).toNat * 6)) = some (.int .i64 ((rd_T39 l0 x5_1).f0)) ∧ w14.cell? ⟨(ad322.add ((x5_1).toNat * 6)).block, (ad322.add ((x5_1).toNat * 6)).off + 1, none⟩ = some (.int .i64 ((rd_T39 l0 x5_1).f1)) ∧ w14.cell? ⟨(ad322.add ((x5_1).toNat * 6)).block, (ad322.add ((x5_1).toNat * 6)).off + 2, none⟩ = some (.int .i64 ((rd_T39 l0 x5_1).f2)) ∧ w14.cell? ⟨(ad322.add ((x5_1).toNat * 6)).block, (ad322.add ((x5_1).toNat * 6)).off + 3, none⟩ = some (.bool ((rd_T39 l0 x5_1).f3)) ∧ w14.cell? ⟨(ad322.add ((x5_1).toNat * 6)).block, (ad322.add ((x5_1).toNat * 6)).off + 4, none⟩ = some (.int .u64 ((rd_T39 l0 x5_1).f4)) ∧ w14.cell? ⟨(ad322.add ((x5_1).toNat * 6)).block, (ad322.add ((x5_1).toNat * 6)).off + 5, none⟩ = some (.slice A322_5 ((rd_T39 l0 x5_1).f5).length c322_5) ∧ w14.cell? (ad323.add ((x5_1).toNat * 6)) = some (.int .i64 ((rd_T39 l1 x5_1).f0)) ∧ w14.cell? ⟨(ad323.add ((x5_1).toNat * 6)).block, (ad323.add ((x5_1).toNat * 6)).off + 1, none⟩ = some (.int .i64 ((rd_T39 l1 x5_1).f1)) ∧ w14.cell? ⟨(ad323.add ((x5_1).toNat * 6)).block, (ad323.add ((x5_1).toNat * 6)).off + 2, none⟩ = some (.int .i64 ((rd_T39 l1 x5_1).f2)) ∧ w14.cell? ⟨(ad323.add ((x5_1).toNat * 6)).block, (ad323.add ((x5_1).toNat * 6)).off + 3, none⟩ = some (.bool ((rd_T39 l1 x5_1).f3)) ∧ w14.cell? ⟨(ad323.add ((x5_1).toNat * 6)).block, (ad323.add ((x5_1).toNat * 6)).off + 4, none⟩ = some (.int .u64 ((rd_T39 l1 x5_1).f4)) ∧ w14.cell? ⟨(ad323.add ((x5_1).toNat * 6)).block, (ad323.add ((x5_1).toNat * 6)).off + 5, none⟩ = some (.slice A323_5 ((rd_T39 l1 x5_1).f5).length c323_5) := hS_
 refine norm_ (a' := ?_) ?_ ?_
 rotate_left
 ·simp only [putAll, Act.put, List.setIfInBounds_toArray, List.set_cons_zero, List.set_cons_succ]
  rfl
 refine one_ (i := 10) (N := none) #[true, true, true, true, true, true, true, true, true, true, true, false] rfl rfl (one_of HT_.out (by kernel_rfl)) (by decide) (fun K hK => ?_)
 have hs15 : w14.cell? ⟨gb324, 0, none⟩ = some (.int .i64 0) := (blk_cell BK324.out 0).trans rfl
 have hfs15 := blk_frozen BK324.out 0
 have hns15_1 := NB325_324.out
 have hms15_1 := NB324_325.out
 have hs16 : w14.cell? ⟨gb324, 1, none⟩ = some (.int .i64 0) := (blk_cell BK324.out 1).trans rfl
 have hfs16 := blk_frozen BK324.out 1
 have hns16_1 := NB325_324.out
 have hms16_1 := NB324_325.out
 have hs17 : w14.cell? ⟨gb324, 2, none⟩ = some (.int .i64 0) := (blk_cell BK324.out 2).trans rfl
 have hfs17 := blk_frozen BK324.out 2
 have hns17_1 := NB325_324.out
 have hms17_1 := NB324_325.out
 have hs18 : w14.cell? ⟨gb324, 3, none⟩ = some (.bool false) := (blk_cell BK324.out 3).trans rfl
 have hfs18 := blk_frozen BK324.out 3
 have hns18_1 := NB325_324.out
 have hms18_1 := NB324_325.out
 have hs19 : w14.cell? ⟨gb324, 4, none⟩ = some (.int .u64 0) := (blk_cell BK324.out 4).trans rfl
 have hfs19 := blk_frozen BK324.out 4
 have hns19_1 := NB325_324.out
 have hms19_1 := NB324_325.out
 have hs20 : w14.cell? ⟨gb324, 5, none⟩ = some (.slice none 0 0) := (blk_cell BK324.out 5).trans rfl
 have hfs20 := blk_frozen BK324.out 5
 have hns20_1 := NB325_324.out
 have hms20_1 := NB324_325.out
 refine skip_ (w1 := ?_) (by rfl) rfl ?_ ?_
 rotate_left
 ·go_simp
  rfl
 refine hK.out _ _ ⟨(far6 hHeld.1 (by have := cfA hw322_0 GW324.out; first | rwa [add_block] at this | exact this)), (far6 hHeld.2.1 (by have := cfA hw322_1 GW324.out; first | rwa [add_block] at this | exact this)), (far6 hHeld.2.2.1 (by have := cfA hw322_2 GW324.out; first | rwa [add_block] at this | exact this)), (far6 hHeld.2.2.2.1 (by have := cfA hw322_3 GW324.out; first | rwa [add_block] at this | exact this)), (far6 hHeld.2.2.2.2.1 (by have := cfA hw322_4 GW324.out; first | rwa [add_block] at this | exact this)), (far6 hHeld.2.2.2.2.2.1 (by have := cfA hw322_5 GW324.out; first | rwa [add_block] at this | exact this)), (far6 hHeld.2.2.2.2.2.2.1 (by have := cfA hw323_0 GW324.out; first | rwa [add_block] at this | exact this)), (far6 hHeld.2.2.2.2.2.2.2.1 (by have := cfA hw323_1 GW324.out; first | rwa [add_block] at this | exact this)), (far6 hHeld.2.2.2.2.2.2.2.2.1 (by have := cfA hw323_2 GW324.out; first | rwa [add_block] at this | exact this)), (far6 hHeld.2.2.2.2.2.2.2.2.2.1 (by have := cfA hw323_3 GW324.out; first | rwa [add_block] at this | exact this)), (far6 hHeld.2.2.2.2.2.2.2.2.2.2.1 (by have := cfA hw323_4 GW324.out; first | rwa [add_block] at this | exact this)), (far6 hHeld.2.2.2.2.2.2.2.2.2.2.2 (by have := cfA hw323_5 GW324.out; first | rwa [add_block] at this | exact this))⟩ (fun hHeld => ?_)
 clear hK K
 refine one_ (i := 11) (N := none) #[true, true, true, true, true, true, true, true, true, true, true, true] rfl rfl (one_of HT_.out (by kernel_rfl)) (by decide) (fun K hK => ?_)
 have hs21 : w14.cell? ⟨gb325, 0, none⟩ = some (.int .i64 0) := (blk_cell BK325.out 0).trans rfl
 have hfs21 := blk_frozen BK325.out 0
 have hns21_0 := NB324_325.out
 have hms21_0 := NB325_324.out
 have hs22 : w14.cell? ⟨gb325, 1, none⟩ = some (.int .i64 0) := (blk_cell BK325.out 1).trans rfl
 have hfs22 := blk_frozen BK325.out 1
 have hns22_0 := NB324_325.out
 have hms22_0 := NB325_324.out
 have hs23 : w14.cell? ⟨gb325, 2, none⟩ = some (.int .i64 0) := (blk_cell BK325.out 2).trans rfl
 have hfs23 := blk_frozen BK325.out 2
 have hns23_0 := NB324_325.out
 have hms23_0 := NB325_324.out
 have hs24 : w14.cell? ⟨gb325, 3, none⟩ = some (.bool false) := (blk_cell BK325.out 3).trans rfl
 have hfs24 := blk_frozen BK325.out 3
 have hns24_0 := NB324_325.out
 have hms24_0 := NB325_324.out
 have hs25 : w14.cell? ⟨gb325, 4, none⟩ = some (.int .u64 0) := (blk_cell BK325.out 4).trans rfl
 have hfs25 := blk_frozen BK325.out 4
 have hns25_0 := NB324_325.out
 have hms25_0 := NB325_324.out
 have hs26 : w14.cell? ⟨gb325, 5, none⟩ = some (.slice none 0 0) := (blk_cell BK325.out 5).trans rfl
 have hfs26 := blk_frozen BK325.out 5
 have hns26_0 := NB324_325.out
 have hms26_0 := NB325_324.out
 refine skip_ (w1 := ?_) (by rfl) rfl ?_ ?_
 rotate_left
 ·go_simp
  rfl
 refine hK.out _ _ ⟨(far6 hHeld.1 (by have := cfA hw322_0 GW325.out; first | rwa [add_block] at this | exact this)), (far6 hHeld.2.1 (by have := cfA hw322_1 GW325.out; first | rwa [add_block] at this | exact this)), (far6 hHeld.2.2.1 (by have := cfA hw322_2 GW325.out; first | rwa [add_block] at this | exact this)), (far6 hHeld.2.2.2.1 (by have := cfA hw322_3 GW325.out; first | rwa [add_block] at this | exact this)), (far6 hHeld.2.2.2.2.1 (by have := cfA hw322_4 GW325.out; first | rwa [add_block] at this | exact this)), (far6 hHeld.2.2.2.2.2.1 (by have := cfA hw322_5 GW325.out; first | rwa [add_block] at this | exact this)), (far6 hHeld.2.2.2.2.2.2.1 (by have := cfA hw323_0 GW325.out; first | rwa [add_block] at this | exact this)), (far6 hHeld.2.2.2.2.2.2.2.1 (by have := cfA hw323_1 GW325.out; first | rwa [add_block] at this | exact this)), (far6 hHeld.2.2.2.2.2.2.2.2.1 (by have := cfA hw323_2 GW325.out; first | rwa [add_block] at this | exact this)), (far6 hHeld.2.2.2.2.2.2.2.2.2.1 (by have := cfA hw323_3 GW325.out; first | rwa [add_block] at this | exact this)), (far6 hHeld.2.2.2.2.2.2.2.2.2.2.1 (by have := cfA hw323_4 GW325.out; first | rwa [add_block] at this | exact this)), (far6 hHeld.2.2.2.2.2.2.2.2.2.2.2 (by have := cfA hw323_5 GW325.out; first | rwa [add_block] at this | exact this))⟩ (fun hHeld => ?_)
 clear hK K
 refine done_ (done_of HT_.out (by kernel_rfl)) ?_
 have hnb27 := NB324_325.out
 have hnc27 := NB325_324.out
 obtain ⟨hcz28_0, hcz28_1, hcz28_2, hcz28_3, hcz28_4, hcz28_5⟩ := cZ6 BK324.out
 obtain ⟨hfz28_0, hfz28_1, hfz28_2, hfz28_3, hfz28_4, hfz28_5⟩ := fZ6 BK324.out
 obtain ⟨hcz29_0, hcz29_1, hcz29_2, hcz29_3, hcz29_4, hcz29_5⟩ := cZ6 BK325.out
 obtain ⟨hfz29_0, hfz29_1, hfz29_2, hfz29_3, hfz29_4, hfz29_5⟩ := fZ6 BK325.out
 have H := H0_.out
 clear H0_
 by_cases c7 : ((rd_T39 l0 x5_1).f0) = ((rd_T39 l1 x5_1).f0)
 rotate_left
 ·rw [if_neg c7] at H
  have c7b0 : (((rd_T39 l0 x5_1).f0) == ((rd_T39 l1 x5_1).f0)) = false := beq_eq_false_iff_ne.mpr c7
  have c7b1 : (((rd_T39 l0 x5_1).f0) != ((rd_T39 l1 x5_1).f0)) = true := bne_iff_ne.mpr c7
  obtain rfl := Option.some.inj H
  try go_wp2
  go_ret
  exact ⟨by first | rfl | (simp [errW_none, errW_some] <;> rfl) | (simp [*, errW_none, errW_some] <;> rfl), by exact bB⟩
 rw [if_pos c7] at H
 have c7b0 : (((rd_T39 l0 x5_1).f0) == ((rd_T39 l1 x5_1).f0)) = true := beq_iff_eq.mpr c7
 have c7b1 : (((rd_T39 l0 x5_1).f0) != ((rd_T39 l1 x5_1).f0)) = false := bne_eq_false_iff_eq.mpr c7
 clear c7
 by_cases c8 : ((rd_T39 l0 x5_1).f1) = ((rd_T39 l1 x5_1).f1)
 rotate_left
 ·rw [if_neg c8] at H
  have c8b0 : (((rd_T39 l0 x5_1).f1) == ((rd_T39 l1 x5_1).f1)) = false := beq_eq_false_iff_ne.mpr c8
  have c8b1 : (((rd_T39 l0 x5_1).f1) != ((rd_T39 l1 x5_1).f1)) = true := bne_iff_ne.mpr c8
  obtain rfl := Option.some.inj H
  try go_wp2
  go_ret
  exact ⟨by first | rfl | (simp [errW_none, errW_some] <;> rfl) | (simp [*, errW_none, errW_some] <;> rfl), by exact bB⟩
 rw [if_pos c8] at H
 have c8b0 : (((rd_T39 l0 x5_1).f1) == ((rd_T39 l1 x5_1).f1)) = true := beq_iff_eq.mpr c8
 have c8b1 : (((rd_T39 l0 x5_1).f1) != ((rd_T39 l1 x5_1).f1)) = false := bne_eq_false_iff_eq.mpr c8
 clear c8
 by_cases c9 : ((rd_T39 l0 x5_1).f2) = ((rd_T39 l1 x5_1).f2)
 rotate_left
 ·rw [if_neg c9] at H
  have c9b0 : (((rd_T39 l0 x5_1).f2) == ((rd_T39 l1 x5_1).f2)) = false := beq_eq_false_iff_ne.mpr c9
  have c9b1 : (((rd_T39 l0 x5_1).f2) != ((rd_T39 l1 x5_1).f2)) = true := bne_iff_ne.mpr c9
  obtain rfl := Option.some.inj H
  try go_wp2
  go_ret
  exact ⟨by first | rfl | (simp [errW_none, errW_some] <;> rfl) | (simp [*, errW_none, errW_some] <;> rfl), by exact bB⟩
 rw [if_pos c9] at H
 have c9b0 : (((rd_T39 l0 x5_1).f2) == ((rd_T39 l1 x5_1).f2)) = true := beq_iff_eq.mpr c9
 have c9b1 : (((rd_T39 l0 x5_1).f2) != ((rd_T39 l1 x5_1).f2)) = false := bne_eq_false_iff_eq.mpr c9
 clear c9
 by_cases c10 : (((rd_T39 l0 x5_1).f3) != ((rd_T39 l1 x5_1).f3)) = true
 ·rw [if_pos c10] at H
  have c10b0 : (((rd_T39 l0 x5_1).f3) != ((rd_T39 l1 x5_1).f3)) = true := c10
  (try (have c10b1 : decide (((rd_T39 l0 x5_1).f3) = ((rd_T39 l1 x5_1).f3)) = false := by simpa using c10))
  (try (have c10b2 : (((rd_T39 l0 x5_1).f3) == ((rd_T39 l1 x5_1).f3)) = false := by simpa using c10))
  (try (have c10b3 : ¬ (((rd_T39 l0 x5_1).f3) = ((rd_T39 l1 x5_1).f3)) := by simpa using c10))
  clear c10
  obtain rfl := Option.some.inj H
  try go_wp2
  go_ret
  exact ⟨by first | rfl | (simp [errW_none, errW_some] <;> rfl) | (simp [*, errW_none, errW_some] <;> rfl), by exact bB⟩
 rw [if_neg c10] at H
 have c10b0 : (((rd_T39 l0 x5_1).f3) != ((rd_T39 l1 x5_1).f3)) = false := by simpa using c10
 (try (have c10b1 : decide (((rd_T39 l0 x5_1).f3) = ((rd_T39 l1 x5_1).f3)) = true := by simpa using c10))
 (try (have c10b2 : (((rd_T39 l0 x5_1).f3) == ((rd_T39 l1 x5_1).f3)) = true := by simpa using c10))
 clear c10
 by_cases c30 : ((rd_T39 l0 x5_1).f4) = ((rd_T39 l1 x5_1).f4)
 rotate_left
 ·rw [if_neg c30] at H
  have c30b0 : (((rd_T39 l0 x5_1).f4) == ((rd_T39 l1 x5_1).f4)) = false := beq_eq_false_iff_ne.mpr c30
  have c30b1 : (((rd_T39 l0 x5_1).f4) != ((rd_T39 l1 x5_1).f4)) = true := bne_iff_ne.mpr c30
  obtain rfl := Option.some.inj H
  try go_wp2
  go_ret
  exact ⟨by first | rfl | (simp [errW_none, errW_some] <;> rfl) | (simp [*, errW_none, errW_some] <;> rfl), by exact bB⟩
 rw [if_pos c30] at H
 have c30b0 : (((rd_T39 l0 x5_1).f4) == ((rd_T39 l1 x5_1).f4)) = true := beq_iff_eq.mpr c30
 have c30b1 : (((rd_T39 l0 x5_1).f4) != ((rd_T39 l1 x5_1).f4)) = false := bne_eq_false_iff_eq.mpr c30
 clear c30
 by_cases c31 : (strOfNums ((rd_T39 l0 x5_1).f5)).toList = (strOfNums ((rd_T39 l1 x5_1).f5)).toList
 rotate_left
 ·rw [if_neg c31] at H
  have c31b0 : ((strOfNums ((rd_T39 l0 x5_1).f5)).toList == (strOfNums ((rd_T39 l1 x5_1).f5)).toList) = false := beq_eq_false_iff_ne.mpr c31
  have c31b1 : ((strOfNums ((rd_T39 l0 x5_1).f5)).toList != (strOfNums ((rd_T39 l1 x5_1).f5)).toList) = true := bne_iff_ne.mpr c31
  obtain rfl := Option.some.inj H
  have HBs := below_set (g := gb325) (j := 5) (v := Value.slice A323_5 (rd_T39 l1 x5_1).f5.length c323_5) (below_set (g := gb325) (j := 4) (v := Value.int IntKind.u64 (rd_T39 l1 x5_1).f4) (below_set (g := gb325) (j := 3) (v := Value.bool (rd_T39 l1 x5_1).f3) (below_set (g := gb325) (j := 2) (v := Value.int IntKind.i64 (rd_T39 l1 x5_1).f2) (below_set (g := gb325) (j := 1) (v := Value.int IntKind.i64 (rd_T39 l1 x5_1).f1) (below_set (g := gb325) (j := 0) (v := Value.int IntKind.i64 (rd_T39 l1 x5_1).f0) (below_set (g := gb324) (j := 5) (v := Value.slice A322_5 (rd_T39 l0 x5_1).f5.length c322_5) (below_set (g := gb324) (j := 4) (v := Value.int IntKind.u64 (rd_T39 l0 x5_1).f4) (below_set (g := gb324) (j := 3) (v := Value.bool (rd_T39 l0 x5_1).f3) (below_set (g := gb324) (j := 2) (v := Value.int IntKind.i64 (rd_T39 l0 x5_1).f2) (below_set (g := gb324) (j := 1) (v := Value.int IntKind.i64 (rd_T39 l0 x5_1).f1) (below_set (g := gb324) (j := 0) (v := Value.int IntKind.i64 (rd_T39 l0 x5_1).f0) (HB.out) GE324.out) GE324.out) GE324.out) GE324.out) GE324.out) GE324.out) GE325.out) GE325.out) GE325.out) GE325.out) GE325.out) GE325.out
  have hcv72 := Kd.C_string (P := Tryd.prog) (A := A322_5) (c := c322_5) Tryd.underlying22 Tryd.underlying5 Tryd.underlying9 (Kd.C_below HR322_5.out HBs)
  have hcv73 := Kd.C_string (P := Tryd.prog) (A := A323_5) (c := c323_5) Tryd.underlying22 Tryd.underlying5 Tryd.underlying9 (Kd.C_below HR323_5.out HBs)
  try go_wp2
  go_ret
  exact ⟨by first | rfl | (simp [errW_none, errW_some] <;> rfl) | (simp [*, errW_none, errW_some] <;> rfl), by exact bB⟩
 rw [if_pos c31] at H
 have c31b0 : ((strOfNums ((rd_T39 l0 x5_1).f5)).toList == (strOfNums ((rd_T39 l1 x5_1).f5)).toList) = true := beq_iff_eq.mpr c31
 have c31b1 : ((strOfNums ((rd_T39 l0 x5_1).f5)).toList != (strOfNums ((rd_T39 l1 x5_1).f5)).toList) = false := bne_eq_false_iff_eq.mpr c31
 clear c31
 have H' := Aside0.mk H
 clear H
 have HBs := below_set (g := gb325) (j := 5) (v := Value.slice A323_5 (rd_T39 l1 x5_1).f5.length c323_5) (below_set (g := gb325) (j := 4) (v := Value.int IntKind.u64 (rd_T39 l1 x5_1).f4) (below_set (g := gb325) (j := 3) (v := Value.bool (rd_T39 l1 x5_1).f3) (below_set (g := gb325) (j := 2) (v := Value.int IntKind.i64 (rd_T39 l1 x5_1).f2) (below_set (g := gb325) (j := 1) (v := Value.int IntKind.i64 (rd_T39 l1 x5_1).f1) (below_set (g := gb325) (j := 0) (v := Value.int IntKind.i64 (rd_T39 l1 x5_1).f0) (below_set (g := gb324) (j := 5) (v := Value.slice A322_5 (rd_T39 l0 x5_1).f5.length c322_5) (below_set (g := gb324) (j := 4) (v := Value.int IntKind.u64 (rd_T39 l0 x5_1).f4) (below_set (g := gb324) (j := 3) (v := Value.bool (rd_T39 l0 x5_1).f3) (below_set (g := gb324) (j := 2) (v := Value.int IntKind.i64 (rd_T39 l0 x5_1).f2) (below_set (g := gb324) (j := 1) (v := Value.int IntKind.i64 (rd_T39 l0 x5_1).f1) (below_set (g := gb324) (j := 0) (v := Value.int IntKind.i64 (rd_T39 l0 x5_1).f0) (HB.out) GE324.out) GE324.out) GE324.out) GE324.out) GE324.out) GE324.out) GE325.out) GE325.out) GE325.out) GE325.out) GE325.out) GE325.out
 have hcv51 := Kd.C_string (P := Tryd.prog) (A := A322_5) (c := c322_5) Tryd.underlying22 Tryd.underlying5 Tryd.underlying9 (Kd.C_below HR322_5.out HBs)
 have hcv52 := Kd.C_string (P := Tryd.prog) (A := A323_5) (c := c323_5) Tryd.underlying22 Tryd.underlying5 Tryd.underlying9 (Kd.C_below HR323_5.out HBs)
 try go_wp2
 go_roundg k1
 case measure => have := HK1.out; omega
 case rel => exact ⟨(wrap64 (x5_1 + 1)), (by first | rfl | (simp; done) | (simp [*]; done)), H', ⟨by have := HK1.out; omega⟩, ⟨bB⟩⟩
end Go.Proofs.YtiikllgppmmiaaaDoor.OScriptReads
