/- What Go functions that the law TopoRight uses come to, and why: part 5. Made out of the kit's print by a program of this session (wip/tools/stub.py, splice.py), functions that it does not take told by hand. -/
import Derived.Test.YtkgfpagfmdefgaaOTopoRightx4
import Derived.Test.YtkgfpagfmdefgaaKeys
namespace Go.Proofs.Ytkgfpagfmdefgaa.OTopoRight
open Go.RowKit Go.Proofs.YtkgfpagfmdefgaaW.PrintWords Go.Proofs.YtkgfpagfmdefgaaW.PrintLast Go.Proofs.YtkgfpagfmdefgaaW.PrintMore
attribute [local go_sem] max2_int min2_int max_two min_two max_three min_three max_four min_four   -- for this text's walks alone
set_option linter.unusedVariables false
set_option linter.unusedSimpArgs false

/-! ### topo_Check: function 9 -/
mutual
def topo_Check.j0 : Nat → Bool → Int → List (S48) → List (List Int) → List (S59) → Option (Int)
  | 0, _, _, _, _, _ => none
  | k + 1, x11, x116000, x116001, x116002, x116003 => if x11 = true then (some 1) else (if (x116001.length : Int) > 6 then (some 4) else (if (x116003.length : Int) > 8 then (some 4) else (topo_Check.l0 k (([] : List Int)) x116001 (x116001.length : Int) 0 x116000 x116001 x116002 x116003)))
def topo_Check.l0 : Nat → List Int → List (S48) → Int → Int → Int → List (S48) → List (List Int) → List (S59) → Option (Int)
  | 0, _, _, _, _, _, _, _, _ => none
  | k + 1, x3, x48, x49, x50, x116000, x116001, x116002, x116003 => if x50 < x49 then (if 0 ≤ x50 then (if x50 < (x48.length : Int) then ((conf_Check.f k ((rd_T48 x48 x50).f0) ((rd_T48 x48 x50).f1) ((rd_T48 x48 x50).f2) ((rd_T48 x48 x50).f3) ((rd_T48 x48 x50).f4) ((rd_T48 x48 x50).f5) ((rd_T48 x48 x50).f6) ((rd_T48 x48 x50).f7)).bind fun t121 => (if t121 = 0 then (if Mk.mem ((rd_T48 x48 x50).f0) x3 = true then (some 9) else (if x3.length < 17592186044416 then (if x50 < (x116002.length : Int) then (if ((rd_L9 x116002 x50).length : Int) = (((rd_T48 x48 x50).f7).length : Int) then (topo_Check.l1 k (x3 ++ [(rd_T48 x48 x50).f0]) x48 x49 x50 (rd_L9 x116002 x50) ((rd_L9 x116002 x50).length : Int) 0 x116000 x116001 x116002 x116003) else (some 1)) else (none)) else (none))) else (some t121))) else (none)) else (none)) else (topo_Check.l2 k x3 x116003 (x116003.length : Int) 0 x116000 x116001 x116002 x116003)
def topo_Check.l1 : Nat → List Int → List (S48) → Int → Int → List Int → Int → Int → Int → List (S48) → List (List Int) → List (S59) → Option (Int)
  | 0, _, _, _, _, _, _, _, _, _, _, _ => none
  | k + 1, x3, x48, x49, x50, x81, x82, x83, x116000, x116001, x116002, x116003 => if x83 < x82 then (if 0 ≤ x83 then (if x83 < (x81.length : Int) then (if (rd x81 x83) < 0 then (some 8) else (if (rd x81 x83) ≥ x116000 then (some 8) else (topo_Check.l1 k x3 x48 x49 x50 x81 x82 (wrap64 (x83 + 1)) x116000 x116001 x116002 x116003))) else (none)) else (none)) else (topo_Check.l0 k x3 x48 x49 (wrap64 (x50 + 1)) x116000 x116001 x116002 x116003)
def topo_Check.l2 : Nat → List Int → List (S59) → Int → Int → Int → List (S48) → List (List Int) → List (S59) → Option (Int)
  | 0, _, _, _, _, _, _, _, _ => none
  | k + 1, x3, x98, x99, x100, x116000, x116001, x116002, x116003 => if x100 < x99 then (if 0 ≤ x100 then (if x100 < (x98.length : Int) then ((ids_Right.f ((rd_T59 x98 x100).f0)).bind fun t130 => (if t130 = true then (if Mk.mem ((rd_T59 x98 x100).f0) x3 = true then (some 9) else (if ((rd_T59 x98 x100).f1) < 0 then (some 8) else (if ((rd_T59 x98 x100).f1) ≥ x116000 then (some 8) else (if x3.length < 17592186044416 then (topo_Check.l2 k (x3 ++ [(rd_T59 x98 x100).f0]) x98 x99 (wrap64 (x100 + 1)) x116000 x116001 x116002 x116003) else (none))))) else (some 1))) else (none)) else (none)) else (some 0)
end
def topo_Check.g (k : Nat) (a0_0 : Int) (l0_1 : List (S48)) (l0_2 : List (List Int)) (l0_3 : List (S59)) : Option (Int) := if a0_0 < 1 then (topo_Check.j0 k true a0_0 l0_1 l0_2 l0_3) else (if a0_0 > 8 then (topo_Check.j0 k true a0_0 l0_1 l0_2 l0_3) else (if (l0_1.length : Int) = 0 then (topo_Check.j0 k true a0_0 l0_1 l0_2 l0_3) else (topo_Check.j0 k ((l0_2.length : Int) != (l0_1.length : Int)) a0_0 l0_1 l0_2 l0_3)))
theorem topo_Check.mono_l : ∀ k, (∀ y0 y1 y2 y3 y4, LeO (topo_Check.j0 k y0 y1 y2 y3 y4) (topo_Check.j0 (k + 1) y0 y1 y2 y3 y4)) ∧ (∀ y0 y1 y2 y3 y4 y5 y6 y7, LeO (topo_Check.l0 k y0 y1 y2 y3 y4 y5 y6 y7) (topo_Check.l0 (k + 1) y0 y1 y2 y3 y4 y5 y6 y7)) ∧ (∀ y0 y1 y2 y3 y4 y5 y6 y7 y8 y9 y10, LeO (topo_Check.l1 k y0 y1 y2 y3 y4 y5 y6 y7 y8 y9 y10) (topo_Check.l1 (k + 1) y0 y1 y2 y3 y4 y5 y6 y7 y8 y9 y10)) ∧ (∀ y0 y1 y2 y3 y4 y5 y6 y7, LeO (topo_Check.l2 k y0 y1 y2 y3 y4 y5 y6 y7) (topo_Check.l2 (k + 1) y0 y1 y2 y3 y4 y5 y6 y7))
  | 0 => ⟨fun _ _ _ _ _ r h => by simp [topo_Check.j0] at h, fun _ _ _ _ _ _ _ _ r h => by simp [topo_Check.l0] at h, fun _ _ _ _ _ _ _ _ _ _ _ r h => by simp [topo_Check.l1] at h, fun _ _ _ _ _ _ _ _ r h => by simp [topo_Check.l2] at h⟩
  | k + 1 => by
    obtain ⟨ih0, ih1, ih2, ih3⟩ := topo_Check.mono_l k
    refine ⟨?_, ?_, ?_, ?_⟩
    · intro y0 y1 y2 y3 y4
      unfold topo_Check.j0
      repeat' first
      | (with_reducible exact ih0 _ _ _ _ _)
      | (with_reducible exact ih1 _ _ _ _ _ _ _ _)
      | (with_reducible exact ih2 _ _ _ _ _ _ _ _ _ _ _)
      | (with_reducible exact ih3 _ _ _ _ _ _ _ _)
      | (with_reducible exact conf_Check.mono _ _ _ _ _ _ _ _ _)
      | (with_reducible exact LeO.refl _)
      | (with_reducible exact LeO.none _)
      | (with_reducible refine LeO.ite ?_ ?_)
      | (with_reducible refine LeO.bind ?_ (fun _ => ?_))
      | exact ih0 _ _ _ _ _
      | exact ih1 _ _ _ _ _ _ _ _
      | exact ih2 _ _ _ _ _ _ _ _ _ _ _
      | exact ih3 _ _ _ _ _ _ _ _
      | exact conf_Check.mono _ _ _ _ _ _ _ _ _
      | exact LeO.none _
      | refine LeO.ite ?_ ?_
      | refine LeO.bind ?_ (fun _ => ?_)
    · intro y0 y1 y2 y3 y4 y5 y6 y7
      unfold topo_Check.l0
      repeat' first
      | (with_reducible exact ih0 _ _ _ _ _)
      | (with_reducible exact ih1 _ _ _ _ _ _ _ _)
      | (with_reducible exact ih2 _ _ _ _ _ _ _ _ _ _ _)
      | (with_reducible exact ih3 _ _ _ _ _ _ _ _)
      | (with_reducible exact conf_Check.mono _ _ _ _ _ _ _ _ _)
      | (with_reducible exact LeO.refl _)
      | (with_reducible exact LeO.none _)
      | (with_reducible refine LeO.ite ?_ ?_)
      | (with_reducible refine LeO.bind ?_ (fun _ => ?_))
      | exact ih0 _ _ _ _ _
      | exact ih1 _ _ _ _ _ _ _ _
      | exact ih2 _ _ _ _ _ _ _ _ _ _ _
      | exact ih3 _ _ _ _ _ _ _ _
      | exact conf_Check.mono _ _ _ _ _ _ _ _ _
      | exact LeO.none _
      | refine LeO.ite ?_ ?_
      | refine LeO.bind ?_ (fun _ => ?_)
    · intro y0 y1 y2 y3 y4 y5 y6 y7 y8 y9 y10
      unfold topo_Check.l1
      repeat' first
      | (with_reducible exact ih0 _ _ _ _ _)
      | (with_reducible exact ih1 _ _ _ _ _ _ _ _)
      | (with_reducible exact ih2 _ _ _ _ _ _ _ _ _ _ _)
      | (with_reducible exact ih3 _ _ _ _ _ _ _ _)
      | (with_reducible exact conf_Check.mono _ _ _ _ _ _ _ _ _)
      | (with_reducible exact LeO.refl _)
      | (with_reducible exact LeO.none _)
      | (with_reducible refine LeO.ite ?_ ?_)
      | (with_reducible refine LeO.bind ?_ (fun _ => ?_))
      | exact ih0 _ _ _ _ _
      | exact ih1 _ _ _ _ _ _ _ _
      | exact ih2 _ _ _ _ _ _ _ _ _ _ _
      | exact ih3 _ _ _ _ _ _ _ _
      | exact conf_Check.mono _ _ _ _ _ _ _ _ _
      | exact LeO.none _
      | refine LeO.ite ?_ ?_
      | refine LeO.bind ?_ (fun _ => ?_)
    · intro y0 y1 y2 y3 y4 y5 y6 y7
      unfold topo_Check.l2
      repeat' first
      | (with_reducible exact ih0 _ _ _ _ _)
      | (with_reducible exact ih1 _ _ _ _ _ _ _ _)
      | (with_reducible exact ih2 _ _ _ _ _ _ _ _ _ _ _)
      | (with_reducible exact ih3 _ _ _ _ _ _ _ _)
      | (with_reducible exact conf_Check.mono _ _ _ _ _ _ _ _ _)
      | (with_reducible exact LeO.refl _)
      | (with_reducible exact LeO.none _)
      | (with_reducible refine LeO.ite ?_ ?_)
      | (with_reducible refine LeO.bind ?_ (fun _ => ?_))
      | exact ih0 _ _ _ _ _
      | exact ih1 _ _ _ _ _ _ _ _
      | exact ih2 _ _ _ _ _ _ _ _ _ _ _
      | exact ih3 _ _ _ _ _ _ _ _
      | exact conf_Check.mono _ _ _ _ _ _ _ _ _
      | exact LeO.none _
      | refine LeO.ite ?_ ?_
      | refine LeO.bind ?_ (fun _ => ?_)
theorem topo_Check.monog : ∀ a0 a1 a2 a3 k, LeO (topo_Check.g k a0 a1 a2 a3) (topo_Check.g (k + 1) a0 a1 a2 a3) := by
  intro a0 a1 a2 a3 k
  obtain ⟨ih0, ih1, ih2, ih3⟩ := topo_Check.mono_l k
  unfold topo_Check.g
  repeat' first
      | (with_reducible exact ih0 _ _ _ _ _)
      | (with_reducible exact ih1 _ _ _ _ _ _ _ _)
      | (with_reducible exact ih2 _ _ _ _ _ _ _ _ _ _ _)
      | (with_reducible exact ih3 _ _ _ _ _ _ _ _)
      | (with_reducible exact conf_Check.mono _ _ _ _ _ _ _ _ _)
      | (with_reducible exact LeO.refl _)
      | (with_reducible exact LeO.none _)
      | (with_reducible refine LeO.ite ?_ ?_)
      | (with_reducible refine LeO.bind ?_ (fun _ => ?_))
      | exact ih0 _ _ _ _ _
      | exact ih1 _ _ _ _ _ _ _ _
      | exact ih2 _ _ _ _ _ _ _ _ _ _ _
      | exact ih3 _ _ _ _ _ _ _ _
      | exact conf_Check.mono _ _ _ _ _ _ _ _ _
      | exact LeO.none _
      | refine LeO.ite ?_ ?_
      | refine LeO.bind ?_ (fun _ => ?_)
def topo_Check.f (k : Nat) (a0_0 : Int) (l0_1 : List (S48)) (l0_2 : List (List Int)) (l0_3 : List (S59)) : Option (Int) := if (l0_1.all fun s_ => decide (0 ≤ s_.f0 ∧ s_.f0 < 18446744073709551616)) = true ∧ (l0_3.all fun s_ => decide (0 ≤ s_.f0 ∧ s_.f0 < 18446744073709551616)) = true then topo_Check.g k a0_0 l0_1 l0_2 l0_3 else none
theorem topo_Check.mono : ∀ a0 a1 a2 a3 k, LeO (topo_Check.f k a0 a1 a2 a3) (topo_Check.f (k + 1) a0 a1 a2 a3) := by
  intro a0 a1 a2 a3 k
  unfold topo_Check.f
  split
  · exact topo_Check.monog _ _ _ _ k
  · intro r h; cases h
theorem key_S48 {xs : List S48} (h : (xs.all fun s_ => decide (0 ≤ s_.f0 ∧ s_.f0 < 18446744073709551616)) = true) {i : Int} (h0 : 0 ≤ i) (h1 : i < (xs.length : Int)) : (Lit.int .u64 (rd_T48 xs i).f0).wf = true := by
  have hm : rd_T48 xs i ∈ xs := by
    unfold rd_T48
    rw [List.getD_eq_getElem?_getD, List.getElem?_eq_getElem (show i.toNat < xs.length by omega)]
    exact List.getElem_mem _
  have := of_decide_eq_true (List.all_eq_true.1 h _ hm)
  simp [Lit.wf, IntKind.min, IntKind.max, IntKind.signed, IntKind.bits]
  omega
theorem key_S59 {xs : List S59} (h : (xs.all fun s_ => decide (0 ≤ s_.f0 ∧ s_.f0 < 18446744073709551616)) = true) {i : Int} (h0 : 0 ≤ i) (h1 : i < (xs.length : Int)) : (Lit.int .u64 (rd_T59 xs i).f0).wf = true := by
  have hm : rd_T59 xs i ∈ xs := by
    unfold rd_T59
    rw [List.getD_eq_getElem?_getD, List.getElem?_eq_getElem (show i.toNat < xs.length by omega)]
    exact List.getElem_mem _
  have := of_decide_eq_true (List.all_eq_true.1 h _ hm)
  simp [Lit.wf, IntKind.min, IntKind.max, IntKind.signed, IntKind.bits]
  omega

set_option maxHeartbeats 8000000 in
set_option maxRecDepth 100000 in
theorem topo_Check.calls (k : Nat) (a0_0 : Int) (A0_1 : Option Addr) (c0_1 : Nat) (l0_1 : List (S48)) (A0_2 : Option Addr) (c0_2 : Nat) (l0_2 : List (List Int)) (A0_3 : Option Addr) (c0_3 : Nat) (l0_3 : List (S59)) (r : Int) (w : World) (hr0_1 : Kd.C k48 w A0_1 l0_1.length l0_1) (hc0_1 : l0_1.length ≤ c0_1) (hr0_2 : Kd.C (Kd.slice 3 (Kd.int .i64)) w A0_2 l0_2.length l0_2) (hc0_2 : l0_2.length ≤ c0_2) (hr0_3 : Kd.C k59 w A0_3 l0_3.length l0_3) (hc0_3 : l0_3.length ≤ c0_3) (h : topo_Check.f k a0_0 l0_1 l0_2 l0_3 = some r) :
  Calls Try.prog 9 #[.agg #[.int .i64 a0_0, .slice A0_1 l0_1.length c0_1, .slice A0_2 l0_2.length c0_2, .slice A0_3 l0_3.length c0_3]] w fun e w' => e = .returned (.int .i64 r) ∧ Below w.heap.size w w' := by
 unfold topo_Check.f at h
 split at h
 case isFalse => cases h
 rename_i hwf_
 have HW_l0_1 := Aside0.mk hwf_.1
 have HW_l0_3 := Aside0.mk hwf_.2
 clear hwf_
 have hu26 := Try.underlying26
 have hu48 := Try.underlying48
 have hu59 := Try.underlying59
 have HR0_1 := Aside0.mk hr0_1
 have HC0_1 := Aside0.mk hc0_1
 clear hr0_1 hc0_1
 have HR0_2 := Aside0.mk hr0_2
 have HC0_2 := Aside0.mk hc0_2
 clear hr0_2 hc0_2
 have HR0_3 := Aside0.mk hr0_3
 have HC0_3 := Aside0.mk hc0_3
 clear hr0_3 hc0_3
 have HB := Aside0.mk (Below.refl w.heap.size w)
 have H : (if a0_0 < 1 then (topo_Check.j0 k true a0_0 l0_1 l0_2 l0_3) else (if a0_0 > 8 then (topo_Check.j0 k true a0_0 l0_1 l0_2 l0_3) else (if (l0_1.length : Int) = 0 then (topo_Check.j0 k true a0_0 l0_1 l0_2 l0_3) else (topo_Check.j0 k ((l0_2.length : Int) != (l0_1.length : Int)) a0_0 l0_1 l0_2 l0_3)))) = some r := h
 clear h
 have HC2 := Aside0.mk H
 clear H
 go_enter Try.func9, Try.ntmps9
 go_upto_region 1 with (first | ((with_reducible refine gate_dst (N := 1) rfl ?_); (try (refine gate_guard (by rfl) ?_; dsimp only)); refine box_event ?hg (N := 1) ?hd (cs := #[.int .i64 a0_0, .slice A0_1 l0_1.length c0_1, .slice A0_2 l0_2.length c0_2, .slice A0_3 l0_3.length c0_3]) (t := 26) ?hr ?_; (case hd => rfl); (case hg => rfl); (case hr => first | (go_simp; done) | (go_simp; rfl)); intro gb115 hg w3 hbox hb; have n0_ := Aside0.mk (below_step (by repeat (first | (with_reducible first | exact HB.out | apply below_alloc | apply pw_below_drewN | apply below_drew1) | exact HB.out)) hb); have n1_ := Aside0.mk (hbox); have n2_ := Aside0.mk ((by rw [hg]; exact (below_size (by repeat (first | (with_reducible first | exact HB.out | apply below_alloc | apply pw_below_drewN | apply below_drew1) | exact HB.out))) : w.heap.size ≤ gb115)); have n3_ := Aside0.mk ((by rw [hg]; exact (below_size (by repeat (first | (with_reducible first | exact HB.out | apply below_alloc | apply pw_below_drewN | apply below_drew1) | exact HB.out))) : w.heap.size ≤ gb115)); clear HB; have HB := n0_; have BK115 := n1_; have GW115 := n2_; have GE115 := n3_; clear n0_ n1_ n2_ n3_; clear hb hbox hg))
 (try simp only [Act.put, List.setIfInBounds_toArray, List.set_cons_zero, List.set_cons_succ])
 go_cut [11] (fun v11 wc => ∃ (kq : Nat) (x11_1 : Bool), v11 = .bool x11_1 ∧ Aside0 (topo_Check.j0 kq x11_1 a0_0 l0_1 l0_2 l0_3 = some r) ∧ Aside0 (kq ≤ k) ∧ Aside0 (wc.heap[gb115]? = some (.cells #[.int .i64 a0_0, (.slice A0_1 l0_1.length c0_1), (.slice A0_2 l0_2.length c0_2), (.slice A0_3 l0_3.length c0_3)] 26 (0, 0))) ∧ Aside0 (Below w.heap.size w wc))
 case first =>
  have H := HC2.out
  clear HC2
  by_cases c4 : a0_0 < 1
  ·rw [if_pos c4] at H
   have c4b0 : decide (a0_0 < 1) = true := decide_eq_true c4
   clear c4
   (first | rw [c4b0] | (simp only [i64_w, i32_w]; rw [c4b0]) | skip)
   have H' := Aside0.mk H
   clear H
   have hcz5_0 : w3.cell? ⟨gb115, 0, none⟩ = some (.int .i64 a0_0) := (blk_cell BK115.out 0).trans rfl
   have hcz5_1 : w3.cell? ⟨gb115, 1, none⟩ = some (.slice A0_1 l0_1.length c0_1) := (blk_cell BK115.out 1).trans rfl
   have hcz5_2 : w3.cell? ⟨gb115, 2, none⟩ = some (.slice A0_2 l0_2.length c0_2) := (blk_cell BK115.out 2).trans rfl
   have hcz5_3 : w3.cell? ⟨gb115, 3, none⟩ = some (.slice A0_3 l0_3.length c0_3) := (blk_cell BK115.out 3).trans rfl
   have hfz5_0 := blk_frozen BK115.out 0
   have hfz5_1 := blk_frozen BK115.out 1
   have hfz5_2 := blk_frozen BK115.out 2
   have hfz5_3 := blk_frozen BK115.out 3
   go_wp2
   go_meet
   case rel => exact ⟨_, (true), (by first | rfl | (simp; done) | (simp [*]; done)), H', ⟨by first | omega | exact Nat.le_refl _⟩, ⟨by (with_reducible repeat (first | refine blk_drewN ?_ _ | refine blk_drew ?_ | refine blk_alloc ?_ _)); exact BK115.out⟩, ⟨by repeat (first | (with_reducible first | exact HB.out | apply below_alloc | apply pw_below_drewN | apply below_drew1 | refine below_set ?_ GE115.out) | exact HB.out)⟩⟩
  rw [if_neg c4] at H
  have c4b0 : decide (a0_0 < 1) = false := decide_eq_false c4
  clear c4
  (first | rw [c4b0] | (simp only [i64_w, i32_w]; rw [c4b0]) | skip)
  by_cases c6 : a0_0 > 8
  ·rw [if_pos c6] at H
   have c6b0 : decide (8 < a0_0) = true := decide_eq_true c6
   clear c6
   have H' := Aside0.mk H
   clear H
   have hcz7_0 : w3.cell? ⟨gb115, 0, none⟩ = some (.int .i64 a0_0) := (blk_cell BK115.out 0).trans rfl
   have hcz7_1 : w3.cell? ⟨gb115, 1, none⟩ = some (.slice A0_1 l0_1.length c0_1) := (blk_cell BK115.out 1).trans rfl
   have hcz7_2 : w3.cell? ⟨gb115, 2, none⟩ = some (.slice A0_2 l0_2.length c0_2) := (blk_cell BK115.out 2).trans rfl
   have hcz7_3 : w3.cell? ⟨gb115, 3, none⟩ = some (.slice A0_3 l0_3.length c0_3) := (blk_cell BK115.out 3).trans rfl
   have hfz7_0 := blk_frozen BK115.out 0
   have hfz7_1 := blk_frozen BK115.out 1
   have hfz7_2 := blk_frozen BK115.out 2
   have hfz7_3 := blk_frozen BK115.out 3
   go_wp2
   go_meet
   case rel => exact ⟨_, (true), (by first | rfl | (simp; done) | (simp [*]; done)), H', ⟨by first | omega | exact Nat.le_refl _⟩, ⟨by (with_reducible repeat (first | refine blk_drewN ?_ _ | refine blk_drew ?_ | refine blk_alloc ?_ _)); exact BK115.out⟩, ⟨by repeat (first | (with_reducible first | exact HB.out | apply below_alloc | apply pw_below_drewN | apply below_drew1 | refine below_set ?_ GE115.out) | exact HB.out)⟩⟩
  rw [if_neg c6] at H
  have c6b0 : decide (8 < a0_0) = false := decide_eq_false c6
  clear c6
  by_cases c8 : (l0_1.length : Int) = 0
  ·rw [if_pos c8] at H
   have c8b0 : ((l0_1.length : Int) == 0) = true := beq_iff_eq.mpr c8
   have c8b1 : ((l0_1.length : Int) != 0) = false := bne_eq_false_iff_eq.mpr c8
   clear c8
   have H' := Aside0.mk H
   clear H
   have hcz9_0 : w3.cell? ⟨gb115, 0, none⟩ = some (.int .i64 a0_0) := (blk_cell BK115.out 0).trans rfl
   have hcz9_1 : w3.cell? ⟨gb115, 1, none⟩ = some (.slice A0_1 l0_1.length c0_1) := (blk_cell BK115.out 1).trans rfl
   have hcz9_2 : w3.cell? ⟨gb115, 2, none⟩ = some (.slice A0_2 l0_2.length c0_2) := (blk_cell BK115.out 2).trans rfl
   have hcz9_3 : w3.cell? ⟨gb115, 3, none⟩ = some (.slice A0_3 l0_3.length c0_3) := (blk_cell BK115.out 3).trans rfl
   have hfz9_0 := blk_frozen BK115.out 0
   have hfz9_1 := blk_frozen BK115.out 1
   have hfz9_2 := blk_frozen BK115.out 2
   have hfz9_3 := blk_frozen BK115.out 3
   go_wp2
   go_meet
   case rel => exact ⟨_, (true), (by first | rfl | (simp; done) | (simp [*]; done)), H', ⟨by first | omega | exact Nat.le_refl _⟩, ⟨by (with_reducible repeat (first | refine blk_drewN ?_ _ | refine blk_drew ?_ | refine blk_alloc ?_ _)); exact BK115.out⟩, ⟨by repeat (first | (with_reducible first | exact HB.out | apply below_alloc | apply pw_below_drewN | apply below_drew1 | refine below_set ?_ GE115.out) | exact HB.out)⟩⟩
  rw [if_neg c8] at H
  have c8b0 : ((l0_1.length : Int) == 0) = false := beq_eq_false_iff_ne.mpr c8
  have c8b1 : ((l0_1.length : Int) != 0) = true := bne_iff_ne.mpr c8
  have c8b2 : ¬ (l0_1 = []) := fun h_ => c8 (by rw [h_]; rfl)
  have H' := Aside0.mk H
  clear H
  have hcz10_0 : w3.cell? ⟨gb115, 0, none⟩ = some (.int .i64 a0_0) := (blk_cell BK115.out 0).trans rfl
  have hcz10_1 : w3.cell? ⟨gb115, 1, none⟩ = some (.slice A0_1 l0_1.length c0_1) := (blk_cell BK115.out 1).trans rfl
  have hcz10_2 : w3.cell? ⟨gb115, 2, none⟩ = some (.slice A0_2 l0_2.length c0_2) := (blk_cell BK115.out 2).trans rfl
  have hcz10_3 : w3.cell? ⟨gb115, 3, none⟩ = some (.slice A0_3 l0_3.length c0_3) := (blk_cell BK115.out 3).trans rfl
  have hfz10_0 := blk_frozen BK115.out 0
  have hfz10_1 := blk_frozen BK115.out 1
  have hfz10_2 := blk_frozen BK115.out 2
  have hfz10_3 := blk_frozen BK115.out 3
  go_wp2
  go_meet
  case rel => exact ⟨_, (((l0_2.length : Int) != (l0_1.length : Int))), (by first | rfl | (simp; done) | (simp [*]; done)), H', ⟨by first | omega | exact Nat.le_refl _⟩, ⟨by (with_reducible repeat (first | refine blk_drewN ?_ _ | refine blk_drew ?_ | refine blk_alloc ?_ _)); exact BK115.out⟩, ⟨by repeat (first | (with_reducible first | exact HB.out | apply below_alloc | apply pw_below_drewN | apply below_drew1 | refine below_set ?_ GE115.out) | exact HB.out)⟩⟩
 clear HC2
 try clear p2
 try clear c4
 try clear c4b0
 try clear c6
 try clear c6b0
 try clear c8
 try clear c8b0
 try clear c8b1
 try clear c8b2
 try clear c9
 try clear hcz10_0
 try clear hcz10_1
 try clear hcz10_2
 try clear hcz10_3
 try clear hcz5_0
 try clear hcz5_1
 try clear hcz5_2
 try clear hcz5_3
 try clear hcz7_0
 try clear hcz7_1
 try clear hcz7_2
 try clear hcz7_3
 try clear hcz9_0
 try clear hcz9_1
 try clear hcz9_2
 try clear hcz9_3
 try clear hfz10_0
 try clear hfz10_1
 try clear hfz10_2
 try clear hfz10_3
 try clear hfz5_0
 try clear hfz5_1
 try clear hfz5_2
 try clear hfz5_3
 try clear hfz7_0
 try clear hfz7_1
 try clear hfz7_2
 try clear hfz7_3
 try clear hfz9_0
 try clear hfz9_1
 try clear hfz9_2
 try clear hfz9_3
 obtain ⟨kq, x11_1, rfl, HA, HJ1, BK115, HB⟩ := hcut
 cases kq with
 | zero => exact absurd HA.out (by simp [topo_Check.j0])
 | succ kj1 => ?_
 have H := HA.out
 clear HA
 simp only [topo_Check.j0] at H
 by_cases c11 : x11_1 = true
 ·subst c11
  have H1 : (some 1) = some r := by rw [if_pos rfl] at H; exact H
  clear H
  have H := H1
  clear H1
  obtain rfl := Option.some.inj H
  go_wp2
  go_ret
  exact ⟨by first | rfl | (simp [errW_none, errW_some] <;> rfl) | (simp [*, errW_none, errW_some] <;> rfl), by repeat (first | (with_reducible first | exact HB.out | apply below_alloc | apply pw_below_drewN | apply below_drew1 | refine below_set ?_ GE115.out) | exact HB.out)⟩
 replace c11 := Bool.eq_false_iff.mpr c11
 subst c11
 have H1 : (if (l0_1.length : Int) > 6 then (some 4) else (if (l0_3.length : Int) > 8 then (some 4) else (topo_Check.l0 kj1 (([] : List Int)) l0_1 (l0_1.length : Int) 0 a0_0 l0_1 l0_2 l0_3))) = some r := by rw [if_neg (show ¬ (false = true) by decide)] at H; exact H
 clear H
 have H := H1
 clear H1
 by_cases c12 : (l0_1.length : Int) > 6
 ·rw [if_pos c12] at H
  have c12b0 : decide (6 < (l0_1.length : Int)) = true := decide_eq_true c12
  have c12b1 : decide (6 < l0_1.length) = true := decide_eq_true (by omega)
  clear c12
  obtain rfl := Option.some.inj H
  have hcz13_0 : wc.cell? ⟨gb115, 0, none⟩ = some (.int .i64 a0_0) := (blk_cell BK115.out 0).trans rfl
  have hcz13_1 : wc.cell? ⟨gb115, 1, none⟩ = some (.slice A0_1 l0_1.length c0_1) := (blk_cell BK115.out 1).trans rfl
  have hcz13_2 : wc.cell? ⟨gb115, 2, none⟩ = some (.slice A0_2 l0_2.length c0_2) := (blk_cell BK115.out 2).trans rfl
  have hcz13_3 : wc.cell? ⟨gb115, 3, none⟩ = some (.slice A0_3 l0_3.length c0_3) := (blk_cell BK115.out 3).trans rfl
  have hfz13_0 := blk_frozen BK115.out 0
  have hfz13_1 := blk_frozen BK115.out 1
  have hfz13_2 := blk_frozen BK115.out 2
  have hfz13_3 := blk_frozen BK115.out 3
  go_wp2
  go_ret
  exact ⟨by first | rfl | (simp [errW_none, errW_some] <;> rfl) | (simp [*, errW_none, errW_some] <;> rfl), by repeat (first | (with_reducible first | exact HB.out | apply below_alloc | apply pw_below_drewN | apply below_drew1 | refine below_set ?_ GE115.out) | exact HB.out)⟩
 rw [if_neg c12] at H
 have c12b0 : decide (6 < (l0_1.length : Int)) = false := decide_eq_false c12
 have c12b1 : decide (6 < l0_1.length) = false := decide_eq_false (by omega)
 clear c12
 by_cases c14 : (l0_3.length : Int) > 8
 ·rw [if_pos c14] at H
  have c14b0 : decide (8 < (l0_3.length : Int)) = true := decide_eq_true c14
  have c14b1 : decide (8 < l0_3.length) = true := decide_eq_true (by omega)
  clear c14
  obtain rfl := Option.some.inj H
  have hcz15_0 : wc.cell? ⟨gb115, 0, none⟩ = some (.int .i64 a0_0) := (blk_cell BK115.out 0).trans rfl
  have hcz15_1 : wc.cell? ⟨gb115, 1, none⟩ = some (.slice A0_1 l0_1.length c0_1) := (blk_cell BK115.out 1).trans rfl
  have hcz15_2 : wc.cell? ⟨gb115, 2, none⟩ = some (.slice A0_2 l0_2.length c0_2) := (blk_cell BK115.out 2).trans rfl
  have hcz15_3 : wc.cell? ⟨gb115, 3, none⟩ = some (.slice A0_3 l0_3.length c0_3) := (blk_cell BK115.out 3).trans rfl
  have hfz15_0 := blk_frozen BK115.out 0
  have hfz15_1 := blk_frozen BK115.out 1
  have hfz15_2 := blk_frozen BK115.out 2
  have hfz15_3 := blk_frozen BK115.out 3
  go_wp2
  go_ret
  exact ⟨by first | rfl | (simp [errW_none, errW_some] <;> rfl) | (simp [*, errW_none, errW_some] <;> rfl), by repeat (first | (with_reducible first | exact HB.out | apply below_alloc | apply pw_below_drewN | apply below_drew1 | refine below_set ?_ GE115.out) | exact HB.out)⟩
 rw [if_neg c14] at H
 have c14b0 : decide (8 < (l0_3.length : Int)) = false := decide_eq_false c14
 have c14b1 : decide (8 < l0_3.length) = false := decide_eq_false (by omega)
 clear c14
 obtain ⟨y116, hy116⟩ : ∃ y_ : List Int, y_ = (([] : List Int)) := ⟨_, rfl⟩
 replace H : (topo_Check.l0 kj1 y116 l0_1 (l0_1.length : Int) 0 a0_0 l0_1 l0_2 l0_3) = some r := by first | (rw [hy116]; with_reducible exact H) | (have H2_ := (Option.bind_some _ _).symm.trans H; rw [hy116]; with_reducible exact H2_) | (have H2_ := (Option.bind_some _ _).symm.trans H; with_reducible exact H2_) | with_reducible exact H | (rw [hy116]; exact H) | exact H
 have Ny116 := Aside0.mk hy116
 clear hy116
 have H' := Aside0.mk H
 clear H
 have hcz16_0 : wc.cell? ⟨gb115, 0, none⟩ = some (.int .i64 a0_0) := (blk_cell BK115.out 0).trans rfl
 have hcz16_1 : wc.cell? ⟨gb115, 1, none⟩ = some (.slice A0_1 l0_1.length c0_1) := (blk_cell BK115.out 1).trans rfl
 have hcz16_2 : wc.cell? ⟨gb115, 2, none⟩ = some (.slice A0_2 l0_2.length c0_2) := (blk_cell BK115.out 2).trans rfl
 have hcz16_3 : wc.cell? ⟨gb115, 3, none⟩ = some (.slice A0_3 l0_3.length c0_3) := (blk_cell BK115.out 3).trans rfl
 have hfz16_0 := blk_frozen BK115.out 0
 have hfz16_1 := blk_frozen BK115.out 1
 have hfz16_2 := blk_frozen BK115.out 2
 have hfz16_3 := blk_frozen BK115.out 3
 go_wp2_with (first | ((with_reducible refine gate_dst (N := 46) rfl ?_); (try (refine gate_guard (by rfl) ?_; dsimp only)); refine Mk.R_make (Kd.int .u64) 44 _ _ rfl rfl (Nat.le_refl _) ?_; intro v117 w17 ho18 hb; obtain ⟨bm_, em_⟩ := Mk.R_map ho18; subst em_; (first | rw [← Ny116.out] at ho18 | (simp only [Int.reduceToNat] at ho18; rw [← Ny116.out] at ho18)); have n0_ := Aside0.mk (Mk.R_lower ho18 (below_size (by repeat (first | (with_reducible first | exact HB.out | apply below_alloc | apply pw_below_drewN | apply below_drew1 | refine below_set ?_ GE115.out) | exact HB.out)))); have n1_ := Aside0.mk (blk_below (g := gb115) (o := .cells #[.int .i64 a0_0, .slice A0_1 l0_1.length c0_1, .slice A0_2 l0_2.length c0_2, .slice A0_3 l0_3.length c0_3] 26 (0, 0)) (by (with_reducible repeat (first | refine blk_drewN ?_ _ | refine blk_drew ?_ | refine blk_alloc ?_ _)); exact BK115.out) hb); have n2_ := Aside0.mk (below_step (by repeat (first | (with_reducible first | exact HB.out | apply below_alloc | apply pw_below_drewN | apply below_drew1 | refine below_set ?_ GE115.out) | exact HB.out)) hb); clear BK115; clear HB; have HO118 := n0_; have BK115 := n1_; have HB := n2_; clear n0_ n1_ n2_; clear hb ho18; have hcz19_0 : w17.cell? ⟨gb115, 0, none⟩ = some (.int .i64 a0_0) := (blk_cell BK115.out 0).trans rfl; have hcz19_1 : w17.cell? ⟨gb115, 1, none⟩ = some (.slice A0_1 l0_1.length c0_1) := (blk_cell BK115.out 1).trans rfl; have hcz19_2 : w17.cell? ⟨gb115, 2, none⟩ = some (.slice A0_2 l0_2.length c0_2) := (blk_cell BK115.out 2).trans rfl; have hcz19_3 : w17.cell? ⟨gb115, 3, none⟩ = some (.slice A0_3 l0_3.length c0_3) := (blk_cell BK115.out 3).trans rfl; have hfz19_0 := blk_frozen BK115.out 0; have hfz19_1 := blk_frozen BK115.out 1; have hfz19_2 := blk_frozen BK115.out 2; have hfz19_3 := blk_frozen BK115.out 3))
 go_loopg [50] kj1 (fun kq v50 w' => ∃ (x3_2 : List Int) (x50_2 : Int), v50 = .int .i64 x50_2 ∧ Aside0 (topo_Check.l0 kq x3_2 l0_1 (l0_1.length : Int) x50_2 a0_0 l0_1 l0_2 l0_3 = some r) ∧ Aside0 (kq ≤ kj1) ∧ Aside0 (Mk.R (Kd.int .u64) 44 w' w.heap.size (fun _ => True) (.map (some bm_)) x3_2) ∧ Aside0 (w'.heap[gb115]? = some (.cells #[.int .i64 a0_0, (.slice A0_1 l0_1.length c0_1), (.slice A0_2 l0_2.length c0_2), (.slice A0_3 l0_3.length c0_3)] 26 (0, 0))) ∧ Aside0 (Below w.heap.size w w'))
 case atStart => exact ⟨(y116), (0), (by first | rfl | (simp; done) | (simp [*]; done)), H', ⟨Nat.le_refl _⟩, ⟨by (with_reducible repeat (first | apply Mk.R_alloc | apply Mk.R_drewN | apply Mk.R_drew)); exact HO118.out⟩, ⟨by (with_reducible repeat (first | refine blk_drewN ?_ _ | refine blk_drew ?_ | refine blk_alloc ?_ _)); exact BK115.out⟩, ⟨by repeat (first | (with_reducible first | exact HB.out | apply below_alloc | apply pw_below_drewN | apply below_drew1 | refine below_set ?_ GE115.out) | exact HB.out)⟩⟩
 clear H'
 try clear c1
 try clear p2
 try clear c4
 try clear c4b0
 try clear c6
 try clear c6b0
 try clear c8
 try clear c8b0
 try clear c8b1
 try clear c8b2
 try clear c9
 try clear c11
 try clear c12
 try clear c12b0
 try clear c12b1
 try clear c14
 try clear c14b0
 try clear c14b1
 try clear hcz10_0
 try clear hcz10_1
 try clear hcz10_2
 try clear hcz10_3
 try clear hcz13_0
 try clear hcz13_1
 try clear hcz13_2
 try clear hcz13_3
 try clear hcz15_0
 try clear hcz15_1
 try clear hcz15_2
 try clear hcz15_3
 try clear hcz16_0
 try clear hcz16_1
 try clear hcz16_2
 try clear hcz16_3
 try clear hcz19_0
 try clear hcz19_1
 try clear hcz19_2
 try clear hcz19_3
 try clear hcz5_0
 try clear hcz5_1
 try clear hcz5_2
 try clear hcz5_3
 try clear hcz7_0
 try clear hcz7_1
 try clear hcz7_2
 try clear hcz7_3
 try clear hcz9_0
 try clear hcz9_1
 try clear hcz9_2
 try clear hcz9_3
 try clear hfz10_0
 try clear hfz10_1
 try clear hfz10_2
 try clear hfz10_3
 try clear hfz13_0
 try clear hfz13_1
 try clear hfz13_2
 try clear hfz13_3
 try clear hfz15_0
 try clear hfz15_1
 try clear hfz15_2
 try clear hfz15_3
 try clear hfz16_0
 try clear hfz16_1
 try clear hfz16_2
 try clear hfz16_3
 try clear hfz19_0
 try clear hfz19_1
 try clear hfz19_2
 try clear hfz19_3
 try clear hfz5_0
 try clear hfz5_1
 try clear hfz5_2
 try clear hfz5_3
 try clear hfz7_0
 try clear hfz7_1
 try clear hfz7_2
 try clear hfz7_3
 try clear hfz9_0
 try clear hfz9_1
 try clear hfz9_2
 try clear hfz9_3
 try clear p2
 obtain ⟨x3_2, x50_2, rfl, HA, HK2, HO_3, BK115, HB⟩ := hrel
 cases gk with
 | zero => exact absurd HA.out (by simp [topo_Check.l0])
 | succ k2 => ?_
 have H := HA.out
 clear HA
 simp only [topo_Check.l0] at H
 by_cases c20 : x50_2 < (l0_1.length : Int)
 rotate_left
 ·rw [if_neg c20] at H
  have c20b0 : decide (x50_2 < (l0_1.length : Int)) = false := decide_eq_false c20
  clear c20
  have H' := Aside0.mk H
  clear H
  have hcz66_0 : wr.cell? ⟨gb115, 0, none⟩ = some (.int .i64 a0_0) := (blk_cell BK115.out 0).trans rfl
  have hcz66_1 : wr.cell? ⟨gb115, 1, none⟩ = some (.slice A0_1 l0_1.length c0_1) := (blk_cell BK115.out 1).trans rfl
  have hcz66_2 : wr.cell? ⟨gb115, 2, none⟩ = some (.slice A0_2 l0_2.length c0_2) := (blk_cell BK115.out 2).trans rfl
  have hcz66_3 : wr.cell? ⟨gb115, 3, none⟩ = some (.slice A0_3 l0_3.length c0_3) := (blk_cell BK115.out 3).trans rfl
  have hfz66_0 := blk_frozen BK115.out 0
  have hfz66_1 := blk_frozen BK115.out 1
  have hfz66_2 := blk_frozen BK115.out 2
  have hfz66_3 := blk_frozen BK115.out 3
  go_wp2
  go_loopg [100] k2 (fun kq v100 w' => ∃ (x3_3 : List Int) (x100_3 : Int), v100 = .int .i64 x100_3 ∧ Aside0 (topo_Check.l2 kq x3_3 l0_3 (l0_3.length : Int) x100_3 a0_0 l0_1 l0_2 l0_3 = some r) ∧ Aside0 (kq ≤ k2) ∧ Aside0 (Mk.R (Kd.int .u64) 44 w' w.heap.size (fun _ => True) (.map (some bm_)) x3_3) ∧ Aside0 (w'.heap[gb115]? = some (.cells #[.int .i64 a0_0, (.slice A0_1 l0_1.length c0_1), (.slice A0_2 l0_2.length c0_2), (.slice A0_3 l0_3.length c0_3)] 26 (0, 0))) ∧ Aside0 (Below w.heap.size w w'))
  case atStart => exact ⟨(x3_2), (0), (by first | rfl | (simp; done) | (simp [*]; done)), H', ⟨Nat.le_refl _⟩, ⟨by (with_reducible repeat (first | apply Mk.R_alloc | apply Mk.R_drewN | apply Mk.R_drew)); exact HO_3.out⟩, ⟨by (with_reducible repeat (first | refine blk_drewN ?_ _ | refine blk_drew ?_ | refine blk_alloc ?_ _)); exact BK115.out⟩, ⟨by repeat (first | (with_reducible first | exact HB.out | apply below_alloc | apply pw_below_drewN | apply below_drew1 | refine below_set ?_ GE115.out) | exact HB.out)⟩⟩
  clear H'
  try clear c1
  try clear p1
  try clear q1
  try clear hx1
  try clear c2
  try clear p2
  try clear c3
  try clear c4
  try clear c4b0
  try clear c5
  try clear c6
  try clear c6b0
  try clear p6
  try clear c8
  try clear c8b0
  try clear c8b1
  try clear c8b2
  try clear c9
  try clear c11
  try clear p11
  try clear q11
  try clear hx11
  try clear c12
  try clear c12b0
  try clear c12b1
  try clear p12
  try clear q12
  try clear hx12
  try clear c14
  try clear c14b0
  try clear c14b1
  try clear c20
  try clear c20b0
  try clear c21
  try clear c21b0
  try clear c22
  try clear c22b0
  try clear c24
  try clear c24b0
  try clear c24b1
  try clear c25
  try clear c25b0
  try clear c27
  try clear c32
  try clear c33
  try clear c33b0
  try clear c34
  try clear c34b0
  try clear c34b1
  try clear c34b2
  try clear c36
  try clear c44
  try clear c44b0
  try clear c45
  try clear c45b0
  try clear c46
  try clear c46b0
  try clear c47
  try clear c47b0
  try clear c48
  try clear c48b0
  try clear c49
  try clear c51
  try clear c54
  try clear c63
  try clear p64
  try clear hcz10_0
  try clear hcz10_1
  try clear hcz10_2
  try clear hcz10_3
  try clear hcz13_0
  try clear hcz13_1
  try clear hcz13_2
  try clear hcz13_3
  try clear hcz15_0
  try clear hcz15_1
  try clear hcz15_2
  try clear hcz15_3
  try clear hcz16_0
  try clear hcz16_1
  try clear hcz16_2
  try clear hcz16_3
  try clear hcz19_0
  try clear hcz19_1
  try clear hcz19_2
  try clear hcz19_3
  try clear hcz28_0
  try clear hcz28_1
  try clear hcz28_2
  try clear hcz28_3
  try clear hcz28_4
  try clear hcz28_5
  try clear hcz28_6
  try clear hcz28_7
  try clear hcz30_0
  try clear hcz30_1
  try clear hcz30_2
  try clear hcz30_3
  try clear hcz30_4
  try clear hcz30_5
  try clear hcz30_6
  try clear hcz30_7
  try clear hcz37_0
  try clear hcz37_1
  try clear hcz37_2
  try clear hcz37_3
  try clear hcz37_4
  try clear hcz37_5
  try clear hcz37_6
  try clear hcz37_7
  try clear hcz39_0
  try clear hcz39_1
  try clear hcz39_2
  try clear hcz39_3
  try clear hcz39_4
  try clear hcz39_5
  try clear hcz39_6
  try clear hcz39_7
  try clear hcz42_0
  try clear hcz42_1
  try clear hcz42_2
  try clear hcz42_3
  try clear hcz43_0
  try clear hcz43_1
  try clear hcz43_2
  try clear hcz43_3
  try clear hcz43_4
  try clear hcz43_5
  try clear hcz43_6
  try clear hcz43_7
  try clear hcz50_0
  try clear hcz50_1
  try clear hcz50_2
  try clear hcz50_3
  try clear hcz52_0
  try clear hcz52_1
  try clear hcz52_2
  try clear hcz52_3
  try clear hcz55_0
  try clear hcz55_1
  try clear hcz55_2
  try clear hcz55_3
  try clear hcz55_4
  try clear hcz55_5
  try clear hcz55_6
  try clear hcz55_7
  try clear hcz57_0
  try clear hcz57_1
  try clear hcz57_2
  try clear hcz57_3
  try clear hcz57_4
  try clear hcz57_5
  try clear hcz57_6
  try clear hcz57_7
  try clear hcz5_0
  try clear hcz5_1
  try clear hcz5_2
  try clear hcz5_3
  try clear hcz60_0
  try clear hcz60_1
  try clear hcz60_2
  try clear hcz60_3
  try clear hcz61_0
  try clear hcz61_1
  try clear hcz61_2
  try clear hcz61_3
  try clear hcz61_4
  try clear hcz61_5
  try clear hcz61_6
  try clear hcz61_7
  try clear hcz64_0
  try clear hcz64_1
  try clear hcz64_2
  try clear hcz64_3
  try clear hcz64_4
  try clear hcz64_5
  try clear hcz64_6
  try clear hcz64_7
  try clear hcz66_0
  try clear hcz66_1
  try clear hcz66_2
  try clear hcz66_3
  try clear hcz7_0
  try clear hcz7_1
  try clear hcz7_2
  try clear hcz7_3
  try clear hcz9_0
  try clear hcz9_1
  try clear hcz9_2
  try clear hcz9_3
  try clear hfz10_0
  try clear hfz10_1
  try clear hfz10_2
  try clear hfz10_3
  try clear hfz13_0
  try clear hfz13_1
  try clear hfz13_2
  try clear hfz13_3
  try clear hfz15_0
  try clear hfz15_1
  try clear hfz15_2
  try clear hfz15_3
  try clear hfz16_0
  try clear hfz16_1
  try clear hfz16_2
  try clear hfz16_3
  try clear hfz19_0
  try clear hfz19_1
  try clear hfz19_2
  try clear hfz19_3
  try clear hfz28_0
  try clear hfz28_1
  try clear hfz28_2
  try clear hfz28_3
  try clear hfz28_4
  try clear hfz28_5
  try clear hfz28_6
  try clear hfz28_7
  try clear hfz30_0
  try clear hfz30_1
  try clear hfz30_2
  try clear hfz30_3
  try clear hfz30_4
  try clear hfz30_5
  try clear hfz30_6
  try clear hfz30_7
  try clear hfz37_0
  try clear hfz37_1
  try clear hfz37_2
  try clear hfz37_3
  try clear hfz37_4
  try clear hfz37_5
  try clear hfz37_6
  try clear hfz37_7
  try clear hfz39_0
  try clear hfz39_1
  try clear hfz39_2
  try clear hfz39_3
  try clear hfz39_4
  try clear hfz39_5
  try clear hfz39_6
  try clear hfz39_7
  try clear hfz42_0
  try clear hfz42_1
  try clear hfz42_2
  try clear hfz42_3
  try clear hfz43_0
  try clear hfz43_1
  try clear hfz43_2
  try clear hfz43_3
  try clear hfz43_4
  try clear hfz43_5
  try clear hfz43_6
  try clear hfz43_7
  try clear hfz50_0
  try clear hfz50_1
  try clear hfz50_2
  try clear hfz50_3
  try clear hfz52_0
  try clear hfz52_1
  try clear hfz52_2
  try clear hfz52_3
  try clear hfz55_0
  try clear hfz55_1
  try clear hfz55_2
  try clear hfz55_3
  try clear hfz55_4
  try clear hfz55_5
  try clear hfz55_6
  try clear hfz55_7
  try clear hfz57_0
  try clear hfz57_1
  try clear hfz57_2
  try clear hfz57_3
  try clear hfz57_4
  try clear hfz57_5
  try clear hfz57_6
  try clear hfz57_7
  try clear hfz5_0
  try clear hfz5_1
  try clear hfz5_2
  try clear hfz5_3
  try clear hfz60_0
  try clear hfz60_1
  try clear hfz60_2
  try clear hfz60_3
  try clear hfz61_0
  try clear hfz61_1
  try clear hfz61_2
  try clear hfz61_3
  try clear hfz61_4
  try clear hfz61_5
  try clear hfz61_6
  try clear hfz61_7
  try clear hfz64_0
  try clear hfz64_1
  try clear hfz64_2
  try clear hfz64_3
  try clear hfz64_4
  try clear hfz64_5
  try clear hfz64_6
  try clear hfz64_7
  try clear hfz66_0
  try clear hfz66_1
  try clear hfz66_2
  try clear hfz66_3
  try clear hfz7_0
  try clear hfz7_1
  try clear hfz7_2
  try clear hfz7_3
  try clear hfz9_0
  try clear hfz9_1
  try clear hfz9_2
  try clear hfz9_3
  try clear hx119_0
  try clear hx119_1
  try clear hx119_2
  try clear hx119_3
  try clear hx119_4
  try clear hx119_5
  try clear hx119_6
  try clear hx119_7
  try clear hx125_0
  try clear hx126_0
  try clear hx127_0
  try clear p1
  try clear p11
  try clear p119
  try clear p12
  try clear p125
  try clear p126
  try clear p127
  try clear p2
  try clear q1
  try clear q11
  try clear q119
  try clear q12
  try clear q125
  try clear q126
  try clear q127
  obtain ⟨x3_3, x100_3, rfl, HA, HK3, HO_3, BK115, HB⟩ := hrel
  cases gk with
  | zero => exact absurd HA.out (by simp [topo_Check.l2])
  | succ k3 => ?_
  have H := HA.out
  clear HA
  simp only [topo_Check.l2] at H
  by_cases c67 : x100_3 < (l0_3.length : Int)
  rotate_left
  ·rw [if_neg c67] at H
   have c67b0 : decide (x100_3 < (l0_3.length : Int)) = false := decide_eq_false c67
   clear c67
   obtain rfl := Option.some.inj H
   go_wp2
   go_ret
   exact ⟨by first | rfl | (simp [errW_none, errW_some] <;> rfl) | (simp [*, errW_none, errW_some] <;> rfl), by repeat (first | (with_reducible first | exact HB.out | apply below_alloc | apply pw_below_drewN | apply below_drew1 | refine below_set ?_ GE115.out) | exact HB.out)⟩
  rw [if_pos c67] at H
  have c67b0 : decide (x100_3 < (l0_3.length : Int)) = true := decide_eq_true c67
  clear c67
  by_cases c68 : 0 ≤ x100_3
  rotate_left
  ·rw [if_neg c68] at H
   exact absurd H (by simp)
  rw [if_pos c68] at H
  have c68b0 : decide (0 ≤ x100_3) = true := decide_eq_true c68
  clear c68
  by_cases c69 : x100_3 < (l0_3.length : Int)
  rotate_left
  ·rw [if_neg c69] at H
   exact absurd H (by simp)
  rw [if_pos c69] at H
  have c69b0 : decide (x100_3 < (l0_3.length : Int)) = true := decide_eq_true c69
  clear c69
  replace H := Option.bind_eq_some_iff.mp H
  obtain ⟨t130, A700, H⟩ := H
  replace H : (if t130 = true then (if Mk.mem ((rd_T59 l0_3 x100_3).f0) x3_3 = true then (some 9) else (if ((rd_T59 l0_3 x100_3).f1) < 0 then (some 8) else (if ((rd_T59 l0_3 x100_3).f1) ≥ a0_0 then (some 8) else (if x3_3.length < 17592186044416 then (topo_Check.l2 k3 (x3_3 ++ [(rd_T59 l0_3 x100_3).f0]) l0_3 (l0_3.length : Int) (wrap64 (x100_3 + 1)) a0_0 l0_1 l0_2 l0_3) else (none))))) else (some 1)) = some r := H
  have A70 := Aside0.mk A700
  clear A700
  by_cases c71 : t130 = true
  rotate_left
  ·replace c71 := Bool.eq_false_iff.mpr c71
   subst c71
   have H1 : (some 1) = some r := by rw [if_neg (show ¬ (false = true) by decide)] at H; exact H
   clear H
   have H := H1
   clear H1
   obtain rfl := Option.some.inj H
   have p128 : 0 ≤ (x100_3 : Int) := of_decide_eq_true (by first | (with_reducible assumption) | assumption)
   have q128 : x100_3 < (l0_3.length : Int) := of_decide_eq_true (by first | (with_reducible assumption) | assumption)
   obtain ⟨ad128, e128, hx128_0, hx128_1⟩ := at_T59 HR0_3.out x100_3 p128 q128
   cases e128
   replace hx128_0 := (HB.out.cell (World.block_lt_of_cell? w _ hx128_0)).trans hx128_0
   replace hx128_1 := (HB.out.cell (World.block_lt_of_cell? w _ hx128_1)).trans hx128_1
   replace p128 := eq_true p128
   replace q128 := eq_true q128
   go_wp2_with (first | (at_lookup; refine Mk.R_look (d := Kd.int .u64) (e := 44) (base := w.heap.size) (ok := fun _ => True) (xs := x3_3) (key := ((rd_T59 l0_3 x100_3).f0)) _ rfl _ _ rfl rfl ?lR ?lX ?lW ?_; (case lX => first | rfl | (go_simp; done) | (go_simp; rfl)); (case lW => exact key_S59 HW_l0_3.out (of_decide_eq_true (by first | (with_reducible assumption) | assumption) : 0 ≤ x100_3) (of_decide_eq_true (by first | (with_reducible assumption) | assumption) : x100_3 < (l0_3.length : Int))); (case lR => (with_reducible repeat (first | apply Mk.R_alloc | apply Mk.R_drewN | apply Mk.R_drew)); (first | exact HO_3.out | exact Mk.R_mono (Mk.R_far (p := ⟨gb129, 1, none⟩) (Mk.R_far (p := ⟨gb129, 0, none⟩) (Mk.R_types HO_3.out BK129.out trivial) (fun _ hk => hk.2) (.int .u64 ((rd_T59 l0_3 x100_3).f0))) (fun _ hk => hk.2) (.int .i64 ((rd_T59 l0_3 x100_3).f1))) (fun _ hk => trivial))); (first | rw [c25b0] | rw [c72b0] | skip)) | ((with_reducible refine gate_dst (N := 10) rfl ?_); (try (refine gate_guard (by rfl) ?_; dsimp only)); refine box_event ?hg (N := 10) ?hd (cs := #[.int .u64 0, .int .i64 0]) (t := 59) ?hr ?_; (case hd => rfl); (case hg => rfl); (case hr => first | (go_simp; done) | (go_simp; rfl)); intro gb129 hg w95 hbox hb; have n0_ := Aside0.mk (Mk.R_below (by (with_reducible repeat (first | apply Mk.R_alloc | apply Mk.R_drewN | apply Mk.R_drew)); exact HO_3.out) hb); have n1_ := Aside0.mk (blk_below (g := gb115) (o := .cells #[.int .i64 a0_0, .slice A0_1 l0_1.length c0_1, .slice A0_2 l0_2.length c0_2, .slice (some ad128) l0_3.length c0_3] 26 (0, 0)) (by (with_reducible repeat (first | refine blk_drewN ?_ _ | refine blk_drew ?_ | refine blk_alloc ?_ _)); exact BK115.out) hb); have n2_ := Aside0.mk (below_step (by repeat (first | (with_reducible first | exact HB.out | apply below_alloc | apply pw_below_drewN | apply below_drew1 | refine below_set ?_ GE115.out) | exact HB.out)) hb); have n3_ := Aside0.mk (hbox); have n4_ := Aside0.mk ((by rw [hg]; exact (below_size (by repeat (first | (with_reducible first | exact HB.out | apply below_alloc | apply pw_below_drewN | apply below_drew1 | refine below_set ?_ GE115.out) | exact HB.out))) : w.heap.size ≤ gb129)); have n5_ := Aside0.mk ((by rw [hg]; exact (below_size (by repeat (first | (with_reducible first | exact HB.out | apply below_alloc | apply pw_below_drewN | apply below_drew1 | refine below_set ?_ GE115.out) | exact HB.out))) : w.heap.size ≤ gb129)); have n6_ := Aside0.mk ((by rw [hg]; exact Nat.ne_of_lt (blk_lt (g := gb115) (o := .cells #[.int .i64 a0_0, .slice A0_1 l0_1.length c0_1, .slice A0_2 l0_2.length c0_2, .slice (some ad128) l0_3.length c0_3] 26 (0, 0)) (by (with_reducible repeat (first | refine blk_drewN ?_ _ | refine blk_drew ?_ | refine blk_alloc ?_ _)); exact BK115.out)) : gb115 ≠ gb129)); have n7_ := Aside0.mk ((by rw [hg]; exact Nat.ne_of_gt (blk_lt (g := gb115) (o := .cells #[.int .i64 a0_0, .slice A0_1 l0_1.length c0_1, .slice A0_2 l0_2.length c0_2, .slice (some ad128) l0_3.length c0_3] 26 (0, 0)) (by (with_reducible repeat (first | refine blk_drewN ?_ _ | refine blk_drew ?_ | refine blk_alloc ?_ _)); exact BK115.out)) : gb129 ≠ gb115)); clear HO_3; clear BK115; clear HB; have HO_3 := n0_; have BK115 := n1_; have HB := n2_; have BK129 := n3_; have GW129 := n4_; have GE129 := n5_; have NB115_129 := n6_; have NB129_115 := n7_; clear n0_ n1_ n2_ n3_ n4_ n5_ n6_ n7_; clear hb hbox hg; have hnb96 := NB129_115.out; have hnc96 := NB115_129.out; have hcz97_0 : w95.cell? ⟨gb129, 0, none⟩ = some (.int .u64 0) := (blk_cell BK129.out 0).trans rfl; have hcz97_1 : w95.cell? ⟨gb129, 1, none⟩ = some (.int .i64 0) := (blk_cell BK129.out 1).trans rfl; have hfz97_0 := blk_frozen BK129.out 0; have hfz97_1 := blk_frozen BK129.out 1) | (go_at_call 21; (with_reducible refine (ids_Right.calls ((rd_T59 l0_3 x100_3).f0) false _ A70.out).mono ?_); rintro e w' ⟨rfl, ⟨nd, rfl⟩⟩; (try first | exact ⟨rfl, _, World.drewN_drewN _ _ _⟩ | exact ⟨rfl, _, Eq.trans (World.drewN_drewN _ _ _) (congrArg (World.drewN _) (Nat.add_assoc _ _ _))⟩)))
   go_ret
   exact ⟨by first | rfl | (simp [errW_none, errW_some] <;> rfl) | (simp [*, errW_none, errW_some] <;> rfl), by repeat (first | (with_reducible first | exact HB.out | apply below_alloc | apply pw_below_drewN | apply below_drew1 | refine below_set ?_ GE115.out | refine below_set ?_ GE129.out) | exact HB.out)⟩
  subst c71
  have H1 : (if Mk.mem ((rd_T59 l0_3 x100_3).f0) x3_3 = true then (some 9) else (if ((rd_T59 l0_3 x100_3).f1) < 0 then (some 8) else (if ((rd_T59 l0_3 x100_3).f1) ≥ a0_0 then (some 8) else (if x3_3.length < 17592186044416 then (topo_Check.l2 k3 (x3_3 ++ [(rd_T59 l0_3 x100_3).f0]) l0_3 (l0_3.length : Int) (wrap64 (x100_3 + 1)) a0_0 l0_1 l0_2 l0_3) else (none))))) = some r := by rw [if_pos rfl] at H; exact H
  clear H
  have H := H1
  clear H1
  by_cases c72 : Mk.mem ((rd_T59 l0_3 x100_3).f0) x3_3 = true
  ·rw [if_pos c72] at H
   have c72b0 : Mk.mem ((rd_T59 l0_3 x100_3).f0) x3_3 = true := c72
   clear c72
   obtain rfl := Option.some.inj H
   have p128 : 0 ≤ (x100_3 : Int) := of_decide_eq_true (by first | (with_reducible assumption) | assumption)
   have q128 : x100_3 < (l0_3.length : Int) := of_decide_eq_true (by first | (with_reducible assumption) | assumption)
   obtain ⟨ad128, e128, hx128_0, hx128_1⟩ := at_T59 HR0_3.out x100_3 p128 q128
   cases e128
   replace hx128_0 := (HB.out.cell (World.block_lt_of_cell? w _ hx128_0)).trans hx128_0
   replace hx128_1 := (HB.out.cell (World.block_lt_of_cell? w _ hx128_1)).trans hx128_1
   replace p128 := eq_true p128
   replace q128 := eq_true q128
   go_wp2_with (first | (at_lookup; refine Mk.R_look (d := Kd.int .u64) (e := 44) (base := w.heap.size) (ok := fun _ => True) (xs := x3_3) (key := ((rd_T59 l0_3 x100_3).f0)) _ rfl _ _ rfl rfl ?lR ?lX ?lW ?_; (case lX => first | rfl | (go_simp; done) | (go_simp; rfl)); (case lW => exact key_S59 HW_l0_3.out (of_decide_eq_true (by first | (with_reducible assumption) | assumption) : 0 ≤ x100_3) (of_decide_eq_true (by first | (with_reducible assumption) | assumption) : x100_3 < (l0_3.length : Int))); (case lR => (with_reducible repeat (first | apply Mk.R_alloc | apply Mk.R_drewN | apply Mk.R_drew)); (first | exact HO_3.out | exact Mk.R_mono (Mk.R_far (p := ⟨gb129, 1, none⟩) (Mk.R_far (p := ⟨gb129, 0, none⟩) (Mk.R_types HO_3.out BK129.out trivial) (fun _ hk => hk.2) (.int .u64 ((rd_T59 l0_3 x100_3).f0))) (fun _ hk => hk.2) (.int .i64 ((rd_T59 l0_3 x100_3).f1))) (fun _ hk => trivial))); (first | rw [c25b0] | rw [c72b0] | skip)) | ((with_reducible refine gate_dst (N := 10) rfl ?_); (try (refine gate_guard (by rfl) ?_; dsimp only)); refine box_event ?hg (N := 10) ?hd (cs := #[.int .u64 0, .int .i64 0]) (t := 59) ?hr ?_; (case hd => rfl); (case hg => rfl); (case hr => first | (go_simp; done) | (go_simp; rfl)); intro gb129 hg w73 hbox hb; have n0_ := Aside0.mk (Mk.R_below (by (with_reducible repeat (first | apply Mk.R_alloc | apply Mk.R_drewN | apply Mk.R_drew)); exact HO_3.out) hb); have n1_ := Aside0.mk (blk_below (g := gb115) (o := .cells #[.int .i64 a0_0, .slice A0_1 l0_1.length c0_1, .slice A0_2 l0_2.length c0_2, .slice (some ad128) l0_3.length c0_3] 26 (0, 0)) (by (with_reducible repeat (first | refine blk_drewN ?_ _ | refine blk_drew ?_ | refine blk_alloc ?_ _)); exact BK115.out) hb); have n2_ := Aside0.mk (below_step (by repeat (first | (with_reducible first | exact HB.out | apply below_alloc | apply pw_below_drewN | apply below_drew1 | refine below_set ?_ GE115.out) | exact HB.out)) hb); have n3_ := Aside0.mk (hbox); have n4_ := Aside0.mk ((by rw [hg]; exact (below_size (by repeat (first | (with_reducible first | exact HB.out | apply below_alloc | apply pw_below_drewN | apply below_drew1 | refine below_set ?_ GE115.out) | exact HB.out))) : w.heap.size ≤ gb129)); have n5_ := Aside0.mk ((by rw [hg]; exact (below_size (by repeat (first | (with_reducible first | exact HB.out | apply below_alloc | apply pw_below_drewN | apply below_drew1 | refine below_set ?_ GE115.out) | exact HB.out))) : w.heap.size ≤ gb129)); have n6_ := Aside0.mk ((by rw [hg]; exact Nat.ne_of_lt (blk_lt (g := gb115) (o := .cells #[.int .i64 a0_0, .slice A0_1 l0_1.length c0_1, .slice A0_2 l0_2.length c0_2, .slice (some ad128) l0_3.length c0_3] 26 (0, 0)) (by (with_reducible repeat (first | refine blk_drewN ?_ _ | refine blk_drew ?_ | refine blk_alloc ?_ _)); exact BK115.out)) : gb115 ≠ gb129)); have n7_ := Aside0.mk ((by rw [hg]; exact Nat.ne_of_gt (blk_lt (g := gb115) (o := .cells #[.int .i64 a0_0, .slice A0_1 l0_1.length c0_1, .slice A0_2 l0_2.length c0_2, .slice (some ad128) l0_3.length c0_3] 26 (0, 0)) (by (with_reducible repeat (first | refine blk_drewN ?_ _ | refine blk_drew ?_ | refine blk_alloc ?_ _)); exact BK115.out)) : gb129 ≠ gb115)); clear HO_3; clear BK115; clear HB; have HO_3 := n0_; have BK115 := n1_; have HB := n2_; have BK129 := n3_; have GW129 := n4_; have GE129 := n5_; have NB115_129 := n6_; have NB129_115 := n7_; clear n0_ n1_ n2_ n3_ n4_ n5_ n6_ n7_; clear hb hbox hg; have hnb74 := NB129_115.out; have hnc74 := NB115_129.out; have hcz75_0 : w73.cell? ⟨gb129, 0, none⟩ = some (.int .u64 0) := (blk_cell BK129.out 0).trans rfl; have hcz75_1 : w73.cell? ⟨gb129, 1, none⟩ = some (.int .i64 0) := (blk_cell BK129.out 1).trans rfl; have hfz75_0 := blk_frozen BK129.out 0; have hfz75_1 := blk_frozen BK129.out 1) | (go_at_call 21; (with_reducible refine (ids_Right.calls ((rd_T59 l0_3 x100_3).f0) true _ A70.out).mono ?_); rintro e w' ⟨rfl, ⟨nd, rfl⟩⟩; (try first | exact ⟨rfl, _, World.drewN_drewN _ _ _⟩ | exact ⟨rfl, _, Eq.trans (World.drewN_drewN _ _ _) (congrArg (World.drewN _) (Nat.add_assoc _ _ _))⟩)))
   go_ret
   exact ⟨by first | rfl | (simp [errW_none, errW_some] <;> rfl) | (simp [*, errW_none, errW_some] <;> rfl), by repeat (first | (with_reducible first | exact HB.out | apply below_alloc | apply pw_below_drewN | apply below_drew1 | refine below_set ?_ GE115.out | refine below_set ?_ GE129.out) | exact HB.out)⟩
  rw [if_neg c72] at H
  have c72b0 : Mk.mem ((rd_T59 l0_3 x100_3).f0) x3_3 = false := (Bool.not_eq_true _).mp c72
  clear c72
  by_cases c77 : ((rd_T59 l0_3 x100_3).f1) < 0
  ·rw [if_pos c77] at H
   have c77b0 : decide (((rd_T59 l0_3 x100_3).f1) < 0) = true := decide_eq_true c77
   clear c77
   obtain rfl := Option.some.inj H
   have p128 : 0 ≤ (x100_3 : Int) := of_decide_eq_true (by first | (with_reducible assumption) | assumption)
   have q128 : x100_3 < (l0_3.length : Int) := of_decide_eq_true (by first | (with_reducible assumption) | assumption)
   obtain ⟨ad128, e128, hx128_0, hx128_1⟩ := at_T59 HR0_3.out x100_3 p128 q128
   cases e128
   replace hx128_0 := (HB.out.cell (World.block_lt_of_cell? w _ hx128_0)).trans hx128_0
   replace hx128_1 := (HB.out.cell (World.block_lt_of_cell? w _ hx128_1)).trans hx128_1
   replace p128 := eq_true p128
   replace q128 := eq_true q128
   go_wp2_with (first | (at_lookup; refine Mk.R_look (d := Kd.int .u64) (e := 44) (base := w.heap.size) (ok := fun _ => True) (xs := x3_3) (key := ((rd_T59 l0_3 x100_3).f0)) _ rfl _ _ rfl rfl ?lR ?lX ?lW ?_; (case lX => first | rfl | (go_simp; done) | (go_simp; rfl)); (case lW => exact key_S59 HW_l0_3.out (of_decide_eq_true (by first | (with_reducible assumption) | assumption) : 0 ≤ x100_3) (of_decide_eq_true (by first | (with_reducible assumption) | assumption) : x100_3 < (l0_3.length : Int))); (case lR => (with_reducible repeat (first | apply Mk.R_alloc | apply Mk.R_drewN | apply Mk.R_drew)); (first | exact HO_3.out | exact Mk.R_mono (Mk.R_far (p := ⟨gb129, 1, none⟩) (Mk.R_far (p := ⟨gb129, 0, none⟩) (Mk.R_types HO_3.out BK129.out trivial) (fun _ hk => hk.2) (.int .u64 ((rd_T59 l0_3 x100_3).f0))) (fun _ hk => hk.2) (.int .i64 ((rd_T59 l0_3 x100_3).f1))) (fun _ hk => trivial))); (first | rw [c25b0] | rw [c72b0] | skip)) | ((with_reducible refine gate_dst (N := 10) rfl ?_); (try (refine gate_guard (by rfl) ?_; dsimp only)); refine box_event ?hg (N := 10) ?hd (cs := #[.int .u64 0, .int .i64 0]) (t := 59) ?hr ?_; (case hd => rfl); (case hg => rfl); (case hr => first | (go_simp; done) | (go_simp; rfl)); intro gb129 hg w78 hbox hb; have n0_ := Aside0.mk (Mk.R_below (by (with_reducible repeat (first | apply Mk.R_alloc | apply Mk.R_drewN | apply Mk.R_drew)); exact HO_3.out) hb); have n1_ := Aside0.mk (blk_below (g := gb115) (o := .cells #[.int .i64 a0_0, .slice A0_1 l0_1.length c0_1, .slice A0_2 l0_2.length c0_2, .slice (some ad128) l0_3.length c0_3] 26 (0, 0)) (by (with_reducible repeat (first | refine blk_drewN ?_ _ | refine blk_drew ?_ | refine blk_alloc ?_ _)); exact BK115.out) hb); have n2_ := Aside0.mk (below_step (by repeat (first | (with_reducible first | exact HB.out | apply below_alloc | apply pw_below_drewN | apply below_drew1 | refine below_set ?_ GE115.out) | exact HB.out)) hb); have n3_ := Aside0.mk (hbox); have n4_ := Aside0.mk ((by rw [hg]; exact (below_size (by repeat (first | (with_reducible first | exact HB.out | apply below_alloc | apply pw_below_drewN | apply below_drew1 | refine below_set ?_ GE115.out) | exact HB.out))) : w.heap.size ≤ gb129)); have n5_ := Aside0.mk ((by rw [hg]; exact (below_size (by repeat (first | (with_reducible first | exact HB.out | apply below_alloc | apply pw_below_drewN | apply below_drew1 | refine below_set ?_ GE115.out) | exact HB.out))) : w.heap.size ≤ gb129)); have n6_ := Aside0.mk ((by rw [hg]; exact Nat.ne_of_lt (blk_lt (g := gb115) (o := .cells #[.int .i64 a0_0, .slice A0_1 l0_1.length c0_1, .slice A0_2 l0_2.length c0_2, .slice (some ad128) l0_3.length c0_3] 26 (0, 0)) (by (with_reducible repeat (first | refine blk_drewN ?_ _ | refine blk_drew ?_ | refine blk_alloc ?_ _)); exact BK115.out)) : gb115 ≠ gb129)); have n7_ := Aside0.mk ((by rw [hg]; exact Nat.ne_of_gt (blk_lt (g := gb115) (o := .cells #[.int .i64 a0_0, .slice A0_1 l0_1.length c0_1, .slice A0_2 l0_2.length c0_2, .slice (some ad128) l0_3.length c0_3] 26 (0, 0)) (by (with_reducible repeat (first | refine blk_drewN ?_ _ | refine blk_drew ?_ | refine blk_alloc ?_ _)); exact BK115.out)) : gb129 ≠ gb115)); clear HO_3; clear BK115; clear HB; have HO_3 := n0_; have BK115 := n1_; have HB := n2_; have BK129 := n3_; have GW129 := n4_; have GE129 := n5_; have NB115_129 := n6_; have NB129_115 := n7_; clear n0_ n1_ n2_ n3_ n4_ n5_ n6_ n7_; clear hb hbox hg; have hnb79 := NB129_115.out; have hnc79 := NB115_129.out; have hcz80_0 : w78.cell? ⟨gb129, 0, none⟩ = some (.int .u64 0) := (blk_cell BK129.out 0).trans rfl; have hcz80_1 : w78.cell? ⟨gb129, 1, none⟩ = some (.int .i64 0) := (blk_cell BK129.out 1).trans rfl; have hfz80_0 := blk_frozen BK129.out 0; have hfz80_1 := blk_frozen BK129.out 1) | (go_at_call 21; (with_reducible refine (ids_Right.calls ((rd_T59 l0_3 x100_3).f0) true _ A70.out).mono ?_); rintro e w' ⟨rfl, ⟨nd, rfl⟩⟩; (try first | exact ⟨rfl, _, World.drewN_drewN _ _ _⟩ | exact ⟨rfl, _, Eq.trans (World.drewN_drewN _ _ _) (congrArg (World.drewN _) (Nat.add_assoc _ _ _))⟩)))
   go_ret
   exact ⟨by first | rfl | (simp [errW_none, errW_some] <;> rfl) | (simp [*, errW_none, errW_some] <;> rfl), by repeat (first | (with_reducible first | exact HB.out | apply below_alloc | apply pw_below_drewN | apply below_drew1 | refine below_set ?_ GE115.out | refine below_set ?_ GE129.out) | exact HB.out)⟩
  rw [if_neg c77] at H
  have c77b0 : decide (((rd_T59 l0_3 x100_3).f1) < 0) = false := decide_eq_false c77
  clear c77
  by_cases c82 : ((rd_T59 l0_3 x100_3).f1) ≥ a0_0
  ·rw [if_pos c82] at H
   have c82b0 : decide (a0_0 ≤ ((rd_T59 l0_3 x100_3).f1)) = true := decide_eq_true c82
   clear c82
   obtain rfl := Option.some.inj H
   have p128 : 0 ≤ (x100_3 : Int) := of_decide_eq_true (by first | (with_reducible assumption) | assumption)
   have q128 : x100_3 < (l0_3.length : Int) := of_decide_eq_true (by first | (with_reducible assumption) | assumption)
   obtain ⟨ad128, e128, hx128_0, hx128_1⟩ := at_T59 HR0_3.out x100_3 p128 q128
   cases e128
   replace hx128_0 := (HB.out.cell (World.block_lt_of_cell? w _ hx128_0)).trans hx128_0
   replace hx128_1 := (HB.out.cell (World.block_lt_of_cell? w _ hx128_1)).trans hx128_1
   replace p128 := eq_true p128
   replace q128 := eq_true q128
   go_wp2_with (first | (at_lookup; refine Mk.R_look (d := Kd.int .u64) (e := 44) (base := w.heap.size) (ok := fun _ => True) (xs := x3_3) (key := ((rd_T59 l0_3 x100_3).f0)) _ rfl _ _ rfl rfl ?lR ?lX ?lW ?_; (case lX => first | rfl | (go_simp; done) | (go_simp; rfl)); (case lW => exact key_S59 HW_l0_3.out (of_decide_eq_true (by first | (with_reducible assumption) | assumption) : 0 ≤ x100_3) (of_decide_eq_true (by first | (with_reducible assumption) | assumption) : x100_3 < (l0_3.length : Int))); (case lR => (with_reducible repeat (first | apply Mk.R_alloc | apply Mk.R_drewN | apply Mk.R_drew)); (first | exact HO_3.out | exact Mk.R_mono (Mk.R_far (p := ⟨gb129, 1, none⟩) (Mk.R_far (p := ⟨gb129, 0, none⟩) (Mk.R_types HO_3.out BK129.out trivial) (fun _ hk => hk.2) (.int .u64 ((rd_T59 l0_3 x100_3).f0))) (fun _ hk => hk.2) (.int .i64 ((rd_T59 l0_3 x100_3).f1))) (fun _ hk => trivial))); (first | rw [c25b0] | rw [c72b0] | skip)) | ((with_reducible refine gate_dst (N := 10) rfl ?_); (try (refine gate_guard (by rfl) ?_; dsimp only)); refine box_event ?hg (N := 10) ?hd (cs := #[.int .u64 0, .int .i64 0]) (t := 59) ?hr ?_; (case hd => rfl); (case hg => rfl); (case hr => first | (go_simp; done) | (go_simp; rfl)); intro gb129 hg w83 hbox hb; have n0_ := Aside0.mk (Mk.R_below (by (with_reducible repeat (first | apply Mk.R_alloc | apply Mk.R_drewN | apply Mk.R_drew)); exact HO_3.out) hb); have n1_ := Aside0.mk (blk_below (g := gb115) (o := .cells #[.int .i64 a0_0, .slice A0_1 l0_1.length c0_1, .slice A0_2 l0_2.length c0_2, .slice (some ad128) l0_3.length c0_3] 26 (0, 0)) (by (with_reducible repeat (first | refine blk_drewN ?_ _ | refine blk_drew ?_ | refine blk_alloc ?_ _)); exact BK115.out) hb); have n2_ := Aside0.mk (below_step (by repeat (first | (with_reducible first | exact HB.out | apply below_alloc | apply pw_below_drewN | apply below_drew1 | refine below_set ?_ GE115.out) | exact HB.out)) hb); have n3_ := Aside0.mk (hbox); have n4_ := Aside0.mk ((by rw [hg]; exact (below_size (by repeat (first | (with_reducible first | exact HB.out | apply below_alloc | apply pw_below_drewN | apply below_drew1 | refine below_set ?_ GE115.out) | exact HB.out))) : w.heap.size ≤ gb129)); have n5_ := Aside0.mk ((by rw [hg]; exact (below_size (by repeat (first | (with_reducible first | exact HB.out | apply below_alloc | apply pw_below_drewN | apply below_drew1 | refine below_set ?_ GE115.out) | exact HB.out))) : w.heap.size ≤ gb129)); have n6_ := Aside0.mk ((by rw [hg]; exact Nat.ne_of_lt (blk_lt (g := gb115) (o := .cells #[.int .i64 a0_0, .slice A0_1 l0_1.length c0_1, .slice A0_2 l0_2.length c0_2, .slice (some ad128) l0_3.length c0_3] 26 (0, 0)) (by (with_reducible repeat (first | refine blk_drewN ?_ _ | refine blk_drew ?_ | refine blk_alloc ?_ _)); exact BK115.out)) : gb115 ≠ gb129)); have n7_ := Aside0.mk ((by rw [hg]; exact Nat.ne_of_gt (blk_lt (g := gb115) (o := .cells #[.int .i64 a0_0, .slice A0_1 l0_1.length c0_1, .slice A0_2 l0_2.length c0_2, .slice (some ad128) l0_3.length c0_3] 26 (0, 0)) (by (with_reducible repeat (first | refine blk_drewN ?_ _ | refine blk_drew ?_ | refine blk_alloc ?_ _)); exact BK115.out)) : gb129 ≠ gb115)); clear HO_3; clear BK115; clear HB; have HO_3 := n0_; have BK115 := n1_; have HB := n2_; have BK129 := n3_; have GW129 := n4_; have GE129 := n5_; have NB115_129 := n6_; have NB129_115 := n7_; clear n0_ n1_ n2_ n3_ n4_ n5_ n6_ n7_; clear hb hbox hg; have hnb84 := NB129_115.out; have hnc84 := NB115_129.out; have hcz85_0 : w83.cell? ⟨gb129, 0, none⟩ = some (.int .u64 0) := (blk_cell BK129.out 0).trans rfl; have hcz85_1 : w83.cell? ⟨gb129, 1, none⟩ = some (.int .i64 0) := (blk_cell BK129.out 1).trans rfl; have hfz85_0 := blk_frozen BK129.out 0; have hfz85_1 := blk_frozen BK129.out 1) | (go_at_call 21; (with_reducible refine (ids_Right.calls ((rd_T59 l0_3 x100_3).f0) true _ A70.out).mono ?_); rintro e w' ⟨rfl, ⟨nd, rfl⟩⟩; (try first | exact ⟨rfl, _, World.drewN_drewN _ _ _⟩ | exact ⟨rfl, _, Eq.trans (World.drewN_drewN _ _ _) (congrArg (World.drewN _) (Nat.add_assoc _ _ _))⟩); have hcz87_0 : w83.cell? ⟨gb115, 0, none⟩ = some (.int .i64 a0_0) := (blk_cell BK115.out 0).trans rfl; have hcz87_1 : w83.cell? ⟨gb115, 1, none⟩ = some (.slice A0_1 l0_1.length c0_1) := (blk_cell BK115.out 1).trans rfl; have hcz87_2 : w83.cell? ⟨gb115, 2, none⟩ = some (.slice A0_2 l0_2.length c0_2) := (blk_cell BK115.out 2).trans rfl; have hcz87_3 : w83.cell? ⟨gb115, 3, none⟩ = some (.slice (some ad128) l0_3.length c0_3) := (blk_cell BK115.out 3).trans rfl; have hfz87_0 := blk_frozen BK115.out 0; have hfz87_1 := blk_frozen BK115.out 1; have hfz87_2 := blk_frozen BK115.out 2; have hfz87_3 := blk_frozen BK115.out 3))
   go_ret
   exact ⟨by first | rfl | (simp [errW_none, errW_some] <;> rfl) | (simp [*, errW_none, errW_some] <;> rfl), by repeat (first | (with_reducible first | exact HB.out | apply below_alloc | apply pw_below_drewN | apply below_drew1 | refine below_set ?_ GE115.out | refine below_set ?_ GE129.out) | exact HB.out)⟩
  rw [if_neg c82] at H
  have c82b0 : decide (a0_0 ≤ ((rd_T59 l0_3 x100_3).f1)) = false := decide_eq_false c82
  clear c82
  by_cases c88 : x3_3.length < 17592186044416
  rotate_left
  ·rw [if_neg c88] at H
   exact absurd H (by simp)
  rw [if_pos c88] at H
  have LMc88 := Aside0.mk c88
  clear c88
  obtain ⟨y131, hy131⟩ : ∃ y_ : List Int, y_ = (x3_3 ++ [(rd_T59 l0_3 x100_3).f0]) := ⟨_, rfl⟩
  replace H : (topo_Check.l2 k3 y131 l0_3 (l0_3.length : Int) (wrap64 (x100_3 + 1)) a0_0 l0_1 l0_2 l0_3) = some r := by first | (rw [hy131]; with_reducible exact H) | (have H2_ := (Option.bind_some _ _).symm.trans H; rw [hy131]; with_reducible exact H2_) | (have H2_ := (Option.bind_some _ _).symm.trans H; with_reducible exact H2_) | with_reducible exact H | (rw [hy131]; exact H) | exact H
  have Ny131 := Aside0.mk hy131
  clear hy131
  have H' := Aside0.mk H
  clear H
  have p128 : 0 ≤ (x100_3 : Int) := of_decide_eq_true (by first | (with_reducible assumption) | assumption)
  have q128 : x100_3 < (l0_3.length : Int) := of_decide_eq_true (by first | (with_reducible assumption) | assumption)
  obtain ⟨ad128, e128, hx128_0, hx128_1⟩ := at_T59 HR0_3.out x100_3 p128 q128
  cases e128
  replace hx128_0 := (HB.out.cell (World.block_lt_of_cell? w _ hx128_0)).trans hx128_0
  replace hx128_1 := (HB.out.cell (World.block_lt_of_cell? w _ hx128_1)).trans hx128_1
  replace p128 := eq_true p128
  replace q128 := eq_true q128
  go_wp2_with (first | (at_lookup; refine Mk.R_look (d := Kd.int .u64) (e := 44) (base := w.heap.size) (ok := fun _ => True) (xs := x3_3) (key := ((rd_T59 l0_3 x100_3).f0)) _ rfl _ _ rfl rfl ?lR ?lX ?lW ?_; (case lX => first | rfl | (go_simp; done) | (go_simp; rfl)); (case lW => exact key_S59 HW_l0_3.out (of_decide_eq_true (by first | (with_reducible assumption) | assumption) : 0 ≤ x100_3) (of_decide_eq_true (by first | (with_reducible assumption) | assumption) : x100_3 < (l0_3.length : Int))); (case lR => (with_reducible repeat (first | apply Mk.R_alloc | apply Mk.R_drewN | apply Mk.R_drew)); (first | exact HO_3.out | exact Mk.R_mono (Mk.R_far (p := ⟨gb129, 1, none⟩) (Mk.R_far (p := ⟨gb129, 0, none⟩) (Mk.R_types HO_3.out BK129.out trivial) (fun _ hk => hk.2) (.int .u64 ((rd_T59 l0_3 x100_3).f0))) (fun _ hk => hk.2) (.int .i64 ((rd_T59 l0_3 x100_3).f1))) (fun _ hk => trivial))); (first | rw [c25b0] | rw [c72b0] | skip)) | ((with_reducible refine gate_dst (N := 10) rfl ?_); (try (refine gate_guard (by rfl) ?_; dsimp only)); refine box_event ?hg (N := 10) ?hd (cs := #[.int .u64 0, .int .i64 0]) (t := 59) ?hr ?_; (case hd => rfl); (case hg => rfl); (case hr => first | (go_simp; done) | (go_simp; rfl)); intro gb129 hg w89 hbox hb; have n0_ := Aside0.mk (Mk.R_below (by (with_reducible repeat (first | apply Mk.R_alloc | apply Mk.R_drewN | apply Mk.R_drew)); exact HO_3.out) hb); have n1_ := Aside0.mk (blk_below (g := gb115) (o := .cells #[.int .i64 a0_0, .slice A0_1 l0_1.length c0_1, .slice A0_2 l0_2.length c0_2, .slice (some ad128) l0_3.length c0_3] 26 (0, 0)) (by (with_reducible repeat (first | refine blk_drewN ?_ _ | refine blk_drew ?_ | refine blk_alloc ?_ _)); exact BK115.out) hb); have n2_ := Aside0.mk (below_step (by repeat (first | (with_reducible first | exact HB.out | apply below_alloc | apply pw_below_drewN | apply below_drew1 | refine below_set ?_ GE115.out) | exact HB.out)) hb); have n3_ := Aside0.mk (hbox); have n4_ := Aside0.mk ((by rw [hg]; exact (below_size (by repeat (first | (with_reducible first | exact HB.out | apply below_alloc | apply pw_below_drewN | apply below_drew1 | refine below_set ?_ GE115.out) | exact HB.out))) : w.heap.size ≤ gb129)); have n5_ := Aside0.mk ((by rw [hg]; exact (below_size (by repeat (first | (with_reducible first | exact HB.out | apply below_alloc | apply pw_below_drewN | apply below_drew1 | refine below_set ?_ GE115.out) | exact HB.out))) : w.heap.size ≤ gb129)); have n6_ := Aside0.mk ((by rw [hg]; exact Nat.ne_of_lt (blk_lt (g := gb115) (o := .cells #[.int .i64 a0_0, .slice A0_1 l0_1.length c0_1, .slice A0_2 l0_2.length c0_2, .slice (some ad128) l0_3.length c0_3] 26 (0, 0)) (by (with_reducible repeat (first | refine blk_drewN ?_ _ | refine blk_drew ?_ | refine blk_alloc ?_ _)); exact BK115.out)) : gb115 ≠ gb129)); have n7_ := Aside0.mk ((by rw [hg]; exact Nat.ne_of_gt (blk_lt (g := gb115) (o := .cells #[.int .i64 a0_0, .slice A0_1 l0_1.length c0_1, .slice A0_2 l0_2.length c0_2, .slice (some ad128) l0_3.length c0_3] 26 (0, 0)) (by (with_reducible repeat (first | refine blk_drewN ?_ _ | refine blk_drew ?_ | refine blk_alloc ?_ _)); exact BK115.out)) : gb129 ≠ gb115)); clear HO_3; clear BK115; clear HB; have HO_3 := n0_; have BK115 := n1_; have HB := n2_; have BK129 := n3_; have GW129 := n4_; have GE129 := n5_; have NB115_129 := n6_; have NB129_115 := n7_; clear n0_ n1_ n2_ n3_ n4_ n5_ n6_ n7_; clear hb hbox hg; have hnb90 := NB129_115.out; have hnc90 := NB115_129.out; have hcz91_0 : w89.cell? ⟨gb129, 0, none⟩ = some (.int .u64 0) := (blk_cell BK129.out 0).trans rfl; have hcz91_1 : w89.cell? ⟨gb129, 1, none⟩ = some (.int .i64 0) := (blk_cell BK129.out 1).trans rfl; have hfz91_0 := blk_frozen BK129.out 0; have hfz91_1 := blk_frozen BK129.out 1) | (go_at_call 21; (with_reducible refine (ids_Right.calls ((rd_T59 l0_3 x100_3).f0) true _ A70.out).mono ?_); rintro e w' ⟨rfl, ⟨nd, rfl⟩⟩; (try first | exact ⟨rfl, _, World.drewN_drewN _ _ _⟩ | exact ⟨rfl, _, Eq.trans (World.drewN_drewN _ _ _) (congrArg (World.drewN _) (Nat.add_assoc _ _ _))⟩); have hcz93_0 : w89.cell? ⟨gb115, 0, none⟩ = some (.int .i64 a0_0) := (blk_cell BK115.out 0).trans rfl; have hcz93_1 : w89.cell? ⟨gb115, 1, none⟩ = some (.slice A0_1 l0_1.length c0_1) := (blk_cell BK115.out 1).trans rfl; have hcz93_2 : w89.cell? ⟨gb115, 2, none⟩ = some (.slice A0_2 l0_2.length c0_2) := (blk_cell BK115.out 2).trans rfl; have hcz93_3 : w89.cell? ⟨gb115, 3, none⟩ = some (.slice (some ad128) l0_3.length c0_3) := (blk_cell BK115.out 3).trans rfl; have hfz93_0 := blk_frozen BK115.out 0; have hfz93_1 := blk_frozen BK115.out 1; have hfz93_2 := blk_frozen BK115.out 2; have hfz93_3 := blk_frozen BK115.out 3) | (at_mapUpdate; refine Mk.R_store (w0 := w) (d := Kd.int .u64) (e := 44) (base := w.heap.size) (ok := fun _ => True) (xs := x3_3) (key := ((rd_T59 l0_3 x100_3).f0)) _ rfl _ _ _ rfl rfl ?aO ?aX rfl ?aW ?aL ?aB ?_; (case aX => first | rfl | (go_simp; done) | (go_simp; rfl)); (case aW => exact key_S59 HW_l0_3.out (of_decide_eq_true (by first | (with_reducible assumption) | assumption) : 0 ≤ x100_3) (of_decide_eq_true (by first | (with_reducible assumption) | assumption) : x100_3 < (l0_3.length : Int))); (case aB => exact (by repeat (first | (with_reducible first | exact HB.out | apply below_alloc | apply pw_below_drewN | apply below_drew1 | refine below_set ?_ GE115.out | refine below_set ?_ GE129.out) | exact HB.out))); (case aO => exact (by (with_reducible repeat (first | apply Mk.R_alloc | apply Mk.R_drewN | apply Mk.R_drew)); exact Mk.R_mono (Mk.R_far (p := ⟨gb129, 1, none⟩) (Mk.R_far (p := ⟨gb129, 0, none⟩) (Mk.R_types HO_3.out BK129.out trivial) (fun _ hk => hk.2) (.int .u64 ((rd_T59 l0_3 x100_3).f0))) (fun _ hk => hk.2) (.int .i64 ((rd_T59 l0_3 x100_3).f1))) (fun _ hk => trivial))); (case aL => have := LMc88.out; unfold maxLen; omega); intro w94 ho hb hg; rw [← Ny131.out] at ho; have n0_ := Aside0.mk (blk_grown (g := gb115) (o := .cells #[.int .i64 a0_0, .slice A0_1 l0_1.length c0_1, .slice A0_2 l0_2.length c0_2, .slice (some ad128) l0_3.length c0_3] 26 (0, 0)) (by (with_reducible repeat (first | refine blk_drewN ?_ _ | refine blk_drew ?_ | refine blk_alloc ?_ _)); refine blk_far ?_ NB115_129.out _; (with_reducible repeat (first | refine blk_drewN ?_ _ | refine blk_drew ?_ | refine blk_alloc ?_ _)); refine blk_far ?_ NB115_129.out _; (with_reducible repeat (first | refine blk_drewN ?_ _ | refine blk_drew ?_ | refine blk_alloc ?_ _)); exact BK115.out) hg (Mk.R_ne HO_3.out BK115.out trivial)); have n1_ := Aside0.mk (blk_grown (g := gb129) (o := .cells #[.int .u64 ((rd_T59 l0_3 x100_3).f0), .int .i64 ((rd_T59 l0_3 x100_3).f1)] 59 (0, 0)) (by (with_reducible repeat (first | refine blk_drewN ?_ _ | refine blk_drew ?_ | refine blk_alloc ?_ _)); refine blk_put (cs := #[.int .u64 ((rd_T59 l0_3 x100_3).f0), .int .i64 0]) ?_ 1 _ rfl; (with_reducible repeat (first | refine blk_drewN ?_ _ | refine blk_drew ?_ | refine blk_alloc ?_ _)); refine blk_put (cs := #[.int .u64 0, .int .i64 0]) ?_ 0 _ rfl; (with_reducible repeat (first | refine blk_drewN ?_ _ | refine blk_drew ?_ | refine blk_alloc ?_ _)); exact BK129.out) hg (Mk.R_ne HO_3.out BK129.out trivial)); have n2_ := Aside0.mk (hb); have n3_ := Aside0.mk (ho); clear BK115; clear BK129; clear HB; clear HO_3; have BK115 := n0_; have BK129 := n1_; have HB := n2_; have HO133 := n3_; clear n0_ n1_ n2_ n3_; clear ho hb hg))
  go_roundg k3
  case measure => have := HJ1.out; have := HK2.out; have := HK3.out; omega
  case rel => exact ⟨(y131), (wrap64 (x100_3 + 1)), (by first | rfl | (simp; done) | (simp [*]; done)), H', ⟨by have := HJ1.out; have := HK2.out; have := HK3.out; omega⟩, ⟨by (with_reducible repeat (first | apply Mk.R_alloc | apply Mk.R_drewN | apply Mk.R_drew)); exact HO133.out⟩, ⟨by (with_reducible repeat (first | refine blk_drewN ?_ _ | refine blk_drew ?_ | refine blk_alloc ?_ _)); exact BK115.out⟩, ⟨by repeat (first | (with_reducible first | exact HB.out | apply below_alloc | apply pw_below_drewN | apply below_drew1 | refine below_set ?_ GE115.out | refine below_set ?_ GE129.out) | exact HB.out)⟩⟩
 rw [if_pos c20] at H
 have c20b0 : decide (x50_2 < (l0_1.length : Int)) = true := decide_eq_true c20
 clear c20
 by_cases c21 : 0 ≤ x50_2
 rotate_left
 ·rw [if_neg c21] at H
  exact absurd H (by simp)
 rw [if_pos c21] at H
 have c21b0 : decide (0 ≤ x50_2) = true := decide_eq_true c21
 clear c21
 by_cases c22 : x50_2 < (l0_1.length : Int)
 rotate_left
 ·rw [if_neg c22] at H
  exact absurd H (by simp)
 rw [if_pos c22] at H
 have c22b0 : decide (x50_2 < (l0_1.length : Int)) = true := decide_eq_true c22
 clear c22
 replace H := Option.bind_eq_some_iff.mp H
 obtain ⟨t121, A230, H⟩ := H
 replace H : (if t121 = 0 then (if Mk.mem ((rd_T48 l0_1 x50_2).f0) x3_2 = true then (some 9) else (if x3_2.length < 17592186044416 then (if x50_2 < (l0_2.length : Int) then (if ((rd_L9 l0_2 x50_2).length : Int) = (((rd_T48 l0_1 x50_2).f7).length : Int) then (topo_Check.l1 k2 (x3_2 ++ [(rd_T48 l0_1 x50_2).f0]) l0_1 (l0_1.length : Int) x50_2 (rd_L9 l0_2 x50_2) ((rd_L9 l0_2 x50_2).length : Int) 0 a0_0 l0_1 l0_2 l0_3) else (some 1)) else (none)) else (none))) else (some t121)) = some r := H
 have A23 := Aside0.mk A230
 clear A230
 by_cases c24 : t121 = 0
 rotate_left
 ·rw [if_neg c24] at H
  have c24b0 : (t121 == 0) = false := beq_eq_false_iff_ne.mpr c24
  have c24b1 : (t121 != 0) = true := bne_iff_ne.mpr c24
  obtain rfl := Option.some.inj H
  have p119 : 0 ≤ (x50_2 : Int) := of_decide_eq_true (by first | (with_reducible assumption) | assumption)
  have q119 : x50_2 < (l0_1.length : Int) := of_decide_eq_true (by first | (with_reducible assumption) | assumption)
  obtain ⟨ad119, A119_7, c119_7, e119, hx119_0, hx119_1, hx119_2, hx119_3, hx119_4, hx119_5, hx119_6, hx119_7, hl119_7, hi119_7⟩ := at_T48 HR0_1.out x50_2 p119 q119
  cases e119
  replace hx119_0 := (HB.out.cell (World.block_lt_of_cell? w _ hx119_0)).trans hx119_0
  replace hx119_1 := (HB.out.cell (World.block_lt_of_cell? w _ hx119_1)).trans hx119_1
  replace hx119_2 := (HB.out.cell (World.block_lt_of_cell? w _ hx119_2)).trans hx119_2
  replace hx119_3 := (HB.out.cell (World.block_lt_of_cell? w _ hx119_3)).trans hx119_3
  replace hx119_4 := (HB.out.cell (World.block_lt_of_cell? w _ hx119_4)).trans hx119_4
  replace hx119_5 := (HB.out.cell (World.block_lt_of_cell? w _ hx119_5)).trans hx119_5
  replace hx119_6 := (HB.out.cell (World.block_lt_of_cell? w _ hx119_6)).trans hx119_6
  replace hx119_7 := (HB.out.cell (World.block_lt_of_cell? w _ hx119_7)).trans hx119_7
  have HR119_7 := Aside0.mk hi119_7
  have HC119_7 := Aside0.mk hl119_7
  clear hi119_7 hl119_7
  replace p119 := eq_true p119
  replace q119 := eq_true q119
  go_wp2_with (first | (at_lookup; refine Mk.R_look (d := Kd.int .u64) (e := 44) (base := w.heap.size) (ok := fun _ => True) (xs := x3_2) (key := ((rd_T48 l0_1 x50_2).f0)) _ rfl _ _ rfl rfl ?lR ?lX ?lW ?_; (case lX => first | rfl | (go_simp; done) | (go_simp; rfl)); (case lW => exact key_S48 HW_l0_1.out (of_decide_eq_true (by first | (with_reducible assumption) | assumption) : 0 ≤ x50_2) (of_decide_eq_true (by first | (with_reducible assumption) | assumption) : x50_2 < (l0_1.length : Int))); (case lR => (with_reducible repeat (first | apply Mk.R_alloc | apply Mk.R_drewN | apply Mk.R_drew)); (first | exact HO_3.out)); (first | rw [c25b0] | rw [c72b0] | skip)) | ((with_reducible refine gate_dst (N := 5) rfl ?_); (try (refine gate_guard (by rfl) ?_; dsimp only)); refine box_event ?hg (N := 5) ?hd (cs := #[.int .u64 0, .int .u16 0, .int .i64 0, .int .i64 0, .int .i64 0, .int .i64 0, .int .i64 0, .slice none 0 0]) (t := 48) ?hr ?_; (case hd => rfl); (case hg => rfl); (case hr => first | (go_simp; done) | (go_simp; rfl)); intro gb120 hg w62 hbox hb; have n0_ := Aside0.mk (Mk.R_below (by (with_reducible repeat (first | apply Mk.R_alloc | apply Mk.R_drewN | apply Mk.R_drew)); exact HO_3.out) hb); have n1_ := Aside0.mk (blk_below (g := gb115) (o := .cells #[.int .i64 a0_0, .slice (some ad119) l0_1.length c0_1, .slice A0_2 l0_2.length c0_2, .slice A0_3 l0_3.length c0_3] 26 (0, 0)) (by (with_reducible repeat (first | refine blk_drewN ?_ _ | refine blk_drew ?_ | refine blk_alloc ?_ _)); exact BK115.out) hb); have n2_ := Aside0.mk (below_step (by repeat (first | (with_reducible first | exact HB.out | apply below_alloc | apply pw_below_drewN | apply below_drew1 | refine below_set ?_ GE115.out) | exact HB.out)) hb); have n3_ := Aside0.mk (hbox); have n4_ := Aside0.mk ((by rw [hg]; exact (below_size (by repeat (first | (with_reducible first | exact HB.out | apply below_alloc | apply pw_below_drewN | apply below_drew1 | refine below_set ?_ GE115.out) | exact HB.out))) : w.heap.size ≤ gb120)); have n5_ := Aside0.mk ((by rw [hg]; exact (below_size (by repeat (first | (with_reducible first | exact HB.out | apply below_alloc | apply pw_below_drewN | apply below_drew1 | refine below_set ?_ GE115.out) | exact HB.out))) : w.heap.size ≤ gb120)); have n6_ := Aside0.mk ((by rw [hg]; exact Nat.ne_of_lt (blk_lt (g := gb115) (o := .cells #[.int .i64 a0_0, .slice (some ad119) l0_1.length c0_1, .slice A0_2 l0_2.length c0_2, .slice A0_3 l0_3.length c0_3] 26 (0, 0)) (by (with_reducible repeat (first | refine blk_drewN ?_ _ | refine blk_drew ?_ | refine blk_alloc ?_ _)); exact BK115.out)) : gb115 ≠ gb120)); have n7_ := Aside0.mk ((by rw [hg]; exact Nat.ne_of_gt (blk_lt (g := gb115) (o := .cells #[.int .i64 a0_0, .slice (some ad119) l0_1.length c0_1, .slice A0_2 l0_2.length c0_2, .slice A0_3 l0_3.length c0_3] 26 (0, 0)) (by (with_reducible repeat (first | refine blk_drewN ?_ _ | refine blk_drew ?_ | refine blk_alloc ?_ _)); exact BK115.out)) : gb120 ≠ gb115)); clear HO_3; clear BK115; clear HB; have HO_3 := n0_; have BK115 := n1_; have HB := n2_; have BK120 := n3_; have GW120 := n4_; have GE120 := n5_; have NB115_120 := n6_; have NB120_115 := n7_; clear n0_ n1_ n2_ n3_ n4_ n5_ n6_ n7_; clear hb hbox hg; have hnb63 := NB120_115.out; have hnc63 := NB115_120.out; have hcz64_0 : w62.cell? ⟨gb120, 0, none⟩ = some (.int .u64 0) := (blk_cell BK120.out 0).trans rfl; have hcz64_1 : w62.cell? ⟨gb120, 1, none⟩ = some (.int .u16 0) := (blk_cell BK120.out 1).trans rfl; have hcz64_2 : w62.cell? ⟨gb120, 2, none⟩ = some (.int .i64 0) := (blk_cell BK120.out 2).trans rfl; have hcz64_3 : w62.cell? ⟨gb120, 3, none⟩ = some (.int .i64 0) := (blk_cell BK120.out 3).trans rfl; have hcz64_4 : w62.cell? ⟨gb120, 4, none⟩ = some (.int .i64 0) := (blk_cell BK120.out 4).trans rfl; have hcz64_5 : w62.cell? ⟨gb120, 5, none⟩ = some (.int .i64 0) := (blk_cell BK120.out 5).trans rfl; have hcz64_6 : w62.cell? ⟨gb120, 6, none⟩ = some (.int .i64 0) := (blk_cell BK120.out 6).trans rfl; have hcz64_7 : w62.cell? ⟨gb120, 7, none⟩ = some (.slice none 0 0) := (blk_cell BK120.out 7).trans rfl; have hfz64_0 := blk_frozen BK120.out 0; have hfz64_1 := blk_frozen BK120.out 1; have hfz64_2 := blk_frozen BK120.out 2; have hfz64_3 := blk_frozen BK120.out 3; have hfz64_4 := blk_frozen BK120.out 4; have hfz64_5 := blk_frozen BK120.out 5; have hfz64_6 := blk_frozen BK120.out 6; have hfz64_7 := blk_frozen BK120.out 7) | (go_at_call 20; (with_reducible refine (conf_Check.calls k2 ((rd_T48 l0_1 x50_2).f0) ((rd_T48 l0_1 x50_2).f1) ((rd_T48 l0_1 x50_2).f2) ((rd_T48 l0_1 x50_2).f3) ((rd_T48 l0_1 x50_2).f4) ((rd_T48 l0_1 x50_2).f5) ((rd_T48 l0_1 x50_2).f6) _ _ ((rd_T48 l0_1 x50_2).f7) t121 _ ?side1 ?side2 A23.out).mono ?_); (case side1 => exact Kd.C_below HR119_7.out (by repeat (first | (with_reducible first | exact HB.out | apply below_alloc | apply pw_below_drewN | apply below_drew1 | refine below_set ?_ GE115.out | refine below_set ?_ GE120.out) | exact HB.out))); (case side2 => exact HC119_7.out); rintro e w65 ⟨rfl, hb⟩; have n0_ := Aside0.mk (Mk.R_below (by (with_reducible repeat (first | apply Mk.R_alloc | apply Mk.R_drewN | apply Mk.R_drew)); exact (Mk.R_mono (Mk.R_far (p := ⟨gb120, 7, none⟩) (Mk.R_far (p := ⟨gb120, 6, none⟩) (Mk.R_far (p := ⟨gb120, 5, none⟩) (Mk.R_far (p := ⟨gb120, 4, none⟩) (Mk.R_far (p := ⟨gb120, 3, none⟩) (Mk.R_far (p := ⟨gb120, 2, none⟩) (Mk.R_far (p := ⟨gb120, 1, none⟩) (Mk.R_far (p := ⟨gb120, 0, none⟩) (Mk.R_types HO_3.out BK120.out trivial) (fun _ hk => hk.2) (.int .u64 ((rd_T48 l0_1 x50_2).f0))) (fun _ hk => hk.2) (.int .u16 ((rd_T48 l0_1 x50_2).f1))) (fun _ hk => hk.2) (.int .i64 ((rd_T48 l0_1 x50_2).f2))) (fun _ hk => hk.2) (.int .i64 ((rd_T48 l0_1 x50_2).f3))) (fun _ hk => hk.2) (.int .i64 ((rd_T48 l0_1 x50_2).f4))) (fun _ hk => hk.2) (.int .i64 ((rd_T48 l0_1 x50_2).f5))) (fun _ hk => hk.2) (.int .i64 ((rd_T48 l0_1 x50_2).f6))) (fun _ hk => hk.2) (.slice A119_7 ((rd_T48 l0_1 x50_2).f7).length c119_7)) (fun _ h_ => h_.1))) hb); have n1_ := Aside0.mk (blk_below (g := gb115) (o := .cells #[.int .i64 a0_0, .slice (some ad119) l0_1.length c0_1, .slice A0_2 l0_2.length c0_2, .slice A0_3 l0_3.length c0_3] 26 (0, 0)) (by (with_reducible repeat (first | refine blk_drewN ?_ _ | refine blk_drew ?_ | refine blk_alloc ?_ _)); refine blk_far ?_ NB115_120.out _; (with_reducible repeat (first | refine blk_drewN ?_ _ | refine blk_drew ?_ | refine blk_alloc ?_ _)); refine blk_far ?_ NB115_120.out _; (with_reducible repeat (first | refine blk_drewN ?_ _ | refine blk_drew ?_ | refine blk_alloc ?_ _)); refine blk_far ?_ NB115_120.out _; (with_reducible repeat (first | refine blk_drewN ?_ _ | refine blk_drew ?_ | refine blk_alloc ?_ _)); refine blk_far ?_ NB115_120.out _; (with_reducible repeat (first | refine blk_drewN ?_ _ | refine blk_drew ?_ | refine blk_alloc ?_ _)); refine blk_far ?_ NB115_120.out _; (with_reducible repeat (first | refine blk_drewN ?_ _ | refine blk_drew ?_ | refine blk_alloc ?_ _)); refine blk_far ?_ NB115_120.out _; (with_reducible repeat (first | refine blk_drewN ?_ _ | refine blk_drew ?_ | refine blk_alloc ?_ _)); refine blk_far ?_ NB115_120.out _; (with_reducible repeat (first | refine blk_drewN ?_ _ | refine blk_drew ?_ | refine blk_alloc ?_ _)); refine blk_far ?_ NB115_120.out _; (with_reducible repeat (first | refine blk_drewN ?_ _ | refine blk_drew ?_ | refine blk_alloc ?_ _)); exact BK115.out) hb); have n2_ := Aside0.mk (blk_below (g := gb120) (o := .cells #[.int .u64 ((rd_T48 l0_1 x50_2).f0), .int .u16 ((rd_T48 l0_1 x50_2).f1), .int .i64 ((rd_T48 l0_1 x50_2).f2), .int .i64 ((rd_T48 l0_1 x50_2).f3), .int .i64 ((rd_T48 l0_1 x50_2).f4), .int .i64 ((rd_T48 l0_1 x50_2).f5), .int .i64 ((rd_T48 l0_1 x50_2).f6), .slice A119_7 ((rd_T48 l0_1 x50_2).f7).length c119_7] 48 (0, 0)) (by (with_reducible repeat (first | refine blk_drewN ?_ _ | refine blk_drew ?_ | refine blk_alloc ?_ _)); refine blk_put (cs := #[.int .u64 ((rd_T48 l0_1 x50_2).f0), .int .u16 ((rd_T48 l0_1 x50_2).f1), .int .i64 ((rd_T48 l0_1 x50_2).f2), .int .i64 ((rd_T48 l0_1 x50_2).f3), .int .i64 ((rd_T48 l0_1 x50_2).f4), .int .i64 ((rd_T48 l0_1 x50_2).f5), .int .i64 ((rd_T48 l0_1 x50_2).f6), .slice none 0 0]) ?_ 7 _ rfl; (with_reducible repeat (first | refine blk_drewN ?_ _ | refine blk_drew ?_ | refine blk_alloc ?_ _)); refine blk_put (cs := #[.int .u64 ((rd_T48 l0_1 x50_2).f0), .int .u16 ((rd_T48 l0_1 x50_2).f1), .int .i64 ((rd_T48 l0_1 x50_2).f2), .int .i64 ((rd_T48 l0_1 x50_2).f3), .int .i64 ((rd_T48 l0_1 x50_2).f4), .int .i64 ((rd_T48 l0_1 x50_2).f5), .int .i64 0, .slice none 0 0]) ?_ 6 _ rfl; (with_reducible repeat (first | refine blk_drewN ?_ _ | refine blk_drew ?_ | refine blk_alloc ?_ _)); refine blk_put (cs := #[.int .u64 ((rd_T48 l0_1 x50_2).f0), .int .u16 ((rd_T48 l0_1 x50_2).f1), .int .i64 ((rd_T48 l0_1 x50_2).f2), .int .i64 ((rd_T48 l0_1 x50_2).f3), .int .i64 ((rd_T48 l0_1 x50_2).f4), .int .i64 0, .int .i64 0, .slice none 0 0]) ?_ 5 _ rfl; (with_reducible repeat (first | refine blk_drewN ?_ _ | refine blk_drew ?_ | refine blk_alloc ?_ _)); refine blk_put (cs := #[.int .u64 ((rd_T48 l0_1 x50_2).f0), .int .u16 ((rd_T48 l0_1 x50_2).f1), .int .i64 ((rd_T48 l0_1 x50_2).f2), .int .i64 ((rd_T48 l0_1 x50_2).f3), .int .i64 0, .int .i64 0, .int .i64 0, .slice none 0 0]) ?_ 4 _ rfl; (with_reducible repeat (first | refine blk_drewN ?_ _ | refine blk_drew ?_ | refine blk_alloc ?_ _)); refine blk_put (cs := #[.int .u64 ((rd_T48 l0_1 x50_2).f0), .int .u16 ((rd_T48 l0_1 x50_2).f1), .int .i64 ((rd_T48 l0_1 x50_2).f2), .int .i64 0, .int .i64 0, .int .i64 0, .int .i64 0, .slice none 0 0]) ?_ 3 _ rfl; (with_reducible repeat (first | refine blk_drewN ?_ _ | refine blk_drew ?_ | refine blk_alloc ?_ _)); refine blk_put (cs := #[.int .u64 ((rd_T48 l0_1 x50_2).f0), .int .u16 ((rd_T48 l0_1 x50_2).f1), .int .i64 0, .int .i64 0, .int .i64 0, .int .i64 0, .int .i64 0, .slice none 0 0]) ?_ 2 _ rfl; (with_reducible repeat (first | refine blk_drewN ?_ _ | refine blk_drew ?_ | refine blk_alloc ?_ _)); refine blk_put (cs := #[.int .u64 ((rd_T48 l0_1 x50_2).f0), .int .u16 0, .int .i64 0, .int .i64 0, .int .i64 0, .int .i64 0, .int .i64 0, .slice none 0 0]) ?_ 1 _ rfl; (with_reducible repeat (first | refine blk_drewN ?_ _ | refine blk_drew ?_ | refine blk_alloc ?_ _)); refine blk_put (cs := #[.int .u64 0, .int .u16 0, .int .i64 0, .int .i64 0, .int .i64 0, .int .i64 0, .int .i64 0, .slice none 0 0]) ?_ 0 _ rfl; (with_reducible repeat (first | refine blk_drewN ?_ _ | refine blk_drew ?_ | refine blk_alloc ?_ _)); exact BK120.out) hb); have n3_ := Aside0.mk (below_step (by repeat (first | (with_reducible first | exact HB.out | apply below_alloc | apply pw_below_drewN | apply below_drew1 | refine below_set ?_ GE115.out | refine below_set ?_ GE120.out) | exact HB.out)) hb); clear HO_3; clear BK115; clear BK120; clear HB; have HO_3 := n0_; have BK115 := n1_; have BK120 := n2_; have HB := n3_; clear n0_ n1_ n2_ n3_; (try clear hb); (try clear hb2); (try clear hk); (try clear hi)))
  go_ret
  exact ⟨by first | rfl | (simp [errW_none, errW_some] <;> rfl) | (simp [*, errW_none, errW_some] <;> rfl), by repeat (first | (with_reducible first | exact HB.out | apply below_alloc | apply pw_below_drewN | apply below_drew1 | refine below_set ?_ GE115.out | refine below_set ?_ GE120.out) | exact HB.out)⟩
 rw [if_pos c24] at H
 have c24b0 : (t121 == 0) = true := beq_iff_eq.mpr c24
 have c24b1 : (t121 != 0) = false := bne_eq_false_iff_eq.mpr c24
 clear c24
 by_cases c25 : Mk.mem ((rd_T48 l0_1 x50_2).f0) x3_2 = true
 ·rw [if_pos c25] at H
  have c25b0 : Mk.mem ((rd_T48 l0_1 x50_2).f0) x3_2 = true := c25
  clear c25
  obtain rfl := Option.some.inj H
  have p119 : 0 ≤ (x50_2 : Int) := of_decide_eq_true (by first | (with_reducible assumption) | assumption)
  have q119 : x50_2 < (l0_1.length : Int) := of_decide_eq_true (by first | (with_reducible assumption) | assumption)
  obtain ⟨ad119, A119_7, c119_7, e119, hx119_0, hx119_1, hx119_2, hx119_3, hx119_4, hx119_5, hx119_6, hx119_7, hl119_7, hi119_7⟩ := at_T48 HR0_1.out x50_2 p119 q119
  cases e119
  replace hx119_0 := (HB.out.cell (World.block_lt_of_cell? w _ hx119_0)).trans hx119_0
  replace hx119_1 := (HB.out.cell (World.block_lt_of_cell? w _ hx119_1)).trans hx119_1
  replace hx119_2 := (HB.out.cell (World.block_lt_of_cell? w _ hx119_2)).trans hx119_2
  replace hx119_3 := (HB.out.cell (World.block_lt_of_cell? w _ hx119_3)).trans hx119_3
  replace hx119_4 := (HB.out.cell (World.block_lt_of_cell? w _ hx119_4)).trans hx119_4
  replace hx119_5 := (HB.out.cell (World.block_lt_of_cell? w _ hx119_5)).trans hx119_5
  replace hx119_6 := (HB.out.cell (World.block_lt_of_cell? w _ hx119_6)).trans hx119_6
  replace hx119_7 := (HB.out.cell (World.block_lt_of_cell? w _ hx119_7)).trans hx119_7
  have HR119_7 := Aside0.mk hi119_7
  have HC119_7 := Aside0.mk hl119_7
  clear hi119_7 hl119_7
  replace p119 := eq_true p119
  replace q119 := eq_true q119
  go_wp2_with (first | (at_lookup; refine Mk.R_look (d := Kd.int .u64) (e := 44) (base := w.heap.size) (ok := fun _ => True) (xs := x3_2) (key := ((rd_T48 l0_1 x50_2).f0)) _ rfl _ _ rfl rfl ?lR ?lX ?lW ?_; (case lX => first | rfl | (go_simp; done) | (go_simp; rfl)); (case lW => exact key_S48 HW_l0_1.out (of_decide_eq_true (by first | (with_reducible assumption) | assumption) : 0 ≤ x50_2) (of_decide_eq_true (by first | (with_reducible assumption) | assumption) : x50_2 < (l0_1.length : Int))); (case lR => (with_reducible repeat (first | apply Mk.R_alloc | apply Mk.R_drewN | apply Mk.R_drew)); (first | exact HO_3.out)); (first | rw [c25b0] | rw [c72b0] | skip)) | ((with_reducible refine gate_dst (N := 5) rfl ?_); (try (refine gate_guard (by rfl) ?_; dsimp only)); refine box_event ?hg (N := 5) ?hd (cs := #[.int .u64 0, .int .u16 0, .int .i64 0, .int .i64 0, .int .i64 0, .int .i64 0, .int .i64 0, .slice none 0 0]) (t := 48) ?hr ?_; (case hd => rfl); (case hg => rfl); (case hr => first | (go_simp; done) | (go_simp; rfl)); intro gb120 hg w26 hbox hb; have n0_ := Aside0.mk (Mk.R_below (by (with_reducible repeat (first | apply Mk.R_alloc | apply Mk.R_drewN | apply Mk.R_drew)); exact HO_3.out) hb); have n1_ := Aside0.mk (blk_below (g := gb115) (o := .cells #[.int .i64 a0_0, .slice (some ad119) l0_1.length c0_1, .slice A0_2 l0_2.length c0_2, .slice A0_3 l0_3.length c0_3] 26 (0, 0)) (by (with_reducible repeat (first | refine blk_drewN ?_ _ | refine blk_drew ?_ | refine blk_alloc ?_ _)); exact BK115.out) hb); have n2_ := Aside0.mk (below_step (by repeat (first | (with_reducible first | exact HB.out | apply below_alloc | apply pw_below_drewN | apply below_drew1 | refine below_set ?_ GE115.out) | exact HB.out)) hb); have n3_ := Aside0.mk (hbox); have n4_ := Aside0.mk ((by rw [hg]; exact (below_size (by repeat (first | (with_reducible first | exact HB.out | apply below_alloc | apply pw_below_drewN | apply below_drew1 | refine below_set ?_ GE115.out) | exact HB.out))) : w.heap.size ≤ gb120)); have n5_ := Aside0.mk ((by rw [hg]; exact (below_size (by repeat (first | (with_reducible first | exact HB.out | apply below_alloc | apply pw_below_drewN | apply below_drew1 | refine below_set ?_ GE115.out) | exact HB.out))) : w.heap.size ≤ gb120)); have n6_ := Aside0.mk ((by rw [hg]; exact Nat.ne_of_lt (blk_lt (g := gb115) (o := .cells #[.int .i64 a0_0, .slice (some ad119) l0_1.length c0_1, .slice A0_2 l0_2.length c0_2, .slice A0_3 l0_3.length c0_3] 26 (0, 0)) (by (with_reducible repeat (first | refine blk_drewN ?_ _ | refine blk_drew ?_ | refine blk_alloc ?_ _)); exact BK115.out)) : gb115 ≠ gb120)); have n7_ := Aside0.mk ((by rw [hg]; exact Nat.ne_of_gt (blk_lt (g := gb115) (o := .cells #[.int .i64 a0_0, .slice (some ad119) l0_1.length c0_1, .slice A0_2 l0_2.length c0_2, .slice A0_3 l0_3.length c0_3] 26 (0, 0)) (by (with_reducible repeat (first | refine blk_drewN ?_ _ | refine blk_drew ?_ | refine blk_alloc ?_ _)); exact BK115.out)) : gb120 ≠ gb115)); clear HO_3; clear BK115; clear HB; have HO_3 := n0_; have BK115 := n1_; have HB := n2_; have BK120 := n3_; have GW120 := n4_; have GE120 := n5_; have NB115_120 := n6_; have NB120_115 := n7_; clear n0_ n1_ n2_ n3_ n4_ n5_ n6_ n7_; clear hb hbox hg; have hnb27 := NB120_115.out; have hnc27 := NB115_120.out; have hcz28_0 : w26.cell? ⟨gb120, 0, none⟩ = some (.int .u64 0) := (blk_cell BK120.out 0).trans rfl; have hcz28_1 : w26.cell? ⟨gb120, 1, none⟩ = some (.int .u16 0) := (blk_cell BK120.out 1).trans rfl; have hcz28_2 : w26.cell? ⟨gb120, 2, none⟩ = some (.int .i64 0) := (blk_cell BK120.out 2).trans rfl; have hcz28_3 : w26.cell? ⟨gb120, 3, none⟩ = some (.int .i64 0) := (blk_cell BK120.out 3).trans rfl; have hcz28_4 : w26.cell? ⟨gb120, 4, none⟩ = some (.int .i64 0) := (blk_cell BK120.out 4).trans rfl; have hcz28_5 : w26.cell? ⟨gb120, 5, none⟩ = some (.int .i64 0) := (blk_cell BK120.out 5).trans rfl; have hcz28_6 : w26.cell? ⟨gb120, 6, none⟩ = some (.int .i64 0) := (blk_cell BK120.out 6).trans rfl; have hcz28_7 : w26.cell? ⟨gb120, 7, none⟩ = some (.slice none 0 0) := (blk_cell BK120.out 7).trans rfl; have hfz28_0 := blk_frozen BK120.out 0; have hfz28_1 := blk_frozen BK120.out 1; have hfz28_2 := blk_frozen BK120.out 2; have hfz28_3 := blk_frozen BK120.out 3; have hfz28_4 := blk_frozen BK120.out 4; have hfz28_5 := blk_frozen BK120.out 5; have hfz28_6 := blk_frozen BK120.out 6; have hfz28_7 := blk_frozen BK120.out 7) | (go_at_call 20; (with_reducible refine (conf_Check.calls k2 ((rd_T48 l0_1 x50_2).f0) ((rd_T48 l0_1 x50_2).f1) ((rd_T48 l0_1 x50_2).f2) ((rd_T48 l0_1 x50_2).f3) ((rd_T48 l0_1 x50_2).f4) ((rd_T48 l0_1 x50_2).f5) ((rd_T48 l0_1 x50_2).f6) _ _ ((rd_T48 l0_1 x50_2).f7) t121 _ ?side1 ?side2 A23.out).mono ?_); (case side1 => exact Kd.C_below HR119_7.out (by repeat (first | (with_reducible first | exact HB.out | apply below_alloc | apply pw_below_drewN | apply below_drew1 | refine below_set ?_ GE115.out | refine below_set ?_ GE120.out) | exact HB.out))); (case side2 => exact HC119_7.out); rintro e w29 ⟨rfl, hb⟩; have n0_ := Aside0.mk (Mk.R_below (by (with_reducible repeat (first | apply Mk.R_alloc | apply Mk.R_drewN | apply Mk.R_drew)); exact (Mk.R_mono (Mk.R_far (p := ⟨gb120, 7, none⟩) (Mk.R_far (p := ⟨gb120, 6, none⟩) (Mk.R_far (p := ⟨gb120, 5, none⟩) (Mk.R_far (p := ⟨gb120, 4, none⟩) (Mk.R_far (p := ⟨gb120, 3, none⟩) (Mk.R_far (p := ⟨gb120, 2, none⟩) (Mk.R_far (p := ⟨gb120, 1, none⟩) (Mk.R_far (p := ⟨gb120, 0, none⟩) (Mk.R_types HO_3.out BK120.out trivial) (fun _ hk => hk.2) (.int .u64 ((rd_T48 l0_1 x50_2).f0))) (fun _ hk => hk.2) (.int .u16 ((rd_T48 l0_1 x50_2).f1))) (fun _ hk => hk.2) (.int .i64 ((rd_T48 l0_1 x50_2).f2))) (fun _ hk => hk.2) (.int .i64 ((rd_T48 l0_1 x50_2).f3))) (fun _ hk => hk.2) (.int .i64 ((rd_T48 l0_1 x50_2).f4))) (fun _ hk => hk.2) (.int .i64 ((rd_T48 l0_1 x50_2).f5))) (fun _ hk => hk.2) (.int .i64 ((rd_T48 l0_1 x50_2).f6))) (fun _ hk => hk.2) (.slice A119_7 ((rd_T48 l0_1 x50_2).f7).length c119_7)) (fun _ h_ => h_.1))) hb); have n1_ := Aside0.mk (blk_below (g := gb115) (o := .cells #[.int .i64 a0_0, .slice (some ad119) l0_1.length c0_1, .slice A0_2 l0_2.length c0_2, .slice A0_3 l0_3.length c0_3] 26 (0, 0)) (by (with_reducible repeat (first | refine blk_drewN ?_ _ | refine blk_drew ?_ | refine blk_alloc ?_ _)); refine blk_far ?_ NB115_120.out _; (with_reducible repeat (first | refine blk_drewN ?_ _ | refine blk_drew ?_ | refine blk_alloc ?_ _)); refine blk_far ?_ NB115_120.out _; (with_reducible repeat (first | refine blk_drewN ?_ _ | refine blk_drew ?_ | refine blk_alloc ?_ _)); refine blk_far ?_ NB115_120.out _; (with_reducible repeat (first | refine blk_drewN ?_ _ | refine blk_drew ?_ | refine blk_alloc ?_ _)); refine blk_far ?_ NB115_120.out _; (with_reducible repeat (first | refine blk_drewN ?_ _ | refine blk_drew ?_ | refine blk_alloc ?_ _)); refine blk_far ?_ NB115_120.out _; (with_reducible repeat (first | refine blk_drewN ?_ _ | refine blk_drew ?_ | refine blk_alloc ?_ _)); refine blk_far ?_ NB115_120.out _; (with_reducible repeat (first | refine blk_drewN ?_ _ | refine blk_drew ?_ | refine blk_alloc ?_ _)); refine blk_far ?_ NB115_120.out _; (with_reducible repeat (first | refine blk_drewN ?_ _ | refine blk_drew ?_ | refine blk_alloc ?_ _)); refine blk_far ?_ NB115_120.out _; (with_reducible repeat (first | refine blk_drewN ?_ _ | refine blk_drew ?_ | refine blk_alloc ?_ _)); exact BK115.out) hb); have n2_ := Aside0.mk (blk_below (g := gb120) (o := .cells #[.int .u64 ((rd_T48 l0_1 x50_2).f0), .int .u16 ((rd_T48 l0_1 x50_2).f1), .int .i64 ((rd_T48 l0_1 x50_2).f2), .int .i64 ((rd_T48 l0_1 x50_2).f3), .int .i64 ((rd_T48 l0_1 x50_2).f4), .int .i64 ((rd_T48 l0_1 x50_2).f5), .int .i64 ((rd_T48 l0_1 x50_2).f6), .slice A119_7 ((rd_T48 l0_1 x50_2).f7).length c119_7] 48 (0, 0)) (by (with_reducible repeat (first | refine blk_drewN ?_ _ | refine blk_drew ?_ | refine blk_alloc ?_ _)); refine blk_put (cs := #[.int .u64 ((rd_T48 l0_1 x50_2).f0), .int .u16 ((rd_T48 l0_1 x50_2).f1), .int .i64 ((rd_T48 l0_1 x50_2).f2), .int .i64 ((rd_T48 l0_1 x50_2).f3), .int .i64 ((rd_T48 l0_1 x50_2).f4), .int .i64 ((rd_T48 l0_1 x50_2).f5), .int .i64 ((rd_T48 l0_1 x50_2).f6), .slice none 0 0]) ?_ 7 _ rfl; (with_reducible repeat (first | refine blk_drewN ?_ _ | refine blk_drew ?_ | refine blk_alloc ?_ _)); refine blk_put (cs := #[.int .u64 ((rd_T48 l0_1 x50_2).f0), .int .u16 ((rd_T48 l0_1 x50_2).f1), .int .i64 ((rd_T48 l0_1 x50_2).f2), .int .i64 ((rd_T48 l0_1 x50_2).f3), .int .i64 ((rd_T48 l0_1 x50_2).f4), .int .i64 ((rd_T48 l0_1 x50_2).f5), .int .i64 0, .slice none 0 0]) ?_ 6 _ rfl; (with_reducible repeat (first | refine blk_drewN ?_ _ | refine blk_drew ?_ | refine blk_alloc ?_ _)); refine blk_put (cs := #[.int .u64 ((rd_T48 l0_1 x50_2).f0), .int .u16 ((rd_T48 l0_1 x50_2).f1), .int .i64 ((rd_T48 l0_1 x50_2).f2), .int .i64 ((rd_T48 l0_1 x50_2).f3), .int .i64 ((rd_T48 l0_1 x50_2).f4), .int .i64 0, .int .i64 0, .slice none 0 0]) ?_ 5 _ rfl; (with_reducible repeat (first | refine blk_drewN ?_ _ | refine blk_drew ?_ | refine blk_alloc ?_ _)); refine blk_put (cs := #[.int .u64 ((rd_T48 l0_1 x50_2).f0), .int .u16 ((rd_T48 l0_1 x50_2).f1), .int .i64 ((rd_T48 l0_1 x50_2).f2), .int .i64 ((rd_T48 l0_1 x50_2).f3), .int .i64 0, .int .i64 0, .int .i64 0, .slice none 0 0]) ?_ 4 _ rfl; (with_reducible repeat (first | refine blk_drewN ?_ _ | refine blk_drew ?_ | refine blk_alloc ?_ _)); refine blk_put (cs := #[.int .u64 ((rd_T48 l0_1 x50_2).f0), .int .u16 ((rd_T48 l0_1 x50_2).f1), .int .i64 ((rd_T48 l0_1 x50_2).f2), .int .i64 0, .int .i64 0, .int .i64 0, .int .i64 0, .slice none 0 0]) ?_ 3 _ rfl; (with_reducible repeat (first | refine blk_drewN ?_ _ | refine blk_drew ?_ | refine blk_alloc ?_ _)); refine blk_put (cs := #[.int .u64 ((rd_T48 l0_1 x50_2).f0), .int .u16 ((rd_T48 l0_1 x50_2).f1), .int .i64 0, .int .i64 0, .int .i64 0, .int .i64 0, .int .i64 0, .slice none 0 0]) ?_ 2 _ rfl; (with_reducible repeat (first | refine blk_drewN ?_ _ | refine blk_drew ?_ | refine blk_alloc ?_ _)); refine blk_put (cs := #[.int .u64 ((rd_T48 l0_1 x50_2).f0), .int .u16 0, .int .i64 0, .int .i64 0, .int .i64 0, .int .i64 0, .int .i64 0, .slice none 0 0]) ?_ 1 _ rfl; (with_reducible repeat (first | refine blk_drewN ?_ _ | refine blk_drew ?_ | refine blk_alloc ?_ _)); refine blk_put (cs := #[.int .u64 0, .int .u16 0, .int .i64 0, .int .i64 0, .int .i64 0, .int .i64 0, .int .i64 0, .slice none 0 0]) ?_ 0 _ rfl; (with_reducible repeat (first | refine blk_drewN ?_ _ | refine blk_drew ?_ | refine blk_alloc ?_ _)); exact BK120.out) hb); have n3_ := Aside0.mk (below_step (by repeat (first | (with_reducible first | exact HB.out | apply below_alloc | apply pw_below_drewN | apply below_drew1 | refine below_set ?_ GE115.out | refine below_set ?_ GE120.out) | exact HB.out)) hb); clear HO_3; clear BK115; clear BK120; clear HB; have HO_3 := n0_; have BK115 := n1_; have BK120 := n2_; have HB := n3_; clear n0_ n1_ n2_ n3_; (try clear hb); (try clear hb2); (try clear hk); (try clear hi); have hcz30_0 : w29.cell? ⟨gb120, 0, none⟩ = some (.int .u64 ((rd_T48 l0_1 x50_2).f0)) := (blk_cell BK120.out 0).trans rfl; have hcz30_1 : w29.cell? ⟨gb120, 1, none⟩ = some (.int .u16 ((rd_T48 l0_1 x50_2).f1)) := (blk_cell BK120.out 1).trans rfl; have hcz30_2 : w29.cell? ⟨gb120, 2, none⟩ = some (.int .i64 ((rd_T48 l0_1 x50_2).f2)) := (blk_cell BK120.out 2).trans rfl; have hcz30_3 : w29.cell? ⟨gb120, 3, none⟩ = some (.int .i64 ((rd_T48 l0_1 x50_2).f3)) := (blk_cell BK120.out 3).trans rfl; have hcz30_4 : w29.cell? ⟨gb120, 4, none⟩ = some (.int .i64 ((rd_T48 l0_1 x50_2).f4)) := (blk_cell BK120.out 4).trans rfl; have hcz30_5 : w29.cell? ⟨gb120, 5, none⟩ = some (.int .i64 ((rd_T48 l0_1 x50_2).f5)) := (blk_cell BK120.out 5).trans rfl; have hcz30_6 : w29.cell? ⟨gb120, 6, none⟩ = some (.int .i64 ((rd_T48 l0_1 x50_2).f6)) := (blk_cell BK120.out 6).trans rfl; have hcz30_7 : w29.cell? ⟨gb120, 7, none⟩ = some (.slice A119_7 ((rd_T48 l0_1 x50_2).f7).length c119_7) := (blk_cell BK120.out 7).trans rfl; have hfz30_0 := blk_frozen BK120.out 0; have hfz30_1 := blk_frozen BK120.out 1; have hfz30_2 := blk_frozen BK120.out 2; have hfz30_3 := blk_frozen BK120.out 3; have hfz30_4 := blk_frozen BK120.out 4; have hfz30_5 := blk_frozen BK120.out 5; have hfz30_6 := blk_frozen BK120.out 6; have hfz30_7 := blk_frozen BK120.out 7))
  go_ret
  exact ⟨by first | rfl | (simp [errW_none, errW_some] <;> rfl) | (simp [*, errW_none, errW_some] <;> rfl), by repeat (first | (with_reducible first | exact HB.out | apply below_alloc | apply pw_below_drewN | apply below_drew1 | refine below_set ?_ GE115.out | refine below_set ?_ GE120.out) | exact HB.out)⟩
 rw [if_neg c25] at H
 have c25b0 : Mk.mem ((rd_T48 l0_1 x50_2).f0) x3_2 = false := (Bool.not_eq_true _).mp c25
 clear c25
 by_cases c32 : x3_2.length < 17592186044416
 rotate_left
 ·rw [if_neg c32] at H
  exact absurd H (by simp)
 rw [if_pos c32] at H
 have LMc32 := Aside0.mk c32
 clear c32
 obtain ⟨y122, hy122⟩ : ∃ y_ : List Int, y_ = (x3_2 ++ [(rd_T48 l0_1 x50_2).f0]) := ⟨_, rfl⟩
 replace H : (if x50_2 < (l0_2.length : Int) then (if ((rd_L9 l0_2 x50_2).length : Int) = (((rd_T48 l0_1 x50_2).f7).length : Int) then (topo_Check.l1 k2 y122 l0_1 (l0_1.length : Int) x50_2 (rd_L9 l0_2 x50_2) ((rd_L9 l0_2 x50_2).length : Int) 0 a0_0 l0_1 l0_2 l0_3) else (some 1)) else (none)) = some r := by first | (rw [hy122]; with_reducible exact H) | (have H2_ := (Option.bind_some _ _).symm.trans H; rw [hy122]; with_reducible exact H2_) | (have H2_ := (Option.bind_some _ _).symm.trans H; with_reducible exact H2_) | with_reducible exact H | (rw [hy122]; exact H) | exact H
 have Ny122 := Aside0.mk hy122
 clear hy122
 by_cases c33 : x50_2 < (l0_2.length : Int)
 rotate_left
 ·rw [if_neg c33] at H
  exact absurd H (by simp)
 rw [if_pos c33] at H
 have c33b0 : decide (x50_2 < (l0_2.length : Int)) = true := decide_eq_true c33
 clear c33
 by_cases c34 : ((rd_L9 l0_2 x50_2).length : Int) = (((rd_T48 l0_1 x50_2).f7).length : Int)
 rotate_left
 ·rw [if_neg c34] at H
  have c34b0 : (((rd_L9 l0_2 x50_2).length : Int) == (((rd_T48 l0_1 x50_2).f7).length : Int)) = false := beq_eq_false_iff_ne.mpr c34
  have c34b1 : (((rd_L9 l0_2 x50_2).length : Int) != (((rd_T48 l0_1 x50_2).f7).length : Int)) = true := bne_iff_ne.mpr c34
  have c34b2 : ((rd_L9 l0_2 x50_2).length == ((rd_T48 l0_1 x50_2).f7).length) = false := by first | simpa using c34 | (simp at c34 ⊢; omega)
  obtain rfl := Option.some.inj H
  have p119 : 0 ≤ (x50_2 : Int) := of_decide_eq_true (by first | (with_reducible assumption) | assumption)
  have q119 : x50_2 < (l0_1.length : Int) := of_decide_eq_true (by first | (with_reducible assumption) | assumption)
  obtain ⟨ad119, A119_7, c119_7, e119, hx119_0, hx119_1, hx119_2, hx119_3, hx119_4, hx119_5, hx119_6, hx119_7, hl119_7, hi119_7⟩ := at_T48 HR0_1.out x50_2 p119 q119
  cases e119
  replace hx119_0 := (HB.out.cell (World.block_lt_of_cell? w _ hx119_0)).trans hx119_0
  replace hx119_1 := (HB.out.cell (World.block_lt_of_cell? w _ hx119_1)).trans hx119_1
  replace hx119_2 := (HB.out.cell (World.block_lt_of_cell? w _ hx119_2)).trans hx119_2
  replace hx119_3 := (HB.out.cell (World.block_lt_of_cell? w _ hx119_3)).trans hx119_3
  replace hx119_4 := (HB.out.cell (World.block_lt_of_cell? w _ hx119_4)).trans hx119_4
  replace hx119_5 := (HB.out.cell (World.block_lt_of_cell? w _ hx119_5)).trans hx119_5
  replace hx119_6 := (HB.out.cell (World.block_lt_of_cell? w _ hx119_6)).trans hx119_6
  replace hx119_7 := (HB.out.cell (World.block_lt_of_cell? w _ hx119_7)).trans hx119_7
  have HR119_7 := Aside0.mk hi119_7
  have HC119_7 := Aside0.mk hl119_7
  clear hi119_7 hl119_7
  replace p119 := eq_true p119
  replace q119 := eq_true q119
  go_wp2_with (first | (at_lookup; refine Mk.R_look (d := Kd.int .u64) (e := 44) (base := w.heap.size) (ok := fun _ => True) (xs := x3_2) (key := ((rd_T48 l0_1 x50_2).f0)) _ rfl _ _ rfl rfl ?lR ?lX ?lW ?_; (case lX => first | rfl | (go_simp; done) | (go_simp; rfl)); (case lW => exact key_S48 HW_l0_1.out (of_decide_eq_true (by first | (with_reducible assumption) | assumption) : 0 ≤ x50_2) (of_decide_eq_true (by first | (with_reducible assumption) | assumption) : x50_2 < (l0_1.length : Int))); (case lR => (with_reducible repeat (first | apply Mk.R_alloc | apply Mk.R_drewN | apply Mk.R_drew)); (first | exact HO_3.out)); (first | rw [c25b0] | rw [c72b0] | skip)) | ((with_reducible refine gate_dst (N := 5) rfl ?_); (try (refine gate_guard (by rfl) ?_; dsimp only)); refine box_event ?hg (N := 5) ?hd (cs := #[.int .u64 0, .int .u16 0, .int .i64 0, .int .i64 0, .int .i64 0, .int .i64 0, .int .i64 0, .slice none 0 0]) (t := 48) ?hr ?_; (case hd => rfl); (case hg => rfl); (case hr => first | (go_simp; done) | (go_simp; rfl)); intro gb120 hg w53 hbox hb; have n0_ := Aside0.mk (Mk.R_below (by (with_reducible repeat (first | apply Mk.R_alloc | apply Mk.R_drewN | apply Mk.R_drew)); exact HO_3.out) hb); have n1_ := Aside0.mk (blk_below (g := gb115) (o := .cells #[.int .i64 a0_0, .slice (some ad119) l0_1.length c0_1, .slice A0_2 l0_2.length c0_2, .slice A0_3 l0_3.length c0_3] 26 (0, 0)) (by (with_reducible repeat (first | refine blk_drewN ?_ _ | refine blk_drew ?_ | refine blk_alloc ?_ _)); exact BK115.out) hb); have n2_ := Aside0.mk (below_step (by repeat (first | (with_reducible first | exact HB.out | apply below_alloc | apply pw_below_drewN | apply below_drew1 | refine below_set ?_ GE115.out) | exact HB.out)) hb); have n3_ := Aside0.mk (hbox); have n4_ := Aside0.mk ((by rw [hg]; exact (below_size (by repeat (first | (with_reducible first | exact HB.out | apply below_alloc | apply pw_below_drewN | apply below_drew1 | refine below_set ?_ GE115.out) | exact HB.out))) : w.heap.size ≤ gb120)); have n5_ := Aside0.mk ((by rw [hg]; exact (below_size (by repeat (first | (with_reducible first | exact HB.out | apply below_alloc | apply pw_below_drewN | apply below_drew1 | refine below_set ?_ GE115.out) | exact HB.out))) : w.heap.size ≤ gb120)); have n6_ := Aside0.mk ((by rw [hg]; exact Nat.ne_of_lt (blk_lt (g := gb115) (o := .cells #[.int .i64 a0_0, .slice (some ad119) l0_1.length c0_1, .slice A0_2 l0_2.length c0_2, .slice A0_3 l0_3.length c0_3] 26 (0, 0)) (by (with_reducible repeat (first | refine blk_drewN ?_ _ | refine blk_drew ?_ | refine blk_alloc ?_ _)); exact BK115.out)) : gb115 ≠ gb120)); have n7_ := Aside0.mk ((by rw [hg]; exact Nat.ne_of_gt (blk_lt (g := gb115) (o := .cells #[.int .i64 a0_0, .slice (some ad119) l0_1.length c0_1, .slice A0_2 l0_2.length c0_2, .slice A0_3 l0_3.length c0_3] 26 (0, 0)) (by (with_reducible repeat (first | refine blk_drewN ?_ _ | refine blk_drew ?_ | refine blk_alloc ?_ _)); exact BK115.out)) : gb120 ≠ gb115)); clear HO_3; clear BK115; clear HB; have HO_3 := n0_; have BK115 := n1_; have HB := n2_; have BK120 := n3_; have GW120 := n4_; have GE120 := n5_; have NB115_120 := n6_; have NB120_115 := n7_; clear n0_ n1_ n2_ n3_ n4_ n5_ n6_ n7_; clear hb hbox hg; have hnb54 := NB120_115.out; have hnc54 := NB115_120.out; have hcz55_0 : w53.cell? ⟨gb120, 0, none⟩ = some (.int .u64 0) := (blk_cell BK120.out 0).trans rfl; have hcz55_1 : w53.cell? ⟨gb120, 1, none⟩ = some (.int .u16 0) := (blk_cell BK120.out 1).trans rfl; have hcz55_2 : w53.cell? ⟨gb120, 2, none⟩ = some (.int .i64 0) := (blk_cell BK120.out 2).trans rfl; have hcz55_3 : w53.cell? ⟨gb120, 3, none⟩ = some (.int .i64 0) := (blk_cell BK120.out 3).trans rfl; have hcz55_4 : w53.cell? ⟨gb120, 4, none⟩ = some (.int .i64 0) := (blk_cell BK120.out 4).trans rfl; have hcz55_5 : w53.cell? ⟨gb120, 5, none⟩ = some (.int .i64 0) := (blk_cell BK120.out 5).trans rfl; have hcz55_6 : w53.cell? ⟨gb120, 6, none⟩ = some (.int .i64 0) := (blk_cell BK120.out 6).trans rfl; have hcz55_7 : w53.cell? ⟨gb120, 7, none⟩ = some (.slice none 0 0) := (blk_cell BK120.out 7).trans rfl; have hfz55_0 := blk_frozen BK120.out 0; have hfz55_1 := blk_frozen BK120.out 1; have hfz55_2 := blk_frozen BK120.out 2; have hfz55_3 := blk_frozen BK120.out 3; have hfz55_4 := blk_frozen BK120.out 4; have hfz55_5 := blk_frozen BK120.out 5; have hfz55_6 := blk_frozen BK120.out 6; have hfz55_7 := blk_frozen BK120.out 7) | (go_at_call 20; (with_reducible refine (conf_Check.calls k2 ((rd_T48 l0_1 x50_2).f0) ((rd_T48 l0_1 x50_2).f1) ((rd_T48 l0_1 x50_2).f2) ((rd_T48 l0_1 x50_2).f3) ((rd_T48 l0_1 x50_2).f4) ((rd_T48 l0_1 x50_2).f5) ((rd_T48 l0_1 x50_2).f6) _ _ ((rd_T48 l0_1 x50_2).f7) t121 _ ?side1 ?side2 A23.out).mono ?_); (case side1 => exact Kd.C_below HR119_7.out (by repeat (first | (with_reducible first | exact HB.out | apply below_alloc | apply pw_below_drewN | apply below_drew1 | refine below_set ?_ GE115.out | refine below_set ?_ GE120.out) | exact HB.out))); (case side2 => exact HC119_7.out); rintro e w56 ⟨rfl, hb⟩; have n0_ := Aside0.mk (Mk.R_below (by (with_reducible repeat (first | apply Mk.R_alloc | apply Mk.R_drewN | apply Mk.R_drew)); exact (Mk.R_mono (Mk.R_far (p := ⟨gb120, 7, none⟩) (Mk.R_far (p := ⟨gb120, 6, none⟩) (Mk.R_far (p := ⟨gb120, 5, none⟩) (Mk.R_far (p := ⟨gb120, 4, none⟩) (Mk.R_far (p := ⟨gb120, 3, none⟩) (Mk.R_far (p := ⟨gb120, 2, none⟩) (Mk.R_far (p := ⟨gb120, 1, none⟩) (Mk.R_far (p := ⟨gb120, 0, none⟩) (Mk.R_types HO_3.out BK120.out trivial) (fun _ hk => hk.2) (.int .u64 ((rd_T48 l0_1 x50_2).f0))) (fun _ hk => hk.2) (.int .u16 ((rd_T48 l0_1 x50_2).f1))) (fun _ hk => hk.2) (.int .i64 ((rd_T48 l0_1 x50_2).f2))) (fun _ hk => hk.2) (.int .i64 ((rd_T48 l0_1 x50_2).f3))) (fun _ hk => hk.2) (.int .i64 ((rd_T48 l0_1 x50_2).f4))) (fun _ hk => hk.2) (.int .i64 ((rd_T48 l0_1 x50_2).f5))) (fun _ hk => hk.2) (.int .i64 ((rd_T48 l0_1 x50_2).f6))) (fun _ hk => hk.2) (.slice A119_7 ((rd_T48 l0_1 x50_2).f7).length c119_7)) (fun _ h_ => h_.1))) hb); have n1_ := Aside0.mk (blk_below (g := gb115) (o := .cells #[.int .i64 a0_0, .slice (some ad119) l0_1.length c0_1, .slice A0_2 l0_2.length c0_2, .slice A0_3 l0_3.length c0_3] 26 (0, 0)) (by (with_reducible repeat (first | refine blk_drewN ?_ _ | refine blk_drew ?_ | refine blk_alloc ?_ _)); refine blk_far ?_ NB115_120.out _; (with_reducible repeat (first | refine blk_drewN ?_ _ | refine blk_drew ?_ | refine blk_alloc ?_ _)); refine blk_far ?_ NB115_120.out _; (with_reducible repeat (first | refine blk_drewN ?_ _ | refine blk_drew ?_ | refine blk_alloc ?_ _)); refine blk_far ?_ NB115_120.out _; (with_reducible repeat (first | refine blk_drewN ?_ _ | refine blk_drew ?_ | refine blk_alloc ?_ _)); refine blk_far ?_ NB115_120.out _; (with_reducible repeat (first | refine blk_drewN ?_ _ | refine blk_drew ?_ | refine blk_alloc ?_ _)); refine blk_far ?_ NB115_120.out _; (with_reducible repeat (first | refine blk_drewN ?_ _ | refine blk_drew ?_ | refine blk_alloc ?_ _)); refine blk_far ?_ NB115_120.out _; (with_reducible repeat (first | refine blk_drewN ?_ _ | refine blk_drew ?_ | refine blk_alloc ?_ _)); refine blk_far ?_ NB115_120.out _; (with_reducible repeat (first | refine blk_drewN ?_ _ | refine blk_drew ?_ | refine blk_alloc ?_ _)); refine blk_far ?_ NB115_120.out _; (with_reducible repeat (first | refine blk_drewN ?_ _ | refine blk_drew ?_ | refine blk_alloc ?_ _)); exact BK115.out) hb); have n2_ := Aside0.mk (blk_below (g := gb120) (o := .cells #[.int .u64 ((rd_T48 l0_1 x50_2).f0), .int .u16 ((rd_T48 l0_1 x50_2).f1), .int .i64 ((rd_T48 l0_1 x50_2).f2), .int .i64 ((rd_T48 l0_1 x50_2).f3), .int .i64 ((rd_T48 l0_1 x50_2).f4), .int .i64 ((rd_T48 l0_1 x50_2).f5), .int .i64 ((rd_T48 l0_1 x50_2).f6), .slice A119_7 ((rd_T48 l0_1 x50_2).f7).length c119_7] 48 (0, 0)) (by (with_reducible repeat (first | refine blk_drewN ?_ _ | refine blk_drew ?_ | refine blk_alloc ?_ _)); refine blk_put (cs := #[.int .u64 ((rd_T48 l0_1 x50_2).f0), .int .u16 ((rd_T48 l0_1 x50_2).f1), .int .i64 ((rd_T48 l0_1 x50_2).f2), .int .i64 ((rd_T48 l0_1 x50_2).f3), .int .i64 ((rd_T48 l0_1 x50_2).f4), .int .i64 ((rd_T48 l0_1 x50_2).f5), .int .i64 ((rd_T48 l0_1 x50_2).f6), .slice none 0 0]) ?_ 7 _ rfl; (with_reducible repeat (first | refine blk_drewN ?_ _ | refine blk_drew ?_ | refine blk_alloc ?_ _)); refine blk_put (cs := #[.int .u64 ((rd_T48 l0_1 x50_2).f0), .int .u16 ((rd_T48 l0_1 x50_2).f1), .int .i64 ((rd_T48 l0_1 x50_2).f2), .int .i64 ((rd_T48 l0_1 x50_2).f3), .int .i64 ((rd_T48 l0_1 x50_2).f4), .int .i64 ((rd_T48 l0_1 x50_2).f5), .int .i64 0, .slice none 0 0]) ?_ 6 _ rfl; (with_reducible repeat (first | refine blk_drewN ?_ _ | refine blk_drew ?_ | refine blk_alloc ?_ _)); refine blk_put (cs := #[.int .u64 ((rd_T48 l0_1 x50_2).f0), .int .u16 ((rd_T48 l0_1 x50_2).f1), .int .i64 ((rd_T48 l0_1 x50_2).f2), .int .i64 ((rd_T48 l0_1 x50_2).f3), .int .i64 ((rd_T48 l0_1 x50_2).f4), .int .i64 0, .int .i64 0, .slice none 0 0]) ?_ 5 _ rfl; (with_reducible repeat (first | refine blk_drewN ?_ _ | refine blk_drew ?_ | refine blk_alloc ?_ _)); refine blk_put (cs := #[.int .u64 ((rd_T48 l0_1 x50_2).f0), .int .u16 ((rd_T48 l0_1 x50_2).f1), .int .i64 ((rd_T48 l0_1 x50_2).f2), .int .i64 ((rd_T48 l0_1 x50_2).f3), .int .i64 0, .int .i64 0, .int .i64 0, .slice none 0 0]) ?_ 4 _ rfl; (with_reducible repeat (first | refine blk_drewN ?_ _ | refine blk_drew ?_ | refine blk_alloc ?_ _)); refine blk_put (cs := #[.int .u64 ((rd_T48 l0_1 x50_2).f0), .int .u16 ((rd_T48 l0_1 x50_2).f1), .int .i64 ((rd_T48 l0_1 x50_2).f2), .int .i64 0, .int .i64 0, .int .i64 0, .int .i64 0, .slice none 0 0]) ?_ 3 _ rfl; (with_reducible repeat (first | refine blk_drewN ?_ _ | refine blk_drew ?_ | refine blk_alloc ?_ _)); refine blk_put (cs := #[.int .u64 ((rd_T48 l0_1 x50_2).f0), .int .u16 ((rd_T48 l0_1 x50_2).f1), .int .i64 0, .int .i64 0, .int .i64 0, .int .i64 0, .int .i64 0, .slice none 0 0]) ?_ 2 _ rfl; (with_reducible repeat (first | refine blk_drewN ?_ _ | refine blk_drew ?_ | refine blk_alloc ?_ _)); refine blk_put (cs := #[.int .u64 ((rd_T48 l0_1 x50_2).f0), .int .u16 0, .int .i64 0, .int .i64 0, .int .i64 0, .int .i64 0, .int .i64 0, .slice none 0 0]) ?_ 1 _ rfl; (with_reducible repeat (first | refine blk_drewN ?_ _ | refine blk_drew ?_ | refine blk_alloc ?_ _)); refine blk_put (cs := #[.int .u64 0, .int .u16 0, .int .i64 0, .int .i64 0, .int .i64 0, .int .i64 0, .int .i64 0, .slice none 0 0]) ?_ 0 _ rfl; (with_reducible repeat (first | refine blk_drewN ?_ _ | refine blk_drew ?_ | refine blk_alloc ?_ _)); exact BK120.out) hb); have n3_ := Aside0.mk (below_step (by repeat (first | (with_reducible first | exact HB.out | apply below_alloc | apply pw_below_drewN | apply below_drew1 | refine below_set ?_ GE115.out | refine below_set ?_ GE120.out) | exact HB.out)) hb); clear HO_3; clear BK115; clear BK120; clear HB; have HO_3 := n0_; have BK115 := n1_; have BK120 := n2_; have HB := n3_; clear n0_ n1_ n2_ n3_; (try clear hb); (try clear hb2); (try clear hk); (try clear hi); have hcz57_0 : w56.cell? ⟨gb120, 0, none⟩ = some (.int .u64 ((rd_T48 l0_1 x50_2).f0)) := (blk_cell BK120.out 0).trans rfl; have hcz57_1 : w56.cell? ⟨gb120, 1, none⟩ = some (.int .u16 ((rd_T48 l0_1 x50_2).f1)) := (blk_cell BK120.out 1).trans rfl; have hcz57_2 : w56.cell? ⟨gb120, 2, none⟩ = some (.int .i64 ((rd_T48 l0_1 x50_2).f2)) := (blk_cell BK120.out 2).trans rfl; have hcz57_3 : w56.cell? ⟨gb120, 3, none⟩ = some (.int .i64 ((rd_T48 l0_1 x50_2).f3)) := (blk_cell BK120.out 3).trans rfl; have hcz57_4 : w56.cell? ⟨gb120, 4, none⟩ = some (.int .i64 ((rd_T48 l0_1 x50_2).f4)) := (blk_cell BK120.out 4).trans rfl; have hcz57_5 : w56.cell? ⟨gb120, 5, none⟩ = some (.int .i64 ((rd_T48 l0_1 x50_2).f5)) := (blk_cell BK120.out 5).trans rfl; have hcz57_6 : w56.cell? ⟨gb120, 6, none⟩ = some (.int .i64 ((rd_T48 l0_1 x50_2).f6)) := (blk_cell BK120.out 6).trans rfl; have hcz57_7 : w56.cell? ⟨gb120, 7, none⟩ = some (.slice A119_7 ((rd_T48 l0_1 x50_2).f7).length c119_7) := (blk_cell BK120.out 7).trans rfl; have hfz57_0 := blk_frozen BK120.out 0; have hfz57_1 := blk_frozen BK120.out 1; have hfz57_2 := blk_frozen BK120.out 2; have hfz57_3 := blk_frozen BK120.out 3; have hfz57_4 := blk_frozen BK120.out 4; have hfz57_5 := blk_frozen BK120.out 5; have hfz57_6 := blk_frozen BK120.out 6; have hfz57_7 := blk_frozen BK120.out 7) | (at_mapUpdate; refine Mk.R_store (w0 := w) (d := Kd.int .u64) (e := 44) (base := w.heap.size) (ok := fun _ => True) (xs := x3_2) (key := ((rd_T48 l0_1 x50_2).f0)) _ rfl _ _ _ rfl rfl ?aO ?aX rfl ?aW ?aL ?aB ?_; (case aX => first | rfl | (go_simp; done) | (go_simp; rfl)); (case aW => exact key_S48 HW_l0_1.out (of_decide_eq_true (by first | (with_reducible assumption) | assumption) : 0 ≤ x50_2) (of_decide_eq_true (by first | (with_reducible assumption) | assumption) : x50_2 < (l0_1.length : Int))); (case aB => exact (by repeat (first | (with_reducible first | exact HB.out | apply below_alloc | apply pw_below_drewN | apply below_drew1 | refine below_set ?_ GE115.out | refine below_set ?_ GE120.out) | exact HB.out))); (case aO => exact (by (with_reducible repeat (first | apply Mk.R_alloc | apply Mk.R_drewN | apply Mk.R_drew)); exact HO_3.out)); (case aL => have := LMc32.out; unfold maxLen; omega); intro w59 ho hb hg; rw [← Ny122.out] at ho; have n0_ := Aside0.mk (blk_grown (g := gb115) (o := .cells #[.int .i64 a0_0, .slice (some ad119) l0_1.length c0_1, .slice A0_2 l0_2.length c0_2, .slice A0_3 l0_3.length c0_3] 26 (0, 0)) (by (with_reducible repeat (first | refine blk_drewN ?_ _ | refine blk_drew ?_ | refine blk_alloc ?_ _)); exact BK115.out) hg (Mk.R_ne HO_3.out BK115.out trivial)); have n1_ := Aside0.mk (blk_grown (g := gb120) (o := .cells #[.int .u64 ((rd_T48 l0_1 x50_2).f0), .int .u16 ((rd_T48 l0_1 x50_2).f1), .int .i64 ((rd_T48 l0_1 x50_2).f2), .int .i64 ((rd_T48 l0_1 x50_2).f3), .int .i64 ((rd_T48 l0_1 x50_2).f4), .int .i64 ((rd_T48 l0_1 x50_2).f5), .int .i64 ((rd_T48 l0_1 x50_2).f6), .slice A119_7 ((rd_T48 l0_1 x50_2).f7).length c119_7] 48 (0, 0)) (by (with_reducible repeat (first | refine blk_drewN ?_ _ | refine blk_drew ?_ | refine blk_alloc ?_ _)); exact BK120.out) hg (Mk.R_ne HO_3.out BK120.out trivial)); have n2_ := Aside0.mk (hb); have n3_ := Aside0.mk (ho); clear BK115; clear BK120; clear HB; clear HO_3; have BK115 := n0_; have BK120 := n1_; have HB := n2_; have HO124 := n3_; clear n0_ n1_ n2_ n3_; clear ho hb hg; have hcz60_0 : w59.cell? ⟨gb115, 0, none⟩ = some (.int .i64 a0_0) := (blk_cell BK115.out 0).trans rfl; have hcz60_1 : w59.cell? ⟨gb115, 1, none⟩ = some (.slice (some ad119) l0_1.length c0_1) := (blk_cell BK115.out 1).trans rfl; have hcz60_2 : w59.cell? ⟨gb115, 2, none⟩ = some (.slice A0_2 l0_2.length c0_2) := (blk_cell BK115.out 2).trans rfl; have hcz60_3 : w59.cell? ⟨gb115, 3, none⟩ = some (.slice A0_3 l0_3.length c0_3) := (blk_cell BK115.out 3).trans rfl; have hfz60_0 := blk_frozen BK115.out 0; have hfz60_1 := blk_frozen BK115.out 1; have hfz60_2 := blk_frozen BK115.out 2; have hfz60_3 := blk_frozen BK115.out 3; have p125 : 0 ≤ (x50_2 : Int) := of_decide_eq_true (by first | (with_reducible assumption) | assumption); have q125 : x50_2 < (l0_2.length : Int) := of_decide_eq_true (by first | (with_reducible assumption) | assumption); obtain ⟨ad125, A125_0, c125_0, e125, hx125_0, hl125_0, hi125_0⟩ := at_L9 HR0_2.out x50_2 p125 q125; cases e125; replace hx125_0 := (HB.out.cell (World.block_lt_of_cell? w _ hx125_0)).trans hx125_0; have HR125_0 := Aside0.mk hi125_0; have HC125_0 := Aside0.mk hl125_0; clear hi125_0 hl125_0; replace p125 := eq_true p125; replace q125 := eq_true q125; have hcz61_0 : w59.cell? ⟨gb120, 0, none⟩ = some (.int .u64 ((rd_T48 l0_1 x50_2).f0)) := (blk_cell BK120.out 0).trans rfl; have hcz61_1 : w59.cell? ⟨gb120, 1, none⟩ = some (.int .u16 ((rd_T48 l0_1 x50_2).f1)) := (blk_cell BK120.out 1).trans rfl; have hcz61_2 : w59.cell? ⟨gb120, 2, none⟩ = some (.int .i64 ((rd_T48 l0_1 x50_2).f2)) := (blk_cell BK120.out 2).trans rfl; have hcz61_3 : w59.cell? ⟨gb120, 3, none⟩ = some (.int .i64 ((rd_T48 l0_1 x50_2).f3)) := (blk_cell BK120.out 3).trans rfl; have hcz61_4 : w59.cell? ⟨gb120, 4, none⟩ = some (.int .i64 ((rd_T48 l0_1 x50_2).f4)) := (blk_cell BK120.out 4).trans rfl; have hcz61_5 : w59.cell? ⟨gb120, 5, none⟩ = some (.int .i64 ((rd_T48 l0_1 x50_2).f5)) := (blk_cell BK120.out 5).trans rfl; have hcz61_6 : w59.cell? ⟨gb120, 6, none⟩ = some (.int .i64 ((rd_T48 l0_1 x50_2).f6)) := (blk_cell BK120.out 6).trans rfl; have hcz61_7 : w59.cell? ⟨gb120, 7, none⟩ = some (.slice A119_7 ((rd_T48 l0_1 x50_2).f7).length c119_7) := (blk_cell BK120.out 7).trans rfl; have hfz61_0 := blk_frozen BK120.out 0; have hfz61_1 := blk_frozen BK120.out 1; have hfz61_2 := blk_frozen BK120.out 2; have hfz61_3 := blk_frozen BK120.out 3; have hfz61_4 := blk_frozen BK120.out 4; have hfz61_5 := blk_frozen BK120.out 5; have hfz61_6 := blk_frozen BK120.out 6; have hfz61_7 := blk_frozen BK120.out 7))
  repeat (go_quiet (fail); try go_wp2)
  go_ret
  exact ⟨by first | rfl | (simp [errW_none, errW_some] <;> rfl) | (simp [*, errW_none, errW_some] <;> rfl), by repeat (first | (with_reducible first | exact HB.out | apply below_alloc | apply pw_below_drewN | apply below_drew1 | refine below_set ?_ GE115.out | refine below_set ?_ GE120.out) | exact HB.out)⟩
 rw [if_pos c34] at H
 have c34b0 : (((rd_L9 l0_2 x50_2).length : Int) == (((rd_T48 l0_1 x50_2).f7).length : Int)) = true := beq_iff_eq.mpr c34
 have c34b1 : (((rd_L9 l0_2 x50_2).length : Int) != (((rd_T48 l0_1 x50_2).f7).length : Int)) = false := bne_eq_false_iff_eq.mpr c34
 have c34b2 : ((rd_L9 l0_2 x50_2).length == ((rd_T48 l0_1 x50_2).f7).length) = true := by first | simpa using c34 | (simp at c34 ⊢; omega)
 clear c34
 have H' := Aside0.mk H
 clear H
 have p119 : 0 ≤ (x50_2 : Int) := of_decide_eq_true (by first | (with_reducible assumption) | assumption)
 have q119 : x50_2 < (l0_1.length : Int) := of_decide_eq_true (by first | (with_reducible assumption) | assumption)
 obtain ⟨ad119, A119_7, c119_7, e119, hx119_0, hx119_1, hx119_2, hx119_3, hx119_4, hx119_5, hx119_6, hx119_7, hl119_7, hi119_7⟩ := at_T48 HR0_1.out x50_2 p119 q119
 cases e119
 replace hx119_0 := (HB.out.cell (World.block_lt_of_cell? w _ hx119_0)).trans hx119_0
 replace hx119_1 := (HB.out.cell (World.block_lt_of_cell? w _ hx119_1)).trans hx119_1
 replace hx119_2 := (HB.out.cell (World.block_lt_of_cell? w _ hx119_2)).trans hx119_2
 replace hx119_3 := (HB.out.cell (World.block_lt_of_cell? w _ hx119_3)).trans hx119_3
 replace hx119_4 := (HB.out.cell (World.block_lt_of_cell? w _ hx119_4)).trans hx119_4
 replace hx119_5 := (HB.out.cell (World.block_lt_of_cell? w _ hx119_5)).trans hx119_5
 replace hx119_6 := (HB.out.cell (World.block_lt_of_cell? w _ hx119_6)).trans hx119_6
 replace hx119_7 := (HB.out.cell (World.block_lt_of_cell? w _ hx119_7)).trans hx119_7
 have HR119_7 := Aside0.mk hi119_7
 have HC119_7 := Aside0.mk hl119_7
 clear hi119_7 hl119_7
 replace p119 := eq_true p119
 replace q119 := eq_true q119
 go_wp2_with (first | (at_lookup; refine Mk.R_look (d := Kd.int .u64) (e := 44) (base := w.heap.size) (ok := fun _ => True) (xs := x3_2) (key := ((rd_T48 l0_1 x50_2).f0)) _ rfl _ _ rfl rfl ?lR ?lX ?lW ?_; (case lX => first | rfl | (go_simp; done) | (go_simp; rfl)); (case lW => exact key_S48 HW_l0_1.out (of_decide_eq_true (by first | (with_reducible assumption) | assumption) : 0 ≤ x50_2) (of_decide_eq_true (by first | (with_reducible assumption) | assumption) : x50_2 < (l0_1.length : Int))); (case lR => (with_reducible repeat (first | apply Mk.R_alloc | apply Mk.R_drewN | apply Mk.R_drew)); (first | exact HO_3.out)); (first | rw [c25b0] | rw [c72b0] | skip)) | ((with_reducible refine gate_dst (N := 5) rfl ?_); (try (refine gate_guard (by rfl) ?_; dsimp only)); refine box_event ?hg (N := 5) ?hd (cs := #[.int .u64 0, .int .u16 0, .int .i64 0, .int .i64 0, .int .i64 0, .int .i64 0, .int .i64 0, .slice none 0 0]) (t := 48) ?hr ?_; (case hd => rfl); (case hg => rfl); (case hr => first | (go_simp; done) | (go_simp; rfl)); intro gb120 hg w35 hbox hb; have n0_ := Aside0.mk (Mk.R_below (by (with_reducible repeat (first | apply Mk.R_alloc | apply Mk.R_drewN | apply Mk.R_drew)); exact HO_3.out) hb); have n1_ := Aside0.mk (blk_below (g := gb115) (o := .cells #[.int .i64 a0_0, .slice (some ad119) l0_1.length c0_1, .slice A0_2 l0_2.length c0_2, .slice A0_3 l0_3.length c0_3] 26 (0, 0)) (by (with_reducible repeat (first | refine blk_drewN ?_ _ | refine blk_drew ?_ | refine blk_alloc ?_ _)); exact BK115.out) hb); have n2_ := Aside0.mk (below_step (by repeat (first | (with_reducible first | exact HB.out | apply below_alloc | apply pw_below_drewN | apply below_drew1 | refine below_set ?_ GE115.out) | exact HB.out)) hb); have n3_ := Aside0.mk (hbox); have n4_ := Aside0.mk ((by rw [hg]; exact (below_size (by repeat (first | (with_reducible first | exact HB.out | apply below_alloc | apply pw_below_drewN | apply below_drew1 | refine below_set ?_ GE115.out) | exact HB.out))) : w.heap.size ≤ gb120)); have n5_ := Aside0.mk ((by rw [hg]; exact (below_size (by repeat (first | (with_reducible first | exact HB.out | apply below_alloc | apply pw_below_drewN | apply below_drew1 | refine below_set ?_ GE115.out) | exact HB.out))) : w.heap.size ≤ gb120)); have n6_ := Aside0.mk ((by rw [hg]; exact Nat.ne_of_lt (blk_lt (g := gb115) (o := .cells #[.int .i64 a0_0, .slice (some ad119) l0_1.length c0_1, .slice A0_2 l0_2.length c0_2, .slice A0_3 l0_3.length c0_3] 26 (0, 0)) (by (with_reducible repeat (first | refine blk_drewN ?_ _ | refine blk_drew ?_ | refine blk_alloc ?_ _)); exact BK115.out)) : gb115 ≠ gb120)); have n7_ := Aside0.mk ((by rw [hg]; exact Nat.ne_of_gt (blk_lt (g := gb115) (o := .cells #[.int .i64 a0_0, .slice (some ad119) l0_1.length c0_1, .slice A0_2 l0_2.length c0_2, .slice A0_3 l0_3.length c0_3] 26 (0, 0)) (by (with_reducible repeat (first | refine blk_drewN ?_ _ | refine blk_drew ?_ | refine blk_alloc ?_ _)); exact BK115.out)) : gb120 ≠ gb115)); clear HO_3; clear BK115; clear HB; have HO_3 := n0_; have BK115 := n1_; have HB := n2_; have BK120 := n3_; have GW120 := n4_; have GE120 := n5_; have NB115_120 := n6_; have NB120_115 := n7_; clear n0_ n1_ n2_ n3_ n4_ n5_ n6_ n7_; clear hb hbox hg; have hnb36 := NB120_115.out; have hnc36 := NB115_120.out; have hcz37_0 : w35.cell? ⟨gb120, 0, none⟩ = some (.int .u64 0) := (blk_cell BK120.out 0).trans rfl; have hcz37_1 : w35.cell? ⟨gb120, 1, none⟩ = some (.int .u16 0) := (blk_cell BK120.out 1).trans rfl; have hcz37_2 : w35.cell? ⟨gb120, 2, none⟩ = some (.int .i64 0) := (blk_cell BK120.out 2).trans rfl; have hcz37_3 : w35.cell? ⟨gb120, 3, none⟩ = some (.int .i64 0) := (blk_cell BK120.out 3).trans rfl; have hcz37_4 : w35.cell? ⟨gb120, 4, none⟩ = some (.int .i64 0) := (blk_cell BK120.out 4).trans rfl; have hcz37_5 : w35.cell? ⟨gb120, 5, none⟩ = some (.int .i64 0) := (blk_cell BK120.out 5).trans rfl; have hcz37_6 : w35.cell? ⟨gb120, 6, none⟩ = some (.int .i64 0) := (blk_cell BK120.out 6).trans rfl; have hcz37_7 : w35.cell? ⟨gb120, 7, none⟩ = some (.slice none 0 0) := (blk_cell BK120.out 7).trans rfl; have hfz37_0 := blk_frozen BK120.out 0; have hfz37_1 := blk_frozen BK120.out 1; have hfz37_2 := blk_frozen BK120.out 2; have hfz37_3 := blk_frozen BK120.out 3; have hfz37_4 := blk_frozen BK120.out 4; have hfz37_5 := blk_frozen BK120.out 5; have hfz37_6 := blk_frozen BK120.out 6; have hfz37_7 := blk_frozen BK120.out 7) | (go_at_call 20; (with_reducible refine (conf_Check.calls k2 ((rd_T48 l0_1 x50_2).f0) ((rd_T48 l0_1 x50_2).f1) ((rd_T48 l0_1 x50_2).f2) ((rd_T48 l0_1 x50_2).f3) ((rd_T48 l0_1 x50_2).f4) ((rd_T48 l0_1 x50_2).f5) ((rd_T48 l0_1 x50_2).f6) _ _ ((rd_T48 l0_1 x50_2).f7) t121 _ ?side1 ?side2 A23.out).mono ?_); (case side1 => exact Kd.C_below HR119_7.out (by repeat (first | (with_reducible first | exact HB.out | apply below_alloc | apply pw_below_drewN | apply below_drew1 | refine below_set ?_ GE115.out | refine below_set ?_ GE120.out) | exact HB.out))); (case side2 => exact HC119_7.out); rintro e w38 ⟨rfl, hb⟩; have n0_ := Aside0.mk (Mk.R_below (by (with_reducible repeat (first | apply Mk.R_alloc | apply Mk.R_drewN | apply Mk.R_drew)); exact (Mk.R_mono (Mk.R_far (p := ⟨gb120, 7, none⟩) (Mk.R_far (p := ⟨gb120, 6, none⟩) (Mk.R_far (p := ⟨gb120, 5, none⟩) (Mk.R_far (p := ⟨gb120, 4, none⟩) (Mk.R_far (p := ⟨gb120, 3, none⟩) (Mk.R_far (p := ⟨gb120, 2, none⟩) (Mk.R_far (p := ⟨gb120, 1, none⟩) (Mk.R_far (p := ⟨gb120, 0, none⟩) (Mk.R_types HO_3.out BK120.out trivial) (fun _ hk => hk.2) (.int .u64 ((rd_T48 l0_1 x50_2).f0))) (fun _ hk => hk.2) (.int .u16 ((rd_T48 l0_1 x50_2).f1))) (fun _ hk => hk.2) (.int .i64 ((rd_T48 l0_1 x50_2).f2))) (fun _ hk => hk.2) (.int .i64 ((rd_T48 l0_1 x50_2).f3))) (fun _ hk => hk.2) (.int .i64 ((rd_T48 l0_1 x50_2).f4))) (fun _ hk => hk.2) (.int .i64 ((rd_T48 l0_1 x50_2).f5))) (fun _ hk => hk.2) (.int .i64 ((rd_T48 l0_1 x50_2).f6))) (fun _ hk => hk.2) (.slice A119_7 ((rd_T48 l0_1 x50_2).f7).length c119_7)) (fun _ h_ => h_.1))) hb); have n1_ := Aside0.mk (blk_below (g := gb115) (o := .cells #[.int .i64 a0_0, .slice (some ad119) l0_1.length c0_1, .slice A0_2 l0_2.length c0_2, .slice A0_3 l0_3.length c0_3] 26 (0, 0)) (by (with_reducible repeat (first | refine blk_drewN ?_ _ | refine blk_drew ?_ | refine blk_alloc ?_ _)); refine blk_far ?_ NB115_120.out _; (with_reducible repeat (first | refine blk_drewN ?_ _ | refine blk_drew ?_ | refine blk_alloc ?_ _)); refine blk_far ?_ NB115_120.out _; (with_reducible repeat (first | refine blk_drewN ?_ _ | refine blk_drew ?_ | refine blk_alloc ?_ _)); refine blk_far ?_ NB115_120.out _; (with_reducible repeat (first | refine blk_drewN ?_ _ | refine blk_drew ?_ | refine blk_alloc ?_ _)); refine blk_far ?_ NB115_120.out _; (with_reducible repeat (first | refine blk_drewN ?_ _ | refine blk_drew ?_ | refine blk_alloc ?_ _)); refine blk_far ?_ NB115_120.out _; (with_reducible repeat (first | refine blk_drewN ?_ _ | refine blk_drew ?_ | refine blk_alloc ?_ _)); refine blk_far ?_ NB115_120.out _; (with_reducible repeat (first | refine blk_drewN ?_ _ | refine blk_drew ?_ | refine blk_alloc ?_ _)); refine blk_far ?_ NB115_120.out _; (with_reducible repeat (first | refine blk_drewN ?_ _ | refine blk_drew ?_ | refine blk_alloc ?_ _)); refine blk_far ?_ NB115_120.out _; (with_reducible repeat (first | refine blk_drewN ?_ _ | refine blk_drew ?_ | refine blk_alloc ?_ _)); exact BK115.out) hb); have n2_ := Aside0.mk (blk_below (g := gb120) (o := .cells #[.int .u64 ((rd_T48 l0_1 x50_2).f0), .int .u16 ((rd_T48 l0_1 x50_2).f1), .int .i64 ((rd_T48 l0_1 x50_2).f2), .int .i64 ((rd_T48 l0_1 x50_2).f3), .int .i64 ((rd_T48 l0_1 x50_2).f4), .int .i64 ((rd_T48 l0_1 x50_2).f5), .int .i64 ((rd_T48 l0_1 x50_2).f6), .slice A119_7 ((rd_T48 l0_1 x50_2).f7).length c119_7] 48 (0, 0)) (by (with_reducible repeat (first | refine blk_drewN ?_ _ | refine blk_drew ?_ | refine blk_alloc ?_ _)); refine blk_put (cs := #[.int .u64 ((rd_T48 l0_1 x50_2).f0), .int .u16 ((rd_T48 l0_1 x50_2).f1), .int .i64 ((rd_T48 l0_1 x50_2).f2), .int .i64 ((rd_T48 l0_1 x50_2).f3), .int .i64 ((rd_T48 l0_1 x50_2).f4), .int .i64 ((rd_T48 l0_1 x50_2).f5), .int .i64 ((rd_T48 l0_1 x50_2).f6), .slice none 0 0]) ?_ 7 _ rfl; (with_reducible repeat (first | refine blk_drewN ?_ _ | refine blk_drew ?_ | refine blk_alloc ?_ _)); refine blk_put (cs := #[.int .u64 ((rd_T48 l0_1 x50_2).f0), .int .u16 ((rd_T48 l0_1 x50_2).f1), .int .i64 ((rd_T48 l0_1 x50_2).f2), .int .i64 ((rd_T48 l0_1 x50_2).f3), .int .i64 ((rd_T48 l0_1 x50_2).f4), .int .i64 ((rd_T48 l0_1 x50_2).f5), .int .i64 0, .slice none 0 0]) ?_ 6 _ rfl; (with_reducible repeat (first | refine blk_drewN ?_ _ | refine blk_drew ?_ | refine blk_alloc ?_ _)); refine blk_put (cs := #[.int .u64 ((rd_T48 l0_1 x50_2).f0), .int .u16 ((rd_T48 l0_1 x50_2).f1), .int .i64 ((rd_T48 l0_1 x50_2).f2), .int .i64 ((rd_T48 l0_1 x50_2).f3), .int .i64 ((rd_T48 l0_1 x50_2).f4), .int .i64 0, .int .i64 0, .slice none 0 0]) ?_ 5 _ rfl; (with_reducible repeat (first | refine blk_drewN ?_ _ | refine blk_drew ?_ | refine blk_alloc ?_ _)); refine blk_put (cs := #[.int .u64 ((rd_T48 l0_1 x50_2).f0), .int .u16 ((rd_T48 l0_1 x50_2).f1), .int .i64 ((rd_T48 l0_1 x50_2).f2), .int .i64 ((rd_T48 l0_1 x50_2).f3), .int .i64 0, .int .i64 0, .int .i64 0, .slice none 0 0]) ?_ 4 _ rfl; (with_reducible repeat (first | refine blk_drewN ?_ _ | refine blk_drew ?_ | refine blk_alloc ?_ _)); refine blk_put (cs := #[.int .u64 ((rd_T48 l0_1 x50_2).f0), .int .u16 ((rd_T48 l0_1 x50_2).f1), .int .i64 ((rd_T48 l0_1 x50_2).f2), .int .i64 0, .int .i64 0, .int .i64 0, .int .i64 0, .slice none 0 0]) ?_ 3 _ rfl; (with_reducible repeat (first | refine blk_drewN ?_ _ | refine blk_drew ?_ | refine blk_alloc ?_ _)); refine blk_put (cs := #[.int .u64 ((rd_T48 l0_1 x50_2).f0), .int .u16 ((rd_T48 l0_1 x50_2).f1), .int .i64 0, .int .i64 0, .int .i64 0, .int .i64 0, .int .i64 0, .slice none 0 0]) ?_ 2 _ rfl; (with_reducible repeat (first | refine blk_drewN ?_ _ | refine blk_drew ?_ | refine blk_alloc ?_ _)); refine blk_put (cs := #[.int .u64 ((rd_T48 l0_1 x50_2).f0), .int .u16 0, .int .i64 0, .int .i64 0, .int .i64 0, .int .i64 0, .int .i64 0, .slice none 0 0]) ?_ 1 _ rfl; (with_reducible repeat (first | refine blk_drewN ?_ _ | refine blk_drew ?_ | refine blk_alloc ?_ _)); refine blk_put (cs := #[.int .u64 0, .int .u16 0, .int .i64 0, .int .i64 0, .int .i64 0, .int .i64 0, .int .i64 0, .slice none 0 0]) ?_ 0 _ rfl; (with_reducible repeat (first | refine blk_drewN ?_ _ | refine blk_drew ?_ | refine blk_alloc ?_ _)); exact BK120.out) hb); have n3_ := Aside0.mk (below_step (by repeat (first | (with_reducible first | exact HB.out | apply below_alloc | apply pw_below_drewN | apply below_drew1 | refine below_set ?_ GE115.out | refine below_set ?_ GE120.out) | exact HB.out)) hb); clear HO_3; clear BK115; clear BK120; clear HB; have HO_3 := n0_; have BK115 := n1_; have BK120 := n2_; have HB := n3_; clear n0_ n1_ n2_ n3_; (try clear hb); (try clear hb2); (try clear hk); (try clear hi); have hcz39_0 : w38.cell? ⟨gb120, 0, none⟩ = some (.int .u64 ((rd_T48 l0_1 x50_2).f0)) := (blk_cell BK120.out 0).trans rfl; have hcz39_1 : w38.cell? ⟨gb120, 1, none⟩ = some (.int .u16 ((rd_T48 l0_1 x50_2).f1)) := (blk_cell BK120.out 1).trans rfl; have hcz39_2 : w38.cell? ⟨gb120, 2, none⟩ = some (.int .i64 ((rd_T48 l0_1 x50_2).f2)) := (blk_cell BK120.out 2).trans rfl; have hcz39_3 : w38.cell? ⟨gb120, 3, none⟩ = some (.int .i64 ((rd_T48 l0_1 x50_2).f3)) := (blk_cell BK120.out 3).trans rfl; have hcz39_4 : w38.cell? ⟨gb120, 4, none⟩ = some (.int .i64 ((rd_T48 l0_1 x50_2).f4)) := (blk_cell BK120.out 4).trans rfl; have hcz39_5 : w38.cell? ⟨gb120, 5, none⟩ = some (.int .i64 ((rd_T48 l0_1 x50_2).f5)) := (blk_cell BK120.out 5).trans rfl; have hcz39_6 : w38.cell? ⟨gb120, 6, none⟩ = some (.int .i64 ((rd_T48 l0_1 x50_2).f6)) := (blk_cell BK120.out 6).trans rfl; have hcz39_7 : w38.cell? ⟨gb120, 7, none⟩ = some (.slice A119_7 ((rd_T48 l0_1 x50_2).f7).length c119_7) := (blk_cell BK120.out 7).trans rfl; have hfz39_0 := blk_frozen BK120.out 0; have hfz39_1 := blk_frozen BK120.out 1; have hfz39_2 := blk_frozen BK120.out 2; have hfz39_3 := blk_frozen BK120.out 3; have hfz39_4 := blk_frozen BK120.out 4; have hfz39_5 := blk_frozen BK120.out 5; have hfz39_6 := blk_frozen BK120.out 6; have hfz39_7 := blk_frozen BK120.out 7) | (at_mapUpdate; refine Mk.R_store (w0 := w) (d := Kd.int .u64) (e := 44) (base := w.heap.size) (ok := fun _ => True) (xs := x3_2) (key := ((rd_T48 l0_1 x50_2).f0)) _ rfl _ _ _ rfl rfl ?aO ?aX rfl ?aW ?aL ?aB ?_; (case aX => first | rfl | (go_simp; done) | (go_simp; rfl)); (case aW => exact key_S48 HW_l0_1.out (of_decide_eq_true (by first | (with_reducible assumption) | assumption) : 0 ≤ x50_2) (of_decide_eq_true (by first | (with_reducible assumption) | assumption) : x50_2 < (l0_1.length : Int))); (case aB => exact (by repeat (first | (with_reducible first | exact HB.out | apply below_alloc | apply pw_below_drewN | apply below_drew1 | refine below_set ?_ GE115.out | refine below_set ?_ GE120.out) | exact HB.out))); (case aO => exact (by (with_reducible repeat (first | apply Mk.R_alloc | apply Mk.R_drewN | apply Mk.R_drew)); exact HO_3.out)); (case aL => have := LMc32.out; unfold maxLen; omega); intro w41 ho hb hg; rw [← Ny122.out] at ho; have n0_ := Aside0.mk (blk_grown (g := gb115) (o := .cells #[.int .i64 a0_0, .slice (some ad119) l0_1.length c0_1, .slice A0_2 l0_2.length c0_2, .slice A0_3 l0_3.length c0_3] 26 (0, 0)) (by (with_reducible repeat (first | refine blk_drewN ?_ _ | refine blk_drew ?_ | refine blk_alloc ?_ _)); exact BK115.out) hg (Mk.R_ne HO_3.out BK115.out trivial)); have n1_ := Aside0.mk (blk_grown (g := gb120) (o := .cells #[.int .u64 ((rd_T48 l0_1 x50_2).f0), .int .u16 ((rd_T48 l0_1 x50_2).f1), .int .i64 ((rd_T48 l0_1 x50_2).f2), .int .i64 ((rd_T48 l0_1 x50_2).f3), .int .i64 ((rd_T48 l0_1 x50_2).f4), .int .i64 ((rd_T48 l0_1 x50_2).f5), .int .i64 ((rd_T48 l0_1 x50_2).f6), .slice A119_7 ((rd_T48 l0_1 x50_2).f7).length c119_7] 48 (0, 0)) (by (with_reducible repeat (first | refine blk_drewN ?_ _ | refine blk_drew ?_ | refine blk_alloc ?_ _)); exact BK120.out) hg (Mk.R_ne HO_3.out BK120.out trivial)); have n2_ := Aside0.mk (hb); have n3_ := Aside0.mk (ho); clear BK115; clear BK120; clear HB; clear HO_3; have BK115 := n0_; have BK120 := n1_; have HB := n2_; have HO124 := n3_; clear n0_ n1_ n2_ n3_; clear ho hb hg; have hcz42_0 : w41.cell? ⟨gb115, 0, none⟩ = some (.int .i64 a0_0) := (blk_cell BK115.out 0).trans rfl; have hcz42_1 : w41.cell? ⟨gb115, 1, none⟩ = some (.slice (some ad119) l0_1.length c0_1) := (blk_cell BK115.out 1).trans rfl; have hcz42_2 : w41.cell? ⟨gb115, 2, none⟩ = some (.slice A0_2 l0_2.length c0_2) := (blk_cell BK115.out 2).trans rfl; have hcz42_3 : w41.cell? ⟨gb115, 3, none⟩ = some (.slice A0_3 l0_3.length c0_3) := (blk_cell BK115.out 3).trans rfl; have hfz42_0 := blk_frozen BK115.out 0; have hfz42_1 := blk_frozen BK115.out 1; have hfz42_2 := blk_frozen BK115.out 2; have hfz42_3 := blk_frozen BK115.out 3; have p125 : 0 ≤ (x50_2 : Int) := of_decide_eq_true (by first | (with_reducible assumption) | assumption); have q125 : x50_2 < (l0_2.length : Int) := of_decide_eq_true (by first | (with_reducible assumption) | assumption); obtain ⟨ad125, A125_0, c125_0, e125, hx125_0, hl125_0, hi125_0⟩ := at_L9 HR0_2.out x50_2 p125 q125; cases e125; replace hx125_0 := (HB.out.cell (World.block_lt_of_cell? w _ hx125_0)).trans hx125_0; have HR125_0 := Aside0.mk hi125_0; have HC125_0 := Aside0.mk hl125_0; clear hi125_0 hl125_0; replace p125 := eq_true p125; replace q125 := eq_true q125; have hcz43_0 : w41.cell? ⟨gb120, 0, none⟩ = some (.int .u64 ((rd_T48 l0_1 x50_2).f0)) := (blk_cell BK120.out 0).trans rfl; have hcz43_1 : w41.cell? ⟨gb120, 1, none⟩ = some (.int .u16 ((rd_T48 l0_1 x50_2).f1)) := (blk_cell BK120.out 1).trans rfl; have hcz43_2 : w41.cell? ⟨gb120, 2, none⟩ = some (.int .i64 ((rd_T48 l0_1 x50_2).f2)) := (blk_cell BK120.out 2).trans rfl; have hcz43_3 : w41.cell? ⟨gb120, 3, none⟩ = some (.int .i64 ((rd_T48 l0_1 x50_2).f3)) := (blk_cell BK120.out 3).trans rfl; have hcz43_4 : w41.cell? ⟨gb120, 4, none⟩ = some (.int .i64 ((rd_T48 l0_1 x50_2).f4)) := (blk_cell BK120.out 4).trans rfl; have hcz43_5 : w41.cell? ⟨gb120, 5, none⟩ = some (.int .i64 ((rd_T48 l0_1 x50_2).f5)) := (blk_cell BK120.out 5).trans rfl; have hcz43_6 : w41.cell? ⟨gb120, 6, none⟩ = some (.int .i64 ((rd_T48 l0_1 x50_2).f6)) := (blk_cell BK120.out 6).trans rfl; have hcz43_7 : w41.cell? ⟨gb120, 7, none⟩ = some (.slice A119_7 ((rd_T48 l0_1 x50_2).f7).length c119_7) := (blk_cell BK120.out 7).trans rfl; have hfz43_0 := blk_frozen BK120.out 0; have hfz43_1 := blk_frozen BK120.out 1; have hfz43_2 := blk_frozen BK120.out 2; have hfz43_3 := blk_frozen BK120.out 3; have hfz43_4 := blk_frozen BK120.out 4; have hfz43_5 := blk_frozen BK120.out 5; have hfz43_6 := blk_frozen BK120.out 6; have hfz43_7 := blk_frozen BK120.out 7; have p126 : 0 ≤ (x50_2 : Int) := of_decide_eq_true (by first | (with_reducible assumption) | assumption); have q126 : x50_2 < (l0_2.length : Int) := of_decide_eq_true (by first | (with_reducible assumption) | assumption); obtain ⟨ad126, A126_0, c126_0, e126, hx126_0, hl126_0, hi126_0⟩ := at_L9 HR0_2.out x50_2 p126 q126; obtain rfl : ad125 = ad126 := (by injection e126); replace hx126_0 := (HB.out.cell (World.block_lt_of_cell? w _ hx126_0)).trans hx126_0; have HR126_0 := Aside0.mk hi126_0; have HC126_0 := Aside0.mk hl126_0; clear hi126_0 hl126_0; replace p126 := eq_true p126; replace q126 := eq_true q126; have ea_ := Option.some.inj (hx125_0.symm.trans hx126_0); injection ea_ with ea_ en_ ec_; subst ea_; subst ec_; clear en_))
 repeat (go_quiet (fail); try go_wp2)
 go_loopg [83] k2 (fun kq v83 w' => ∃ (x83_3 : Int), v83 = .int .i64 x83_3 ∧ Aside0 (topo_Check.l1 kq y122 l0_1 (l0_1.length : Int) x50_2 (rd_L9 l0_2 x50_2) ((rd_L9 l0_2 x50_2).length : Int) x83_3 a0_0 l0_1 l0_2 l0_3 = some r) ∧ Aside0 (kq ≤ k2) ∧ Aside0 (Mk.R (Kd.int .u64) 44 w' w.heap.size (fun _ => True) (.map (some bm_)) y122) ∧ Aside0 (w'.heap[gb115]? = some (.cells #[.int .i64 a0_0, (.slice (some ad119) l0_1.length c0_1), (.slice (some ad125) l0_2.length c0_2), (.slice A0_3 l0_3.length c0_3)] 26 (0, 0))) ∧ Aside0 (w'.heap[gb120]? = some (.cells #[.int .u64 ((rd_T48 l0_1 x50_2).f0), .int .u16 ((rd_T48 l0_1 x50_2).f1), .int .i64 ((rd_T48 l0_1 x50_2).f2), .int .i64 ((rd_T48 l0_1 x50_2).f3), .int .i64 ((rd_T48 l0_1 x50_2).f4), .int .i64 ((rd_T48 l0_1 x50_2).f5), .int .i64 ((rd_T48 l0_1 x50_2).f6), (.slice A119_7 ((rd_T48 l0_1 x50_2).f7).length c119_7)] 48 (0, 0))) ∧ Aside0 (Below w.heap.size w w'))
 case atStart => exact ⟨(0), (by first | rfl | (simp; done) | (simp [*]; done)), H', ⟨Nat.le_refl _⟩, ⟨by (with_reducible repeat (first | apply Mk.R_alloc | apply Mk.R_drewN | apply Mk.R_drew)); exact HO124.out⟩, ⟨by (with_reducible repeat (first | refine blk_drewN ?_ _ | refine blk_drew ?_ | refine blk_alloc ?_ _)); exact BK115.out⟩, ⟨by (with_reducible repeat (first | refine blk_drewN ?_ _ | refine blk_drew ?_ | refine blk_alloc ?_ _)); exact BK120.out⟩, ⟨by repeat (first | (with_reducible first | exact HB.out | apply below_alloc | apply pw_below_drewN | apply below_drew1 | refine below_set ?_ GE115.out | refine below_set ?_ GE120.out) | exact HB.out)⟩⟩
 clear H'
 try clear c1
 try clear p1
 try clear q1
 try clear hx1
 try clear c2
 try clear p2
 try clear c3
 try clear c4
 try clear c4b0
 try clear c6
 try clear c6b0
 try clear c8
 try clear c8b0
 try clear c8b1
 try clear c8b2
 try clear c9
 try clear c11
 try clear p11
 try clear q11
 try clear hx11
 try clear c12
 try clear c12b0
 try clear c12b1
 try clear p12
 try clear q12
 try clear hx12
 try clear c14
 try clear c14b0
 try clear c14b1
 try clear c20
 try clear c20b0
 try clear c21
 try clear c21b0
 try clear c22
 try clear c22b0
 try clear c24
 try clear c24b0
 try clear c24b1
 try clear c25
 try clear c25b0
 try clear c27
 try clear c32
 try clear c33
 try clear c33b0
 try clear c34
 try clear c34b0
 try clear c34b1
 try clear c34b2
 try clear c36
 try clear hcz10_0
 try clear hcz10_1
 try clear hcz10_2
 try clear hcz10_3
 try clear hcz13_0
 try clear hcz13_1
 try clear hcz13_2
 try clear hcz13_3
 try clear hcz15_0
 try clear hcz15_1
 try clear hcz15_2
 try clear hcz15_3
 try clear hcz16_0
 try clear hcz16_1
 try clear hcz16_2
 try clear hcz16_3
 try clear hcz19_0
 try clear hcz19_1
 try clear hcz19_2
 try clear hcz19_3
 try clear hcz28_0
 try clear hcz28_1
 try clear hcz28_2
 try clear hcz28_3
 try clear hcz28_4
 try clear hcz28_5
 try clear hcz28_6
 try clear hcz28_7
 try clear hcz30_0
 try clear hcz30_1
 try clear hcz30_2
 try clear hcz30_3
 try clear hcz30_4
 try clear hcz30_5
 try clear hcz30_6
 try clear hcz30_7
 try clear hcz37_0
 try clear hcz37_1
 try clear hcz37_2
 try clear hcz37_3
 try clear hcz37_4
 try clear hcz37_5
 try clear hcz37_6
 try clear hcz37_7
 try clear hcz39_0
 try clear hcz39_1
 try clear hcz39_2
 try clear hcz39_3
 try clear hcz39_4
 try clear hcz39_5
 try clear hcz39_6
 try clear hcz39_7
 try clear hcz42_0
 try clear hcz42_1
 try clear hcz42_2
 try clear hcz42_3
 try clear hcz43_0
 try clear hcz43_1
 try clear hcz43_2
 try clear hcz43_3
 try clear hcz43_4
 try clear hcz43_5
 try clear hcz43_6
 try clear hcz43_7
 try clear hcz5_0
 try clear hcz5_1
 try clear hcz5_2
 try clear hcz5_3
 try clear hcz7_0
 try clear hcz7_1
 try clear hcz7_2
 try clear hcz7_3
 try clear hcz9_0
 try clear hcz9_1
 try clear hcz9_2
 try clear hcz9_3
 try clear hfz10_0
 try clear hfz10_1
 try clear hfz10_2
 try clear hfz10_3
 try clear hfz13_0
 try clear hfz13_1
 try clear hfz13_2
 try clear hfz13_3
 try clear hfz15_0
 try clear hfz15_1
 try clear hfz15_2
 try clear hfz15_3
 try clear hfz16_0
 try clear hfz16_1
 try clear hfz16_2
 try clear hfz16_3
 try clear hfz19_0
 try clear hfz19_1
 try clear hfz19_2
 try clear hfz19_3
 try clear hfz28_0
 try clear hfz28_1
 try clear hfz28_2
 try clear hfz28_3
 try clear hfz28_4
 try clear hfz28_5
 try clear hfz28_6
 try clear hfz28_7
 try clear hfz30_0
 try clear hfz30_1
 try clear hfz30_2
 try clear hfz30_3
 try clear hfz30_4
 try clear hfz30_5
 try clear hfz30_6
 try clear hfz30_7
 try clear hfz37_0
 try clear hfz37_1
 try clear hfz37_2
 try clear hfz37_3
 try clear hfz37_4
 try clear hfz37_5
 try clear hfz37_6
 try clear hfz37_7
 try clear hfz39_0
 try clear hfz39_1
 try clear hfz39_2
 try clear hfz39_3
 try clear hfz39_4
 try clear hfz39_5
 try clear hfz39_6
 try clear hfz39_7
 try clear hfz42_0
 try clear hfz42_1
 try clear hfz42_2
 try clear hfz42_3
 try clear hfz43_0
 try clear hfz43_1
 try clear hfz43_2
 try clear hfz43_3
 try clear hfz43_4
 try clear hfz43_5
 try clear hfz43_6
 try clear hfz43_7
 try clear hfz5_0
 try clear hfz5_1
 try clear hfz5_2
 try clear hfz5_3
 try clear hfz7_0
 try clear hfz7_1
 try clear hfz7_2
 try clear hfz7_3
 try clear hfz9_0
 try clear hfz9_1
 try clear hfz9_2
 try clear hfz9_3
 try clear hx119_0
 try clear hx119_1
 try clear hx119_2
 try clear hx119_3
 try clear hx119_4
 try clear hx119_5
 try clear hx119_6
 try clear hx119_7
 try clear hx125_0
 try clear hx126_0
 try clear p119
 try clear p125
 try clear p126
 try clear p2
 try clear q119
 try clear q125
 try clear q126
 obtain ⟨x83_3, rfl, HA, HK3, HO_3, BK115, BK120, HB⟩ := hrel
 cases gk with
 | zero => exact absurd HA.out (by simp [topo_Check.l1])
 | succ k3 => ?_
 have H := HA.out
 clear HA
 simp only [topo_Check.l1] at H
 by_cases c44 : x83_3 < ((rd_L9 l0_2 x50_2).length : Int)
 rotate_left
 ·rw [if_neg c44] at H
  have c44b0 : decide (x83_3 < ((rd_L9 l0_2 x50_2).length : Int)) = false := decide_eq_false c44
  clear c44
  have H' := Aside0.mk H
  clear H
  go_wp2
  go_roundg k3
  case measure => have := HJ1.out; have := HK2.out; have := HK3.out; omega
  case rel => exact ⟨(y122), (wrap64 (x50_2 + 1)), (by first | rfl | (simp; done) | (simp [*]; done)), H', ⟨by have := HJ1.out; have := HK2.out; have := HK3.out; omega⟩, ⟨by (with_reducible repeat (first | apply Mk.R_alloc | apply Mk.R_drewN | apply Mk.R_drew)); exact HO_3.out⟩, ⟨by (with_reducible repeat (first | refine blk_drewN ?_ _ | refine blk_drew ?_ | refine blk_alloc ?_ _)); exact BK115.out⟩, ⟨by repeat (first | (with_reducible first | exact HB.out | apply below_alloc | apply pw_below_drewN | apply below_drew1 | refine below_set ?_ GE115.out | refine below_set ?_ GE120.out) | exact HB.out)⟩⟩
 rw [if_pos c44] at H
 have c44b0 : decide (x83_3 < ((rd_L9 l0_2 x50_2).length : Int)) = true := decide_eq_true c44
 clear c44
 by_cases c45 : 0 ≤ x83_3
 rotate_left
 ·rw [if_neg c45] at H
  exact absurd H (by simp)
 rw [if_pos c45] at H
 have c45b0 : decide (0 ≤ x83_3) = true := decide_eq_true c45
 clear c45
 by_cases c46 : x83_3 < ((rd_L9 l0_2 x50_2).length : Int)
 rotate_left
 ·rw [if_neg c46] at H
  exact absurd H (by simp)
 rw [if_pos c46] at H
 have c46b0 : decide (x83_3 < ((rd_L9 l0_2 x50_2).length : Int)) = true := decide_eq_true c46
 clear c46
 by_cases c47 : (rd (rd_L9 l0_2 x50_2) x83_3) < 0
 ·rw [if_pos c47] at H
  have c47b0 : decide ((rd (rd_L9 l0_2 x50_2) x83_3) < 0) = true := decide_eq_true c47
  clear c47
  obtain rfl := Option.some.inj H
  have p127 : 0 ≤ (x83_3 : Int) := of_decide_eq_true (by first | (with_reducible assumption) | assumption)
  have q127 : x83_3 < ((rd_L9 l0_2 x50_2).length : Int) := of_decide_eq_true (by first | (with_reducible assumption) | assumption)
  obtain ⟨ad127, e127, hx127_0⟩ := Kd.at_int HR126_0.out x83_3 p127 q127
  cases e127
  replace hx127_0 := (HB.out.cell (World.block_lt_of_cell? w _ hx127_0)).trans hx127_0
  replace p127 := eq_true p127
  replace q127 := eq_true q127
  go_wp2
  go_ret
  exact ⟨by first | rfl | (simp [errW_none, errW_some] <;> rfl) | (simp [*, errW_none, errW_some] <;> rfl), by repeat (first | (with_reducible first | exact HB.out | apply below_alloc | apply pw_below_drewN | apply below_drew1 | refine below_set ?_ GE115.out | refine below_set ?_ GE120.out) | exact HB.out)⟩
 rw [if_neg c47] at H
 have c47b0 : decide ((rd (rd_L9 l0_2 x50_2) x83_3) < 0) = false := decide_eq_false c47
 clear c47
 by_cases c48 : (rd (rd_L9 l0_2 x50_2) x83_3) ≥ a0_0
 ·rw [if_pos c48] at H
  have c48b0 : decide (a0_0 ≤ (rd (rd_L9 l0_2 x50_2) x83_3)) = true := decide_eq_true c48
  clear c48
  obtain rfl := Option.some.inj H
  have p127 : 0 ≤ (x83_3 : Int) := of_decide_eq_true (by first | (with_reducible assumption) | assumption)
  have q127 : x83_3 < ((rd_L9 l0_2 x50_2).length : Int) := of_decide_eq_true (by first | (with_reducible assumption) | assumption)
  obtain ⟨ad127, e127, hx127_0⟩ := Kd.at_int HR126_0.out x83_3 p127 q127
  cases e127
  replace hx127_0 := (HB.out.cell (World.block_lt_of_cell? w _ hx127_0)).trans hx127_0
  replace p127 := eq_true p127
  replace q127 := eq_true q127
  have hnb49 := NB115_120.out
  have hnc49 := NB120_115.out
  have hcz50_0 : wr.cell? ⟨gb115, 0, none⟩ = some (.int .i64 a0_0) := (blk_cell BK115.out 0).trans rfl
  have hcz50_1 : wr.cell? ⟨gb115, 1, none⟩ = some (.slice (some ad119) l0_1.length c0_1) := (blk_cell BK115.out 1).trans rfl
  have hcz50_2 : wr.cell? ⟨gb115, 2, none⟩ = some (.slice (some ad125) l0_2.length c0_2) := (blk_cell BK115.out 2).trans rfl
  have hcz50_3 : wr.cell? ⟨gb115, 3, none⟩ = some (.slice A0_3 l0_3.length c0_3) := (blk_cell BK115.out 3).trans rfl
  have hfz50_0 := blk_frozen BK115.out 0
  have hfz50_1 := blk_frozen BK115.out 1
  have hfz50_2 := blk_frozen BK115.out 2
  have hfz50_3 := blk_frozen BK115.out 3
  go_wp2
  go_ret
  exact ⟨by first | rfl | (simp [errW_none, errW_some] <;> rfl) | (simp [*, errW_none, errW_some] <;> rfl), by repeat (first | (with_reducible first | exact HB.out | apply below_alloc | apply pw_below_drewN | apply below_drew1 | refine below_set ?_ GE115.out | refine below_set ?_ GE120.out) | exact HB.out)⟩
 rw [if_neg c48] at H
 have c48b0 : decide (a0_0 ≤ (rd (rd_L9 l0_2 x50_2) x83_3)) = false := decide_eq_false c48
 clear c48
 have H' := Aside0.mk H
 clear H
 have p127 : 0 ≤ (x83_3 : Int) := of_decide_eq_true (by first | (with_reducible assumption) | assumption)
 have q127 : x83_3 < ((rd_L9 l0_2 x50_2).length : Int) := of_decide_eq_true (by first | (with_reducible assumption) | assumption)
 obtain ⟨ad127, e127, hx127_0⟩ := Kd.at_int HR126_0.out x83_3 p127 q127
 cases e127
 replace hx127_0 := (HB.out.cell (World.block_lt_of_cell? w _ hx127_0)).trans hx127_0
 replace p127 := eq_true p127
 replace q127 := eq_true q127
 have hnb51 := NB115_120.out
 have hnc51 := NB120_115.out
 have hcz52_0 : wr.cell? ⟨gb115, 0, none⟩ = some (.int .i64 a0_0) := (blk_cell BK115.out 0).trans rfl
 have hcz52_1 : wr.cell? ⟨gb115, 1, none⟩ = some (.slice (some ad119) l0_1.length c0_1) := (blk_cell BK115.out 1).trans rfl
 have hcz52_2 : wr.cell? ⟨gb115, 2, none⟩ = some (.slice (some ad125) l0_2.length c0_2) := (blk_cell BK115.out 2).trans rfl
 have hcz52_3 : wr.cell? ⟨gb115, 3, none⟩ = some (.slice A0_3 l0_3.length c0_3) := (blk_cell BK115.out 3).trans rfl
 have hfz52_0 := blk_frozen BK115.out 0
 have hfz52_1 := blk_frozen BK115.out 1
 have hfz52_2 := blk_frozen BK115.out 2
 have hfz52_3 := blk_frozen BK115.out 3
 go_wp2
 go_roundg k3
 case measure => have := HJ1.out; have := HK2.out; have := HK3.out; omega
 case rel => exact ⟨(wrap64 (x83_3 + 1)), (by first | rfl | (simp; done) | (simp [*]; done)), H', ⟨by have := HJ1.out; have := HK2.out; have := HK3.out; omega⟩, ⟨by (with_reducible repeat (first | apply Mk.R_alloc | apply Mk.R_drewN | apply Mk.R_drew)); exact HO_3.out⟩, ⟨by (with_reducible repeat (first | refine blk_drewN ?_ _ | refine blk_drew ?_ | refine blk_alloc ?_ _)); exact BK115.out⟩, ⟨by (with_reducible repeat (first | refine blk_drewN ?_ _ | refine blk_drew ?_ | refine blk_alloc ?_ _)); exact BK120.out⟩, ⟨by repeat (first | (with_reducible first | exact HB.out | apply below_alloc | apply pw_below_drewN | apply below_drew1 | refine below_set ?_ GE115.out | refine below_set ?_ GE120.out) | exact HB.out)⟩⟩
end Go.Proofs.Ytkgfpagfmdefgaa.OTopoRight
