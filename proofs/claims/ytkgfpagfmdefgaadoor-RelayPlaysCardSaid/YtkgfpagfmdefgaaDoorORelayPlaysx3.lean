/- What Go functions that the law RelayPlays uses come to, and why: part 3. Made out of the kit's print by a program of this session (wip/tools/stub.py, splice.py), functions that it does not take told by hand. -/
import Derived.Test.YtkgfpagfmdefgaaDoorORelayPlaysx2
namespace Go.Proofs.YtkgfpagfmdefgaaDoor.ORelayPlays
open Go.RowKit Go.Proofs.YtkgfpagfmdefgaaDoorW.PrintWords Go.Proofs.YtkgfpagfmdefgaaDoorW.PrintLast Go.Proofs.YtkgfpagfmdefgaaDoorW.PrintMore
attribute [local go_sem] max2_int min2_int max_two min_two max_three min_three max_four min_four   -- for this text's walks alone
set_option linter.unusedVariables false
set_option linter.unusedSimpArgs false

/-! ### treelineref18_Ports: function 10 -/
mutual
def treelineref18_Ports.l0 : Nat → Int → List Int → Int → Bool → List Int → Int → Int → Int → Int → List Int → Option (List Int)
  | 0, _, _, _, _, _, _, _, _, _, _ => none
  | k + 1, x1, x2, x3, x4, x11, x12, x128000, x128001, x128002, x128003 => if x12 < (x2.length : Int) then (if x1 ≥ 0 then (if x1 < (x2.length : Int) then (if x12 = x1 then (treelineref18_Ports.j1 k x1 x2 x3 x4 x11 x12 false x128000 x128001 x128002 x128003) else (if 0 ≤ x12 then (if (rd x2 x12) = 4 then ((treelineref18_Class.f x128000 x128001 x128002 x128003).bind fun t129 => (treelineref18_Ports.j1 k x1 x2 x3 x4 x11 x12 (t129 == 2) x128000 x128001 x128002 x128003)) else (treelineref18_Ports.j1 k x1 x2 x3 x4 x11 x12 false x128000 x128001 x128002 x128003)) else (none))) else (treelineref18_Ports.j1 k x1 x2 x3 x4 x11 x12 false x128000 x128001 x128002 x128003)) else (treelineref18_Ports.j1 k x1 x2 x3 x4 x11 x12 false x128000 x128001 x128002 x128003)) else (some x11)
def treelineref18_Ports.j1 : Nat → Int → List Int → Int → Bool → List Int → Int → Bool → Int → Int → Int → List Int → Option (List Int)
  | 0, _, _, _, _, _, _, _, _, _, _, _ => none
  | k + 1, x1, x2, x3, x4, x11, x12, x13, x128000, x128001, x128002, x128003 => if x13 = true then (if 0 ≤ x1 then (if x1 < (x2.length : Int) then (if (rd x2 x1) = 4 then (if (Int.tmod (IntKind.u64.wrap (Int.tdiv x128000 1099511627776)) 2) = 1 then (if x11.length < 17592186044416 then (treelineref18_Ports.l0 k x1 x2 x3 x4 (x11 ++ [x12]) (wrap64 (x12 + 1)) x128000 x128001 x128002 x128003) else (none)) else (if x4 = true then (if x3 = x12 then (if x11.length < 17592186044416 then (treelineref18_Ports.l0 k x1 x2 x3 x4 (x11 ++ [x12]) (wrap64 (x12 + 1)) x128000 x128001 x128002 x128003) else (none)) else (treelineref18_Ports.l0 k x1 x2 x3 x4 x11 (wrap64 (x12 + 1)) x128000 x128001 x128002 x128003)) else (if x11.length < 17592186044416 then (treelineref18_Ports.l0 k x1 x2 x3 x4 (x11 ++ [x12]) (wrap64 (x12 + 1)) x128000 x128001 x128002 x128003) else (none)))) else (treelineref18_Ports.l0 k x1 x2 x3 x4 x11 (wrap64 (x12 + 1)) x128000 x128001 x128002 x128003)) else (none)) else (none)) else (treelineref18_Ports.l0 k x1 x2 x3 x4 x11 (wrap64 (x12 + 1)) x128000 x128001 x128002 x128003)
end
def treelineref18_Ports.f (k : Nat) (a0_0 : Int) (a0_1 : Int) (a0_2 : Int) (l0_3 : List Int) (a1 : Int) (l2 : List Int) (a3 : Int) (a4 : Bool) : Option (List Int) := treelineref18_Ports.l0 k a1 l2 a3 a4 ([] : List Int) 0 a0_0 a0_1 a0_2 l0_3
theorem treelineref18_Ports.mono_l : ∀ k, (∀ y0 y1 y2 y3 y4 y5 y6 y7 y8 y9, LeO (treelineref18_Ports.l0 k y0 y1 y2 y3 y4 y5 y6 y7 y8 y9) (treelineref18_Ports.l0 (k + 1) y0 y1 y2 y3 y4 y5 y6 y7 y8 y9)) ∧ (∀ y0 y1 y2 y3 y4 y5 y6 y7 y8 y9 y10, LeO (treelineref18_Ports.j1 k y0 y1 y2 y3 y4 y5 y6 y7 y8 y9 y10) (treelineref18_Ports.j1 (k + 1) y0 y1 y2 y3 y4 y5 y6 y7 y8 y9 y10))
  | 0 => ⟨fun _ _ _ _ _ _ _ _ _ _ r h => by simp [treelineref18_Ports.l0] at h, fun _ _ _ _ _ _ _ _ _ _ _ r h => by simp [treelineref18_Ports.j1] at h⟩
  | k + 1 => by
    obtain ⟨ih0, ih1⟩ := treelineref18_Ports.mono_l k
    refine ⟨?_, ?_⟩
    · intro y0 y1 y2 y3 y4 y5 y6 y7 y8 y9
      unfold treelineref18_Ports.l0
      repeat' first
      | (with_reducible exact ih0 _ _ _ _ _ _ _ _ _ _)
      | (with_reducible exact ih1 _ _ _ _ _ _ _ _ _ _ _)
      | (with_reducible exact LeO.refl _)
      | (with_reducible exact LeO.none _)
      | (with_reducible refine LeO.ite ?_ ?_)
      | (with_reducible refine LeO.bind ?_ (fun _ => ?_))
      | exact ih0 _ _ _ _ _ _ _ _ _ _
      | exact ih1 _ _ _ _ _ _ _ _ _ _ _
      | exact LeO.none _
      | refine LeO.ite ?_ ?_
      | refine LeO.bind ?_ (fun _ => ?_)
    · intro y0 y1 y2 y3 y4 y5 y6 y7 y8 y9 y10
      unfold treelineref18_Ports.j1
      repeat' first
      | (with_reducible exact ih0 _ _ _ _ _ _ _ _ _ _)
      | (with_reducible exact ih1 _ _ _ _ _ _ _ _ _ _ _)
      | (with_reducible exact LeO.refl _)
      | (with_reducible exact LeO.none _)
      | (with_reducible refine LeO.ite ?_ ?_)
      | (with_reducible refine LeO.bind ?_ (fun _ => ?_))
      | exact ih0 _ _ _ _ _ _ _ _ _ _
      | exact ih1 _ _ _ _ _ _ _ _ _ _ _
      | exact LeO.none _
      | refine LeO.ite ?_ ?_
      | refine LeO.bind ?_ (fun _ => ?_)
theorem treelineref18_Ports.mono : ∀ a0 a1 a2 a3 a4 a5 a6 a7 k, LeO (treelineref18_Ports.f k a0 a1 a2 a3 a4 a5 a6 a7) (treelineref18_Ports.f (k + 1) a0 a1 a2 a3 a4 a5 a6 a7) := by
  intro a0 a1 a2 a3 a4 a5 a6 a7 k
  obtain ⟨ih0, ih1⟩ := treelineref18_Ports.mono_l k
  unfold treelineref18_Ports.f
  repeat' first
      | (with_reducible exact ih0 _ _ _ _ _ _ _ _ _ _)
      | (with_reducible exact ih1 _ _ _ _ _ _ _ _ _ _ _)
      | (with_reducible exact LeO.refl _)
      | (with_reducible exact LeO.none _)
      | (with_reducible refine LeO.ite ?_ ?_)
      | (with_reducible refine LeO.bind ?_ (fun _ => ?_))
      | exact ih0 _ _ _ _ _ _ _ _ _ _
      | exact ih1 _ _ _ _ _ _ _ _ _ _ _
      | exact LeO.none _
      | refine LeO.ite ?_ ?_
      | refine LeO.bind ?_ (fun _ => ?_)
set_option maxHeartbeats 8000000 in
set_option maxRecDepth 100000 in
theorem treelineref18_Ports.calls (k : Nat) (a0_0 : Int) (a0_1 : Int) (a0_2 : Int) (A0_3 : Option Addr) (c0_3 : Nat) (l0_3 : List Int) (a1 : Int) (A2 : Option Addr) (c2 : Nat) (l2 : List Int) (a3 : Int) (a4 : Bool) (r : List Int) (w : World) (hr0_3 : Kd.C (Kd.int .u8) w A0_3 l0_3.length l0_3) (hc0_3 : l0_3.length ≤ c0_3) (hr2 : Kd.C (Kd.int .i64) w A2 l2.length l2) (hc2 : l2.length ≤ c2) (h : treelineref18_Ports.f k a0_0 a0_1 a0_2 l0_3 a1 l2 a3 a4 = some r) (HG : Aside0 (Llc.Glob w)) :
    Calls Tryd.prog 10 #[.agg #[.int .u64 a0_0, .int .u64 a0_1, .int .u16 a0_2, .slice A0_3 l0_3.length c0_3], .int .i64 a1, .slice A2 l2.length c2, .int .i64 a3, .bool a4] w fun e w' => ∃ v0_ : Value, e = .returned (v0_) ∧ Kd.R (Kd.int .i64) 3 w' w.heap.size (fun _ => True) v0_ r ∧ Below w.heap.size w w' := by
  have hu27 := Tryd.underlying27
  have HR0_3 := Aside0.mk hr0_3
  have HC0_3 := Aside0.mk hc0_3
  clear hr0_3 hc0_3
  have HR2 := Aside0.mk hr2
  have HC2 := Aside0.mk hc2
  clear hr2 hc2
  have HB := Aside0.mk (Below.refl w.heap.size w)
  have H : (treelineref18_Ports.l0 k a1 l2 a3 a4 ([] : List Int) 0 a0_0 a0_1 a0_2 l0_3) = some r := h
  clear h
  have H' := Aside0.mk H
  clear H
  go_enter Tryd.func10, Tryd.ntmps10
  go_wp2_with (first | ((with_reducible refine gate_dst (N := 5) rfl ?_); (try (refine gate_guard (by rfl) ?_; dsimp only)); refine box_event ?hg (N := 5) ?hd (cs := #[.int .u64 a0_0, .int .u64 a0_1, .int .u16 a0_2, .slice A0_3 l0_3.length c0_3]) (t := 27) ?hr ?_; (case hd => rfl); (case hg => rfl); (case hr => first | (go_simp; done) | (go_simp; rfl)); intro gb127 hg w6 hbox hb; have n0_ := Aside0.mk (below_step (by repeat (first | (with_reducible first | exact HB.out | apply below_alloc | apply pw_below_drewN | apply below_drew1) | exact HB.out)) hb); have n1_ := Aside0.mk (hbox); have n2_ := Aside0.mk ((by rw [hg]; exact (below_size (by repeat (first | (with_reducible first | exact HB.out | apply below_alloc | apply pw_below_drewN | apply below_drew1) | exact HB.out))) : w.heap.size ≤ gb127)); have n3_ := Aside0.mk ((by rw [hg]; exact (below_size (by repeat (first | (with_reducible first | exact HB.out | apply below_alloc | apply pw_below_drewN | apply below_drew1) | exact HB.out))) : w.heap.size ≤ gb127)); clear HB; have HB := n0_; have BK127 := n1_; have GW127 := n2_; have GE127 := n3_; clear n0_ n1_ n2_ n3_; clear hb hbox hg))
  go_loopg [11, 12] k (fun kq v11 v12 w' => ∃ (x11_1 : List Int) (x12_1 : Int), v12 = .int .i64 x12_1 ∧ Aside0 (treelineref18_Ports.l0 kq a1 l2 a3 a4 x11_1 x12_1 a0_0 a0_1 a0_2 l0_3 = some r) ∧ Aside0 (kq ≤ k) ∧ Aside0 (Kd.R (Kd.int .i64) 3 w' w.heap.size (fun _ => True) v11 x11_1) ∧ Aside0 (w'.heap[gb127]? = some (.cells #[.int .u64 a0_0, .int .u64 a0_1, .int .u16 a0_2, (.slice A0_3 l0_3.length c0_3)] 27 (0, 0))) ∧ Aside0 (Below w.heap.size w w'))
  case atStart => exact ⟨(([] : List Int)), (0), (by first | rfl | (simp; done) | (simp [*]; done)), H', ⟨Nat.le_refl _⟩, ⟨by first | exact Kd.R_nil _ _ _ _ _ | exact Kd.N_nil _ _ _ _ _ | exact Kd.V_nil _ _ _ _ _ | exact Kd.Q_nil _ _ _ _ _ | exact Kd.S_nil _ _ _ _ _⟩, ⟨by (with_reducible repeat (first | refine blk_drewN ?_ _ | refine blk_drew ?_ | refine blk_alloc ?_ _)); exact BK127.out⟩, ⟨by repeat (first | (with_reducible first | exact HB.out | apply below_alloc | apply pw_below_drewN | apply below_drew1 | refine below_set ?_ GE127.out) | exact HB.out)⟩⟩
  case round =>
    clear H'
    try clear c1
    try clear c2
    try clear p2
    obtain ⟨x11_1, x12_1, rfl, HA, HK1, HO_11, BK127, HB⟩ := hrel
    cases gk with
    | zero => exact absurd HA.out (by simp [treelineref18_Ports.l0])
    | succ k1 =>
      have H := HA.out
      clear HA
      simp only [treelineref18_Ports.l0] at H
      by_cases c7 : x12_1 < (l2.length : Int)
      · rw [if_pos c7] at H
        have c7b0 : decide (x12_1 < (l2.length : Int)) = true := decide_eq_true c7
        clear c7
        have HC8 := Aside0.mk H
        clear H
        go_upto_region 5 with (fail)
        go_cut [13] (fun v13 wc => ∃ (kq : Nat) (x13_7 : Bool), v13 = .bool x13_7 ∧ Aside0 (treelineref18_Ports.j1 kq a1 l2 a3 a4 x11_1 x12_1 x13_7 a0_0 a0_1 a0_2 l0_3 = some r) ∧ Aside0 (kq ≤ k1) ∧ Aside0 (Kd.R (Kd.int .i64) 3 wc w.heap.size (fun _ => True) u11 x11_1) ∧ Aside0 (wc.heap[gb127]? = some (.cells #[.int .u64 a0_0, .int .u64 a0_1, .int .u16 a0_2, (.slice A0_3 l0_3.length c0_3)] 27 (0, 0))) ∧ Aside0 (Below w.heap.size w wc))
        case first =>
          have H := HC8.out
          clear HC8
          by_cases c9 : a1 ≥ 0
          · rw [if_pos c9] at H
            have c9b0 : decide (0 ≤ a1) = true := decide_eq_true c9
            clear c9
            (first | rw [c9b0] | (simp only [i64_w, i32_w]; rw [c9b0]) | skip)
            by_cases c10 : a1 < (l2.length : Int)
            · rw [if_pos c10] at H
              have c10b0 : decide (a1 < (l2.length : Int)) = true := decide_eq_true c10
              clear c10
              by_cases c11 : x12_1 = a1
              · rw [if_pos c11] at H
                have c11b0 : (x12_1 == a1) = true := beq_iff_eq.mpr c11
                have c11b1 : (x12_1 != a1) = false := bne_eq_false_iff_eq.mpr c11
                clear c11
                have H' := Aside0.mk H
                clear H
                go_wp2
                go_meet
                case rel => exact ⟨_, (false), (by first | rfl | (simp; done) | (simp [*]; done)), H', ⟨by have := HK1.out; first | omega | exact Nat.le_refl _⟩, ⟨by (with_reducible repeat (first | apply Kd.R_alloc | apply Kd.R_drewN | apply Kd.R_drew)); exact HO_11.out⟩, ⟨by (with_reducible repeat (first | refine blk_drewN ?_ _ | refine blk_drew ?_ | refine blk_alloc ?_ _)); exact BK127.out⟩, ⟨by repeat (first | (with_reducible first | exact HB.out | apply below_alloc | apply pw_below_drewN | apply below_drew1 | refine below_set ?_ GE127.out) | exact HB.out)⟩⟩
              · rw [if_neg c11] at H
                have c11b0 : (x12_1 == a1) = false := beq_eq_false_iff_ne.mpr c11
                have c11b1 : (x12_1 != a1) = true := bne_iff_ne.mpr c11
                by_cases c12 : 0 ≤ x12_1
                · rw [if_pos c12] at H
                  have c12b0 : decide (0 ≤ x12_1) = true := decide_eq_true c12
                  clear c12
                  by_cases c13 : (rd l2 x12_1) = 4
                  · rw [if_pos c13] at H
                    have c13b0 : ((rd l2 x12_1) == 4) = true := beq_iff_eq.mpr c13
                    have c13b1 : ((rd l2 x12_1) != 4) = false := bne_eq_false_iff_eq.mpr c13
                    clear c13
                    replace H := Option.bind_eq_some_iff.mp H
                    obtain ⟨t129, A140, H⟩ := H
                    replace H : (treelineref18_Ports.j1 k1 a1 l2 a3 a4 x11_1 x12_1 (t129 == 2) a0_0 a0_1 a0_2 l0_3) = some r := H
                    have A14 := Aside0.mk A140
                    clear A140
                    have H' := Aside0.mk H
                    clear H
                    have p128 : 0 ≤ (x12_1 : Int) := of_decide_eq_true (by first | (with_reducible assumption) | assumption)
                    have q128 : x12_1 < (l2.length : Int) := of_decide_eq_true (by first | (with_reducible assumption) | assumption)
                    obtain ⟨ad128, e128, hx128_0⟩ := Kd.at_int HR2.out x12_1 p128 q128
                    cases e128
                    replace hx128_0 := (HB.out.cell (World.block_lt_of_cell? w _ hx128_0)).trans hx128_0
                    replace p128 := eq_true p128
                    replace q128 := eq_true q128
                    have hcz15_0 : wr.cell? ⟨gb127, 0, none⟩ = some (.int .u64 a0_0) := (blk_cell BK127.out 0).trans rfl
                    have hcz15_1 : wr.cell? ⟨gb127, 1, none⟩ = some (.int .u64 a0_1) := (blk_cell BK127.out 1).trans rfl
                    have hcz15_2 : wr.cell? ⟨gb127, 2, none⟩ = some (.int .u16 a0_2) := (blk_cell BK127.out 2).trans rfl
                    have hcz15_3 : wr.cell? ⟨gb127, 3, none⟩ = some (.slice A0_3 l0_3.length c0_3) := (blk_cell BK127.out 3).trans rfl
                    have hfz15_0 := blk_frozen BK127.out 0
                    have hfz15_1 := blk_frozen BK127.out 1
                    have hfz15_2 := blk_frozen BK127.out 2
                    have hfz15_3 := blk_frozen BK127.out 3
                    go_wp2_with (first | (go_at_call 11; (with_reducible refine (treelineref18_Class.calls a0_0 a0_1 a0_2 _ _ l0_3 t129 _ ?side1 ?side2 A14.out ?sideG).mono ?_); (case sideG => exact ⟨HG.out.below (by repeat (first | (with_reducible first | exact HB.out | apply below_alloc | apply pw_below_drewN | apply below_drew1) | exact HB.out))⟩); (case side1 => repeat (first | exact (Kd.C_below HR0_3.out HB.out) | (with_reducible refine Kd.C_alloc ?_ _) | (with_reducible refine Kd.C_drewN ?_ _) | (with_reducible refine Kd.C_drew ?_))); (case side2 => exact HC0_3.out); rintro e w16 ⟨rfl, hb⟩; have n0_ := Aside0.mk (Kd.R_below (by (with_reducible repeat (first | apply Kd.R_alloc | apply Kd.R_drewN | apply Kd.R_drew)); exact HO_11.out) hb); have n1_ := Aside0.mk (blk_below (g := gb127) (o := .cells #[.int .u64 a0_0, .int .u64 a0_1, .int .u16 a0_2, .slice A0_3 l0_3.length c0_3] 27 (0, 0)) (by (with_reducible repeat (first | refine blk_drewN ?_ _ | refine blk_drew ?_ | refine blk_alloc ?_ _)); exact BK127.out) hb); have n2_ := Aside0.mk (below_step (by repeat (first | (with_reducible first | exact HB.out | apply below_alloc | apply pw_below_drewN | apply below_drew1 | refine below_set ?_ GE127.out) | exact HB.out)) hb); clear HO_11; clear BK127; clear HB; have HO_11 := n0_; have BK127 := n1_; have HB := n2_; clear n0_ n1_ n2_; (try clear hb); (try clear hb2); (try clear hk); (try clear hi)))
                    go_meet
                    case rel => exact ⟨_, ((t129 == 2)), (by first | rfl | (simp; done) | (simp [*]; done)), H', ⟨by have := HK1.out; first | omega | exact Nat.le_refl _⟩, ⟨by (with_reducible repeat (first | apply Kd.R_alloc | apply Kd.R_drewN | apply Kd.R_drew)); exact HO_11.out⟩, ⟨by (with_reducible repeat (first | refine blk_drewN ?_ _ | refine blk_drew ?_ | refine blk_alloc ?_ _)); exact BK127.out⟩, ⟨by repeat (first | (with_reducible first | exact HB.out | apply below_alloc | apply pw_below_drewN | apply below_drew1 | refine below_set ?_ GE127.out) | exact HB.out)⟩⟩
                  · rw [if_neg c13] at H
                    have c13b0 : ((rd l2 x12_1) == 4) = false := beq_eq_false_iff_ne.mpr c13
                    have c13b1 : ((rd l2 x12_1) != 4) = true := bne_iff_ne.mpr c13
                    have H' := Aside0.mk H
                    clear H
                    have p128 : 0 ≤ (x12_1 : Int) := of_decide_eq_true (by first | (with_reducible assumption) | assumption)
                    have q128 : x12_1 < (l2.length : Int) := of_decide_eq_true (by first | (with_reducible assumption) | assumption)
                    obtain ⟨ad128, e128, hx128_0⟩ := Kd.at_int HR2.out x12_1 p128 q128
                    cases e128
                    replace hx128_0 := (HB.out.cell (World.block_lt_of_cell? w _ hx128_0)).trans hx128_0
                    replace p128 := eq_true p128
                    replace q128 := eq_true q128
                    go_wp2
                    go_meet
                    case rel => exact ⟨_, (false), (by first | rfl | (simp; done) | (simp [*]; done)), H', ⟨by have := HK1.out; first | omega | exact Nat.le_refl _⟩, ⟨by (with_reducible repeat (first | apply Kd.R_alloc | apply Kd.R_drewN | apply Kd.R_drew)); exact HO_11.out⟩, ⟨by (with_reducible repeat (first | refine blk_drewN ?_ _ | refine blk_drew ?_ | refine blk_alloc ?_ _)); exact BK127.out⟩, ⟨by repeat (first | (with_reducible first | exact HB.out | apply below_alloc | apply pw_below_drewN | apply below_drew1 | refine below_set ?_ GE127.out) | exact HB.out)⟩⟩
                · rw [if_neg c12] at H
                  exact absurd H (by simp)
            · rw [if_neg c10] at H
              have c10b0 : decide (a1 < (l2.length : Int)) = false := decide_eq_false c10
              clear c10
              have H' := Aside0.mk H
              clear H
              go_wp2
              go_meet
              case rel => exact ⟨_, (false), (by first | rfl | (simp; done) | (simp [*]; done)), H', ⟨by have := HK1.out; first | omega | exact Nat.le_refl _⟩, ⟨by (with_reducible repeat (first | apply Kd.R_alloc | apply Kd.R_drewN | apply Kd.R_drew)); exact HO_11.out⟩, ⟨by (with_reducible repeat (first | refine blk_drewN ?_ _ | refine blk_drew ?_ | refine blk_alloc ?_ _)); exact BK127.out⟩, ⟨by repeat (first | (with_reducible first | exact HB.out | apply below_alloc | apply pw_below_drewN | apply below_drew1 | refine below_set ?_ GE127.out) | exact HB.out)⟩⟩
          · rw [if_neg c9] at H
            have c9b0 : decide (0 ≤ a1) = false := decide_eq_false c9
            clear c9
            (first | rw [c9b0] | (simp only [i64_w, i32_w]; rw [c9b0]) | skip)
            have H' := Aside0.mk H
            clear H
            go_wp2
            go_meet
            case rel => exact ⟨_, (false), (by first | rfl | (simp; done) | (simp [*]; done)), H', ⟨by have := HK1.out; first | omega | exact Nat.le_refl _⟩, ⟨by (with_reducible repeat (first | apply Kd.R_alloc | apply Kd.R_drewN | apply Kd.R_drew)); exact HO_11.out⟩, ⟨by (with_reducible repeat (first | refine blk_drewN ?_ _ | refine blk_drew ?_ | refine blk_alloc ?_ _)); exact BK127.out⟩, ⟨by repeat (first | (with_reducible first | exact HB.out | apply below_alloc | apply pw_below_drewN | apply below_drew1 | refine below_set ?_ GE127.out) | exact HB.out)⟩⟩
        case rest =>
          clear HC8
          try clear c1
          try clear p1
          try clear q1
          try clear hx1
          try clear c2
          try clear p2
          try clear c7
          try clear c7b0
          try clear c9
          try clear c9b0
          try clear c10
          try clear c10b0
          try clear c11
          try clear c11b0
          try clear c11b1
          try clear c12
          try clear c12b0
          try clear p12
          try clear q12
          try clear hx12
          try clear c13
          try clear c13b0
          try clear c13b1
          try clear hcz15_0
          try clear hcz15_1
          try clear hcz15_2
          try clear hcz15_3
          try clear hfz15_0
          try clear hfz15_1
          try clear hfz15_2
          try clear hfz15_3
          try clear hx128_0
          try clear p128
          try clear p2
          try clear q128
          obtain ⟨kq, x13_7, rfl, HA, HJ7, HO_11, BK127, HB⟩ := hcut
          cases kq with
          | zero => exact absurd HA.out (by simp [treelineref18_Ports.j1])
          | succ kj7 =>
            have H := HA.out
            clear HA
            simp only [treelineref18_Ports.j1] at H
            by_cases c17 : x13_7 = true
            · subst c17
              have H1 : (if 0 ≤ a1 then (if a1 < (l2.length : Int) then (if (rd l2 a1) = 4 then (if (Int.tmod (IntKind.u64.wrap (Int.tdiv a0_0 1099511627776)) 2) = 1 then (if x11_1.length < 17592186044416 then (treelineref18_Ports.l0 kj7 a1 l2 a3 a4 (x11_1 ++ [x12_1]) (wrap64 (x12_1 + 1)) a0_0 a0_1 a0_2 l0_3) else (none)) else (if a4 = true then (if a3 = x12_1 then (if x11_1.length < 17592186044416 then (treelineref18_Ports.l0 kj7 a1 l2 a3 a4 (x11_1 ++ [x12_1]) (wrap64 (x12_1 + 1)) a0_0 a0_1 a0_2 l0_3) else (none)) else (treelineref18_Ports.l0 kj7 a1 l2 a3 a4 x11_1 (wrap64 (x12_1 + 1)) a0_0 a0_1 a0_2 l0_3)) else (if x11_1.length < 17592186044416 then (treelineref18_Ports.l0 kj7 a1 l2 a3 a4 (x11_1 ++ [x12_1]) (wrap64 (x12_1 + 1)) a0_0 a0_1 a0_2 l0_3) else (none)))) else (treelineref18_Ports.l0 kj7 a1 l2 a3 a4 x11_1 (wrap64 (x12_1 + 1)) a0_0 a0_1 a0_2 l0_3)) else (none)) else (none)) = some r := by rw [if_pos rfl] at H; exact H
              clear H
              have H := H1
              clear H1
              by_cases c18 : 0 ≤ a1
              · rw [if_pos c18] at H
                have c18b0 : decide (0 ≤ a1) = true := decide_eq_true c18
                clear c18
                by_cases c19 : a1 < (l2.length : Int)
                · rw [if_pos c19] at H
                  have c19b0 : decide (a1 < (l2.length : Int)) = true := decide_eq_true c19
                  clear c19
                  by_cases c20 : (rd l2 a1) = 4
                  · rw [if_pos c20] at H
                    have c20b0 : ((rd l2 a1) == 4) = true := beq_iff_eq.mpr c20
                    have c20b1 : ((rd l2 a1) != 4) = false := bne_eq_false_iff_eq.mpr c20
                    clear c20
                    by_cases c21 : (Int.tmod (IntKind.u64.wrap (Int.tdiv a0_0 1099511627776)) 2) = 1
                    · rw [if_pos c21] at H
                      have c21b0 : ((Int.tmod (IntKind.u64.wrap (Int.tdiv a0_0 1099511627776)) 2) == 1) = true := beq_iff_eq.mpr c21
                      have c21b1 : ((Int.tmod (IntKind.u64.wrap (Int.tdiv a0_0 1099511627776)) 2) != 1) = false := bne_eq_false_iff_eq.mpr c21
                      clear c21
                      by_cases c22 : x11_1.length < 17592186044416
                      · rw [if_pos c22] at H
                        have LMc22 := Aside0.mk c22
                        clear c22
                        obtain ⟨y131, hy131⟩ : ∃ y_ : List Int, y_ = (x11_1 ++ [x12_1]) := ⟨_, rfl⟩
                        replace H : (treelineref18_Ports.l0 kj7 a1 l2 a3 a4 y131 (wrap64 (x12_1 + 1)) a0_0 a0_1 a0_2 l0_3) = some r := by first | (rw [hy131]; with_reducible exact H) | (have H2_ := (Option.bind_some _ _).symm.trans H; rw [hy131]; with_reducible exact H2_) | (have H2_ := (Option.bind_some _ _).symm.trans H; with_reducible exact H2_) | with_reducible exact H | (rw [hy131]; exact H) | exact H
                        have Ny131 := Aside0.mk hy131
                        clear hy131
                        have H' := Aside0.mk H
                        clear H
                        have p130 : 0 ≤ (a1 : Int) := of_decide_eq_true (by first | (with_reducible assumption) | assumption)
                        have q130 : a1 < (l2.length : Int) := of_decide_eq_true (by first | (with_reducible assumption) | assumption)
                        obtain ⟨ad130, e130, hx130_0⟩ := Kd.at_int HR2.out a1 p130 q130
                        cases e130
                        replace hx130_0 := (HB.out.cell (World.block_lt_of_cell? w _ hx130_0)).trans hx130_0
                        replace p130 := eq_true p130
                        replace q130 := eq_true q130
                        have hcz23_0 : wc.cell? ⟨gb127, 0, none⟩ = some (.int .u64 a0_0) := (blk_cell BK127.out 0).trans rfl
                        have hcz23_1 : wc.cell? ⟨gb127, 1, none⟩ = some (.int .u64 a0_1) := (blk_cell BK127.out 1).trans rfl
                        have hcz23_2 : wc.cell? ⟨gb127, 2, none⟩ = some (.int .u16 a0_2) := (blk_cell BK127.out 2).trans rfl
                        have hcz23_3 : wc.cell? ⟨gb127, 3, none⟩ = some (.slice A0_3 l0_3.length c0_3) := (blk_cell BK127.out 3).trans rfl
                        have hfz23_0 := blk_frozen BK127.out 0
                        have hfz23_1 := blk_frozen BK127.out 1
                        have hfz23_2 := blk_frozen BK127.out 2
                        have hfz23_3 := blk_frozen BK127.out 3
                        go_wp2_with (first | ((with_reducible refine gate_builtin (b := .append) (xs := #[.tmp 70, .tmp 72]) rfl ?_); (try (refine gate_guard (by rfl) ?_; dsimp only)); at_builtin; refine Kd.R_append (Kd.int .i64) (w0 := w) w.heap.size rfl (.tmp 70) (.tmp 72) 28 3 (.int .i64 0) 8 rfl Tryd.underlying28 info3 rfl (by decide) (by omega) u11 x11_1 x12_1 [.int .i64 x12_1] (fun _ => True) (fun _ => False) rfl rfl ?aP (fun _ hk => hk.elim) ?aF ?aO ?aB ?aS ?aL ?_; (case aP => exact rfl); (case aB => exact (by repeat (first | (with_reducible first | exact HB.out | apply below_alloc | apply pw_below_drewN | apply below_drew1 | refine below_set ?_ GE127.out) | exact HB.out))); (case aF => exact (fun _ _ => trivial)); (case aO => exact (by (with_reducible repeat (first | apply Kd.R_alloc | apply Kd.R_drewN | apply Kd.R_drew)); exact HO_11.out)); (case aS => exact (below_size (by repeat (first | (with_reducible first | exact HB.out | apply below_alloc | apply pw_below_drewN | apply below_drew1 | refine below_set ?_ GE127.out) | exact HB.out)))); (case aL => have := LMc22.out; omega); intro v132 w24 ho hb hg hat; rw [← Ny131.out] at ho; have n0_ := Aside0.mk (blk_grown (g := gb127) (o := .cells #[.int .u64 a0_0, .int .u64 a0_1, .int .u16 a0_2, .slice A0_3 l0_3.length c0_3] 27 (0, 0)) (by (with_reducible repeat (first | refine blk_drewN ?_ _ | refine blk_drew ?_ | refine blk_alloc ?_ _)); exact BK127.out) hg (Kd.R_ne HO_11.out BK127.out (by decide))); have n1_ := Aside0.mk (hb); have n2_ := Aside0.mk (ho); clear BK127; clear HB; clear HO_11; have BK127 := n0_; have HB := n1_; have HO133 := n2_; clear n0_ n1_ n2_; clear ho hb hg hat))
                        go_roundg kj7
                        case measure => have := HK1.out; have := HJ7.out; omega
                        case rel => exact ⟨(y131), (wrap64 (x12_1 + 1)), (by first | rfl | (simp; done) | (simp [*]; done)), H', ⟨by have := HK1.out; have := HJ7.out; omega⟩, ⟨by (with_reducible repeat (first | apply Kd.R_alloc | apply Kd.R_drewN | apply Kd.R_drew)); exact HO133.out⟩, ⟨by (with_reducible repeat (first | refine blk_drewN ?_ _ | refine blk_drew ?_ | refine blk_alloc ?_ _)); exact BK127.out⟩, ⟨by repeat (first | (with_reducible first | exact HB.out | apply below_alloc | apply pw_below_drewN | apply below_drew1 | refine below_set ?_ GE127.out) | exact HB.out)⟩⟩
                      · rw [if_neg c22] at H
                        exact absurd H (by simp)
                    · rw [if_neg c21] at H
                      have c21b0 : ((Int.tmod (IntKind.u64.wrap (Int.tdiv a0_0 1099511627776)) 2) == 1) = false := beq_eq_false_iff_ne.mpr c21
                      have c21b1 : ((Int.tmod (IntKind.u64.wrap (Int.tdiv a0_0 1099511627776)) 2) != 1) = true := bne_iff_ne.mpr c21
                      by_cases c25 : a4 = true
                      · subst c25
                        have H1 : (if a3 = x12_1 then (if x11_1.length < 17592186044416 then (treelineref18_Ports.l0 kj7 a1 l2 a3 true (x11_1 ++ [x12_1]) (wrap64 (x12_1 + 1)) a0_0 a0_1 a0_2 l0_3) else (none)) else (treelineref18_Ports.l0 kj7 a1 l2 a3 true x11_1 (wrap64 (x12_1 + 1)) a0_0 a0_1 a0_2 l0_3)) = some r := by rw [if_pos rfl] at H; exact H
                        clear H
                        have H := H1
                        clear H1
                        by_cases c26 : a3 = x12_1
                        · rw [if_pos c26] at H
                          have c26b0 : (a3 == x12_1) = true := beq_iff_eq.mpr c26
                          have c26b1 : (a3 != x12_1) = false := bne_eq_false_iff_eq.mpr c26
                          clear c26
                          by_cases c27 : x11_1.length < 17592186044416
                          · rw [if_pos c27] at H
                            have LMc27 := Aside0.mk c27
                            clear c27
                            obtain ⟨y134, hy134⟩ : ∃ y_ : List Int, y_ = (x11_1 ++ [x12_1]) := ⟨_, rfl⟩
                            replace H : (treelineref18_Ports.l0 kj7 a1 l2 a3 true y134 (wrap64 (x12_1 + 1)) a0_0 a0_1 a0_2 l0_3) = some r := by first | (rw [hy134]; with_reducible exact H) | (have H2_ := (Option.bind_some _ _).symm.trans H; rw [hy134]; with_reducible exact H2_) | (have H2_ := (Option.bind_some _ _).symm.trans H; with_reducible exact H2_) | with_reducible exact H | (rw [hy134]; exact H) | exact H
                            have Ny134 := Aside0.mk hy134
                            clear hy134
                            have H' := Aside0.mk H
                            clear H
                            have p130 : 0 ≤ (a1 : Int) := of_decide_eq_true (by first | (with_reducible assumption) | assumption)
                            have q130 : a1 < (l2.length : Int) := of_decide_eq_true (by first | (with_reducible assumption) | assumption)
                            obtain ⟨ad130, e130, hx130_0⟩ := Kd.at_int HR2.out a1 p130 q130
                            cases e130
                            replace hx130_0 := (HB.out.cell (World.block_lt_of_cell? w _ hx130_0)).trans hx130_0
                            replace p130 := eq_true p130
                            replace q130 := eq_true q130
                            have hcz28_0 : wc.cell? ⟨gb127, 0, none⟩ = some (.int .u64 a0_0) := (blk_cell BK127.out 0).trans rfl
                            have hcz28_1 : wc.cell? ⟨gb127, 1, none⟩ = some (.int .u64 a0_1) := (blk_cell BK127.out 1).trans rfl
                            have hcz28_2 : wc.cell? ⟨gb127, 2, none⟩ = some (.int .u16 a0_2) := (blk_cell BK127.out 2).trans rfl
                            have hcz28_3 : wc.cell? ⟨gb127, 3, none⟩ = some (.slice A0_3 l0_3.length c0_3) := (blk_cell BK127.out 3).trans rfl
                            have hfz28_0 := blk_frozen BK127.out 0
                            have hfz28_1 := blk_frozen BK127.out 1
                            have hfz28_2 := blk_frozen BK127.out 2
                            have hfz28_3 := blk_frozen BK127.out 3
                            go_wp2_with (first | ((with_reducible refine gate_builtin (b := .append) (xs := #[.tmp 70, .tmp 72]) rfl ?_); (try (refine gate_guard (by rfl) ?_; dsimp only)); at_builtin; refine Kd.R_append (Kd.int .i64) (w0 := w) w.heap.size rfl (.tmp 70) (.tmp 72) 28 3 (.int .i64 0) 8 rfl Tryd.underlying28 info3 rfl (by decide) (by omega) u11 x11_1 x12_1 [.int .i64 x12_1] (fun _ => True) (fun _ => False) rfl rfl ?aP (fun _ hk => hk.elim) ?aF ?aO ?aB ?aS ?aL ?_; (case aP => exact rfl); (case aB => exact (by repeat (first | (with_reducible first | exact HB.out | apply below_alloc | apply pw_below_drewN | apply below_drew1 | refine below_set ?_ GE127.out) | exact HB.out))); (case aF => exact (fun _ _ => trivial)); (case aO => exact (by (with_reducible repeat (first | apply Kd.R_alloc | apply Kd.R_drewN | apply Kd.R_drew)); exact HO_11.out)); (case aS => exact (below_size (by repeat (first | (with_reducible first | exact HB.out | apply below_alloc | apply pw_below_drewN | apply below_drew1 | refine below_set ?_ GE127.out) | exact HB.out)))); (case aL => have := LMc27.out; omega); intro v135 w29 ho hb hg hat; rw [← Ny134.out] at ho; have n0_ := Aside0.mk (blk_grown (g := gb127) (o := .cells #[.int .u64 a0_0, .int .u64 a0_1, .int .u16 a0_2, .slice A0_3 l0_3.length c0_3] 27 (0, 0)) (by (with_reducible repeat (first | refine blk_drewN ?_ _ | refine blk_drew ?_ | refine blk_alloc ?_ _)); exact BK127.out) hg (Kd.R_ne HO_11.out BK127.out (by decide))); have n1_ := Aside0.mk (hb); have n2_ := Aside0.mk (ho); clear BK127; clear HB; clear HO_11; have BK127 := n0_; have HB := n1_; have HO136 := n2_; clear n0_ n1_ n2_; clear ho hb hg hat))
                            go_roundg kj7
                            case measure => have := HK1.out; have := HJ7.out; omega
                            case rel => exact ⟨(y134), (wrap64 (x12_1 + 1)), (by first | rfl | (simp; done) | (simp [*]; done)), H', ⟨by have := HK1.out; have := HJ7.out; omega⟩, ⟨by (with_reducible repeat (first | apply Kd.R_alloc | apply Kd.R_drewN | apply Kd.R_drew)); exact HO136.out⟩, ⟨by (with_reducible repeat (first | refine blk_drewN ?_ _ | refine blk_drew ?_ | refine blk_alloc ?_ _)); exact BK127.out⟩, ⟨by repeat (first | (with_reducible first | exact HB.out | apply below_alloc | apply pw_below_drewN | apply below_drew1 | refine below_set ?_ GE127.out) | exact HB.out)⟩⟩
                          · rw [if_neg c27] at H
                            exact absurd H (by simp)
                        · rw [if_neg c26] at H
                          have c26b0 : (a3 == x12_1) = false := beq_eq_false_iff_ne.mpr c26
                          have c26b1 : (a3 != x12_1) = true := bne_iff_ne.mpr c26
                          have H' := Aside0.mk H
                          clear H
                          have p130 : 0 ≤ (a1 : Int) := of_decide_eq_true (by first | (with_reducible assumption) | assumption)
                          have q130 : a1 < (l2.length : Int) := of_decide_eq_true (by first | (with_reducible assumption) | assumption)
                          obtain ⟨ad130, e130, hx130_0⟩ := Kd.at_int HR2.out a1 p130 q130
                          cases e130
                          replace hx130_0 := (HB.out.cell (World.block_lt_of_cell? w _ hx130_0)).trans hx130_0
                          replace p130 := eq_true p130
                          replace q130 := eq_true q130
                          have hcz30_0 : wc.cell? ⟨gb127, 0, none⟩ = some (.int .u64 a0_0) := (blk_cell BK127.out 0).trans rfl
                          have hcz30_1 : wc.cell? ⟨gb127, 1, none⟩ = some (.int .u64 a0_1) := (blk_cell BK127.out 1).trans rfl
                          have hcz30_2 : wc.cell? ⟨gb127, 2, none⟩ = some (.int .u16 a0_2) := (blk_cell BK127.out 2).trans rfl
                          have hcz30_3 : wc.cell? ⟨gb127, 3, none⟩ = some (.slice A0_3 l0_3.length c0_3) := (blk_cell BK127.out 3).trans rfl
                          have hfz30_0 := blk_frozen BK127.out 0
                          have hfz30_1 := blk_frozen BK127.out 1
                          have hfz30_2 := blk_frozen BK127.out 2
                          have hfz30_3 := blk_frozen BK127.out 3
                          go_wp2
                          go_roundg kj7
                          case measure => have := HK1.out; have := HJ7.out; omega
                          case rel => exact ⟨(x11_1), (wrap64 (x12_1 + 1)), (by first | rfl | (simp; done) | (simp [*]; done)), H', ⟨by have := HK1.out; have := HJ7.out; omega⟩, ⟨by (with_reducible repeat (first | apply Kd.R_alloc | apply Kd.R_drewN | apply Kd.R_drew)); exact HO_11.out⟩, ⟨by (with_reducible repeat (first | refine blk_drewN ?_ _ | refine blk_drew ?_ | refine blk_alloc ?_ _)); exact BK127.out⟩, ⟨by repeat (first | (with_reducible first | exact HB.out | apply below_alloc | apply pw_below_drewN | apply below_drew1 | refine below_set ?_ GE127.out) | exact HB.out)⟩⟩
                      · replace c25 := Bool.eq_false_iff.mpr c25
                        subst c25
                        have H1 : (if x11_1.length < 17592186044416 then (treelineref18_Ports.l0 kj7 a1 l2 a3 false (x11_1 ++ [x12_1]) (wrap64 (x12_1 + 1)) a0_0 a0_1 a0_2 l0_3) else (none)) = some r := by rw [if_neg (show ¬ (false = true) by decide)] at H; exact H
                        clear H
                        have H := H1
                        clear H1
                        by_cases c31 : x11_1.length < 17592186044416
                        · rw [if_pos c31] at H
                          have LMc31 := Aside0.mk c31
                          clear c31
                          obtain ⟨y137, hy137⟩ : ∃ y_ : List Int, y_ = (x11_1 ++ [x12_1]) := ⟨_, rfl⟩
                          replace H : (treelineref18_Ports.l0 kj7 a1 l2 a3 false y137 (wrap64 (x12_1 + 1)) a0_0 a0_1 a0_2 l0_3) = some r := by first | (rw [hy137]; with_reducible exact H) | (have H2_ := (Option.bind_some _ _).symm.trans H; rw [hy137]; with_reducible exact H2_) | (have H2_ := (Option.bind_some _ _).symm.trans H; with_reducible exact H2_) | with_reducible exact H | (rw [hy137]; exact H) | exact H
                          have Ny137 := Aside0.mk hy137
                          clear hy137
                          have H' := Aside0.mk H
                          clear H
                          have p130 : 0 ≤ (a1 : Int) := of_decide_eq_true (by first | (with_reducible assumption) | assumption)
                          have q130 : a1 < (l2.length : Int) := of_decide_eq_true (by first | (with_reducible assumption) | assumption)
                          obtain ⟨ad130, e130, hx130_0⟩ := Kd.at_int HR2.out a1 p130 q130
                          cases e130
                          replace hx130_0 := (HB.out.cell (World.block_lt_of_cell? w _ hx130_0)).trans hx130_0
                          replace p130 := eq_true p130
                          replace q130 := eq_true q130
                          have hcz32_0 : wc.cell? ⟨gb127, 0, none⟩ = some (.int .u64 a0_0) := (blk_cell BK127.out 0).trans rfl
                          have hcz32_1 : wc.cell? ⟨gb127, 1, none⟩ = some (.int .u64 a0_1) := (blk_cell BK127.out 1).trans rfl
                          have hcz32_2 : wc.cell? ⟨gb127, 2, none⟩ = some (.int .u16 a0_2) := (blk_cell BK127.out 2).trans rfl
                          have hcz32_3 : wc.cell? ⟨gb127, 3, none⟩ = some (.slice A0_3 l0_3.length c0_3) := (blk_cell BK127.out 3).trans rfl
                          have hfz32_0 := blk_frozen BK127.out 0
                          have hfz32_1 := blk_frozen BK127.out 1
                          have hfz32_2 := blk_frozen BK127.out 2
                          have hfz32_3 := blk_frozen BK127.out 3
                          go_wp2_with (first | ((with_reducible refine gate_builtin (b := .append) (xs := #[.tmp 70, .tmp 72]) rfl ?_); (try (refine gate_guard (by rfl) ?_; dsimp only)); at_builtin; refine Kd.R_append (Kd.int .i64) (w0 := w) w.heap.size rfl (.tmp 70) (.tmp 72) 28 3 (.int .i64 0) 8 rfl Tryd.underlying28 info3 rfl (by decide) (by omega) u11 x11_1 x12_1 [.int .i64 x12_1] (fun _ => True) (fun _ => False) rfl rfl ?aP (fun _ hk => hk.elim) ?aF ?aO ?aB ?aS ?aL ?_; (case aP => exact rfl); (case aB => exact (by repeat (first | (with_reducible first | exact HB.out | apply below_alloc | apply pw_below_drewN | apply below_drew1 | refine below_set ?_ GE127.out) | exact HB.out))); (case aF => exact (fun _ _ => trivial)); (case aO => exact (by (with_reducible repeat (first | apply Kd.R_alloc | apply Kd.R_drewN | apply Kd.R_drew)); exact HO_11.out)); (case aS => exact (below_size (by repeat (first | (with_reducible first | exact HB.out | apply below_alloc | apply pw_below_drewN | apply below_drew1 | refine below_set ?_ GE127.out) | exact HB.out)))); (case aL => have := LMc31.out; omega); intro v138 w33 ho hb hg hat; rw [← Ny137.out] at ho; have n0_ := Aside0.mk (blk_grown (g := gb127) (o := .cells #[.int .u64 a0_0, .int .u64 a0_1, .int .u16 a0_2, .slice A0_3 l0_3.length c0_3] 27 (0, 0)) (by (with_reducible repeat (first | refine blk_drewN ?_ _ | refine blk_drew ?_ | refine blk_alloc ?_ _)); exact BK127.out) hg (Kd.R_ne HO_11.out BK127.out (by decide))); have n1_ := Aside0.mk (hb); have n2_ := Aside0.mk (ho); clear BK127; clear HB; clear HO_11; have BK127 := n0_; have HB := n1_; have HO139 := n2_; clear n0_ n1_ n2_; clear ho hb hg hat))
                          go_roundg kj7
                          case measure => have := HK1.out; have := HJ7.out; omega
                          case rel => exact ⟨(y137), (wrap64 (x12_1 + 1)), (by first | rfl | (simp; done) | (simp [*]; done)), H', ⟨by have := HK1.out; have := HJ7.out; omega⟩, ⟨by (with_reducible repeat (first | apply Kd.R_alloc | apply Kd.R_drewN | apply Kd.R_drew)); exact HO139.out⟩, ⟨by (with_reducible repeat (first | refine blk_drewN ?_ _ | refine blk_drew ?_ | refine blk_alloc ?_ _)); exact BK127.out⟩, ⟨by repeat (first | (with_reducible first | exact HB.out | apply below_alloc | apply pw_below_drewN | apply below_drew1 | refine below_set ?_ GE127.out) | exact HB.out)⟩⟩
                        · rw [if_neg c31] at H
                          exact absurd H (by simp)
                  · rw [if_neg c20] at H
                    have c20b0 : ((rd l2 a1) == 4) = false := beq_eq_false_iff_ne.mpr c20
                    have c20b1 : ((rd l2 a1) != 4) = true := bne_iff_ne.mpr c20
                    have H' := Aside0.mk H
                    clear H
                    have p130 : 0 ≤ (a1 : Int) := of_decide_eq_true (by first | (with_reducible assumption) | assumption)
                    have q130 : a1 < (l2.length : Int) := of_decide_eq_true (by first | (with_reducible assumption) | assumption)
                    obtain ⟨ad130, e130, hx130_0⟩ := Kd.at_int HR2.out a1 p130 q130
                    cases e130
                    replace hx130_0 := (HB.out.cell (World.block_lt_of_cell? w _ hx130_0)).trans hx130_0
                    replace p130 := eq_true p130
                    replace q130 := eq_true q130
                    have hcz34_0 : wc.cell? ⟨gb127, 0, none⟩ = some (.int .u64 a0_0) := (blk_cell BK127.out 0).trans rfl
                    have hcz34_1 : wc.cell? ⟨gb127, 1, none⟩ = some (.int .u64 a0_1) := (blk_cell BK127.out 1).trans rfl
                    have hcz34_2 : wc.cell? ⟨gb127, 2, none⟩ = some (.int .u16 a0_2) := (blk_cell BK127.out 2).trans rfl
                    have hcz34_3 : wc.cell? ⟨gb127, 3, none⟩ = some (.slice A0_3 l0_3.length c0_3) := (blk_cell BK127.out 3).trans rfl
                    have hfz34_0 := blk_frozen BK127.out 0
                    have hfz34_1 := blk_frozen BK127.out 1
                    have hfz34_2 := blk_frozen BK127.out 2
                    have hfz34_3 := blk_frozen BK127.out 3
                    go_wp2
                    go_roundg kj7
                    case measure => have := HK1.out; have := HJ7.out; omega
                    case rel => exact ⟨(x11_1), (wrap64 (x12_1 + 1)), (by first | rfl | (simp; done) | (simp [*]; done)), H', ⟨by have := HK1.out; have := HJ7.out; omega⟩, ⟨by (with_reducible repeat (first | apply Kd.R_alloc | apply Kd.R_drewN | apply Kd.R_drew)); exact HO_11.out⟩, ⟨by (with_reducible repeat (first | refine blk_drewN ?_ _ | refine blk_drew ?_ | refine blk_alloc ?_ _)); exact BK127.out⟩, ⟨by repeat (first | (with_reducible first | exact HB.out | apply below_alloc | apply pw_below_drewN | apply below_drew1 | refine below_set ?_ GE127.out) | exact HB.out)⟩⟩
                · rw [if_neg c19] at H
                  exact absurd H (by simp)
              · rw [if_neg c18] at H
                exact absurd H (by simp)
            · replace c17 := Bool.eq_false_iff.mpr c17
              subst c17
              have H1 : (treelineref18_Ports.l0 kj7 a1 l2 a3 a4 x11_1 (wrap64 (x12_1 + 1)) a0_0 a0_1 a0_2 l0_3) = some r := by rw [if_neg (show ¬ (false = true) by decide)] at H; exact H
              clear H
              have H := H1
              clear H1
              have H' := Aside0.mk H
              clear H
              have hcz35_0 : wc.cell? ⟨gb127, 0, none⟩ = some (.int .u64 a0_0) := (blk_cell BK127.out 0).trans rfl
              have hcz35_1 : wc.cell? ⟨gb127, 1, none⟩ = some (.int .u64 a0_1) := (blk_cell BK127.out 1).trans rfl
              have hcz35_2 : wc.cell? ⟨gb127, 2, none⟩ = some (.int .u16 a0_2) := (blk_cell BK127.out 2).trans rfl
              have hcz35_3 : wc.cell? ⟨gb127, 3, none⟩ = some (.slice A0_3 l0_3.length c0_3) := (blk_cell BK127.out 3).trans rfl
              have hfz35_0 := blk_frozen BK127.out 0
              have hfz35_1 := blk_frozen BK127.out 1
              have hfz35_2 := blk_frozen BK127.out 2
              have hfz35_3 := blk_frozen BK127.out 3
              go_wp2
              go_roundg kj7
              case measure => have := HK1.out; have := HJ7.out; omega
              case rel => exact ⟨(x11_1), (wrap64 (x12_1 + 1)), (by first | rfl | (simp; done) | (simp [*]; done)), H', ⟨by have := HK1.out; have := HJ7.out; omega⟩, ⟨by (with_reducible repeat (first | apply Kd.R_alloc | apply Kd.R_drewN | apply Kd.R_drew)); exact HO_11.out⟩, ⟨by (with_reducible repeat (first | refine blk_drewN ?_ _ | refine blk_drew ?_ | refine blk_alloc ?_ _)); exact BK127.out⟩, ⟨by repeat (first | (with_reducible first | exact HB.out | apply below_alloc | apply pw_below_drewN | apply below_drew1 | refine below_set ?_ GE127.out) | exact HB.out)⟩⟩
      · rw [if_neg c7] at H
        have c7b0 : decide (x12_1 < (l2.length : Int)) = false := decide_eq_false c7
        clear c7
        obtain rfl := Option.some.inj H
        go_wp2
        go_ret
        exact ⟨_, by first | rfl | (simp [errW_none, errW_some] <;> rfl) | (simp [*, errW_none, errW_some] <;> rfl), by (with_reducible repeat (first | apply Kd.R_alloc | apply Kd.R_drewN | apply Kd.R_drew)); exact HO_11.out, by repeat (first | (with_reducible first | exact HB.out | apply below_alloc | apply pw_below_drewN | apply below_drew1 | refine below_set ?_ GE127.out) | exact HB.out)⟩


end Go.Proofs.YtkgfpagfmdefgaaDoor.ORelayPlays
