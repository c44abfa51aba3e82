/- What Go functions that the law TopoRight uses come to, and why: part 7. Made out of the kit's print by a program of this session (wip/tools/stub.py, splice.py), functions that it does not take told by hand. -/
import Derived.Scope
import Derived.Test.YtkgfpagfmdefgaaOTopoRightx6
namespace Go.Proofs.Ytkgfpagfmdefgaa.OTopoRight
open Go.RowKit Go.Proofs.YtkgfpagfmdefgaaW.PrintWords Go.Proofs.YtkgfpagfmdefgaaW.PrintLast Go.Proofs.YtkgfpagfmdefgaaW.PrintMore
attribute [local go_sem] max2_int min2_int max_two min_two max_three min_three max_four min_four   -- for this text's walks alone
set_option linter.unusedVariables false
set_option linter.unusedSimpArgs false

/-! ### topo_Parts: function 11 -/
mutual
def topo_Parts.l0 : Nat → List (List Bool) → List Int → Int → Int → Int → List (S48) → List (List Int) → List (S59) → Option (List Int)
  | 0, _, _, _, _, _, _, _, _ => none
  | k + 1, x1, x5, x19, x20, x138000, x138001, x138002, x138003 => if x20 < x19 then (if 0 ≤ x20 then (if x20 < (x5.length : Int) then (topo_Parts.l0 k x1 (x5.set (x20 : Int).toNat x20) x19 (wrap64 (x20 + 1)) x138000 x138001 x138002 x138003) else (none)) else (none)) else (topo_Parts.l1 k x1 x5 x138000 x138001 x138002 x138003)
def topo_Parts.l1 : Nat → List (List Bool) → List Int → Int → List (S48) → List (List Int) → List (S59) → Option (List Int)
  | 0, _, _, _, _, _, _ => none
  | k + 1, x1, x5, x138000, x138001, x138002, x138003 => topo_Parts.l2 k x1 x5 x138002 (x138002.length : Int) 0 x138000 x138001 x138002 x138003
def topo_Parts.l2 : Nat → List (List Bool) → List Int → List (List Int) → Int → Int → Int → List (S48) → List (List Int) → List (S59) → Option (List Int)
  | 0, _, _, _, _, _, _, _, _, _ => none
  | k + 1, x1, x5, x29, x30, x31, x138000, x138001, x138002, x138003 => if x31 < x30 then (if 0 ≤ x31 then (if x31 < (x29.length : Int) then (topo_Parts.l3 k x1 x5 x31 (rd_L9 x29 x31) (-1) x29 x30 x31 (rd_L9 x29 x31) ((rd_L9 x29 x31).length : Int) 0 x138000 x138001 x138002 x138003) else (none)) else (none)) else (some x5)
def topo_Parts.l3 : Nat → List (List Bool) → List Int → Int → List Int → Int → List (List Int) → Int → Int → List Int → Int → Int → Int → List (S48) → List (List Int) → List (S59) → Option (List Int)
  | 0, _, _, _, _, _, _, _, _, _, _, _, _, _, _, _ => none
  | k + 1, x1, x5, x7, x8, x9, x29, x30, x31, x36, x37, x38, x138000, x138001, x138002, x138003 => if x38 < x37 then (if 0 ≤ x38 then (if x38 < (x36.length : Int) then ((topo_is.f x1 x7 x38).bind fun t144 => (if t144 = true then (if (rd x36 x38) ≥ 0 then (if (rd x36 x38) < (x5.length : Int) then (if x9 < 0 then (if 0 ≤ (rd x36 x38) then (topo_Parts.l3 k x1 x5 x7 x8 (rd x5 (rd x36 x38)) x29 x30 x31 x36 x37 (wrap64 (x38 + 1)) x138000 x138001 x138002 x138003) else (none)) else (if 0 ≤ (rd x36 x38) then (if (rd x5 (rd x36 x38)) < x9 then (topo_Parts.l3 k x1 x5 x7 x8 (rd x5 (rd x36 x38)) x29 x30 x31 x36 x37 (wrap64 (x38 + 1)) x138000 x138001 x138002 x138003) else (topo_Parts.l3 k x1 x5 x7 x8 x9 x29 x30 x31 x36 x37 (wrap64 (x38 + 1)) x138000 x138001 x138002 x138003)) else (none))) else (topo_Parts.l3 k x1 x5 x7 x8 x9 x29 x30 x31 x36 x37 (wrap64 (x38 + 1)) x138000 x138001 x138002 x138003)) else (topo_Parts.l3 k x1 x5 x7 x8 x9 x29 x30 x31 x36 x37 (wrap64 (x38 + 1)) x138000 x138001 x138002 x138003)) else (topo_Parts.l3 k x1 x5 x7 x8 x9 x29 x30 x31 x36 x37 (wrap64 (x38 + 1)) x138000 x138001 x138002 x138003))) else (none)) else (none)) else (topo_Parts.l4 k x1 x5 x7 x9 x29 x30 x31 x8 (x8.length : Int) 0 x138000 x138001 x138002 x138003)
def topo_Parts.l4 : Nat → List (List Bool) → List Int → Int → Int → List (List Int) → Int → Int → List Int → Int → Int → Int → List (S48) → List (List Int) → List (S59) → Option (List Int)
  | 0, _, _, _, _, _, _, _, _, _, _, _, _, _, _ => none
  | k + 1, x1, x5, x7, x9, x29, x30, x31, x74, x75, x76, x138000, x138001, x138002, x138003 => if x76 < x75 then (if 0 ≤ x76 then (if x76 < (x74.length : Int) then ((topo_is.f x1 x7 x76).bind fun t149 => (if t149 = true then (if (rd x74 x76) ≥ 0 then (if (rd x74 x76) < (x5.length : Int) then (if 0 ≤ (rd x74 x76) then (if (rd x5 (rd x74 x76)) > x9 then (topo_Parts.l1 k x1 (x5.set ((rd x74 x76) : Int).toNat x9) x138000 x138001 x138002 x138003) else (topo_Parts.l4 k x1 x5 x7 x9 x29 x30 x31 x74 x75 (wrap64 (x76 + 1)) x138000 x138001 x138002 x138003)) else (none)) else (topo_Parts.l4 k x1 x5 x7 x9 x29 x30 x31 x74 x75 (wrap64 (x76 + 1)) x138000 x138001 x138002 x138003)) else (topo_Parts.l4 k x1 x5 x7 x9 x29 x30 x31 x74 x75 (wrap64 (x76 + 1)) x138000 x138001 x138002 x138003)) else (topo_Parts.l4 k x1 x5 x7 x9 x29 x30 x31 x74 x75 (wrap64 (x76 + 1)) x138000 x138001 x138002 x138003))) else (none)) else (none)) else (topo_Parts.l2 k x1 x5 x29 x30 (wrap64 (x31 + 1)) x138000 x138001 x138002 x138003)
end
def topo_Parts.f (k : Nat) (a0_0 : Int) (l0_1 : List (S48)) (l0_2 : List (List Int)) (l0_3 : List (S59)) (l1 : List (List Bool)) : Option (List Int) := if 0 ≤ (mx a0_0 0) then (if (mx a0_0 0 : Int).toNat ≤ 35184372088832 then ((some (List.replicate (mx a0_0 0 : Int).toNat 0 : List Int)).bind fun y138 => (topo_Parts.l0 k l1 y138 (y138.length : Int) 0 a0_0 l0_1 l0_2 l0_3)) else (none)) else (none)
theorem topo_Parts.mono_l : ∀ k, (∀ y0 y1 y2 y3 y4 y5 y6 y7, LeO (topo_Parts.l0 k y0 y1 y2 y3 y4 y5 y6 y7) (topo_Parts.l0 (k + 1) y0 y1 y2 y3 y4 y5 y6 y7)) ∧ (∀ y0 y1 y2 y3 y4 y5, LeO (topo_Parts.l1 k y0 y1 y2 y3 y4 y5) (topo_Parts.l1 (k + 1) y0 y1 y2 y3 y4 y5)) ∧ (∀ y0 y1 y2 y3 y4 y5 y6 y7 y8, LeO (topo_Parts.l2 k y0 y1 y2 y3 y4 y5 y6 y7 y8) (topo_Parts.l2 (k + 1) y0 y1 y2 y3 y4 y5 y6 y7 y8)) ∧ (∀ y0 y1 y2 y3 y4 y5 y6 y7 y8 y9 y10 y11 y12 y13 y14, LeO (topo_Parts.l3 k y0 y1 y2 y3 y4 y5 y6 y7 y8 y9 y10 y11 y12 y13 y14) (topo_Parts.l3 (k + 1) y0 y1 y2 y3 y4 y5 y6 y7 y8 y9 y10 y11 y12 y13 y14)) ∧ (∀ y0 y1 y2 y3 y4 y5 y6 y7 y8 y9 y10 y11 y12 y13, LeO (topo_Parts.l4 k y0 y1 y2 y3 y4 y5 y6 y7 y8 y9 y10 y11 y12 y13) (topo_Parts.l4 (k + 1) y0 y1 y2 y3 y4 y5 y6 y7 y8 y9 y10 y11 y12 y13))
  | 0 => ⟨fun _ _ _ _ _ _ _ _ r h => by simp [topo_Parts.l0] at h, fun _ _ _ _ _ _ r h => by simp [topo_Parts.l1] at h, fun _ _ _ _ _ _ _ _ _ r h => by simp [topo_Parts.l2] at h, fun _ _ _ _ _ _ _ _ _ _ _ _ _ _ _ r h => by simp [topo_Parts.l3] at h, fun _ _ _ _ _ _ _ _ _ _ _ _ _ _ r h => by simp [topo_Parts.l4] at h⟩
  | k + 1 => by
    obtain ⟨ih0, ih1, ih2, ih3, ih4⟩ := topo_Parts.mono_l k
    refine ⟨?_, ?_, ?_, ?_, ?_⟩
    · intro y0 y1 y2 y3 y4 y5 y6 y7
      unfold topo_Parts.l0
      repeat' first
      | (with_reducible exact ih0 _ _ _ _ _ _ _ _)
      | (with_reducible exact ih1 _ _ _ _ _ _)
      | (with_reducible exact ih2 _ _ _ _ _ _ _ _ _)
      | (with_reducible exact ih3 _ _ _ _ _ _ _ _ _ _ _ _ _ _ _)
      | (with_reducible exact ih4 _ _ _ _ _ _ _ _ _ _ _ _ _ _)
      | (with_reducible exact LeO.refl _)
      | (with_reducible exact LeO.none _)
      | (with_reducible refine LeO.ite ?_ ?_)
      | (with_reducible refine LeO.bind ?_ (fun _ => ?_))
      | exact ih0 _ _ _ _ _ _ _ _
      | exact ih1 _ _ _ _ _ _
      | exact ih2 _ _ _ _ _ _ _ _ _
      | exact ih3 _ _ _ _ _ _ _ _ _ _ _ _ _ _ _
      | exact ih4 _ _ _ _ _ _ _ _ _ _ _ _ _ _
      | exact LeO.none _
      | refine LeO.ite ?_ ?_
      | refine LeO.bind ?_ (fun _ => ?_)
    · intro y0 y1 y2 y3 y4 y5
      unfold topo_Parts.l1
      repeat' first
      | (with_reducible exact ih0 _ _ _ _ _ _ _ _)
      | (with_reducible exact ih1 _ _ _ _ _ _)
      | (with_reducible exact ih2 _ _ _ _ _ _ _ _ _)
      | (with_reducible exact ih3 _ _ _ _ _ _ _ _ _ _ _ _ _ _ _)
      | (with_reducible exact ih4 _ _ _ _ _ _ _ _ _ _ _ _ _ _)
      | (with_reducible exact LeO.refl _)
      | (with_reducible exact LeO.none _)
      | (with_reducible refine LeO.ite ?_ ?_)
      | (with_reducible refine LeO.bind ?_ (fun _ => ?_))
      | exact ih0 _ _ _ _ _ _ _ _
      | exact ih1 _ _ _ _ _ _
      | exact ih2 _ _ _ _ _ _ _ _ _
      | exact ih3 _ _ _ _ _ _ _ _ _ _ _ _ _ _ _
      | exact ih4 _ _ _ _ _ _ _ _ _ _ _ _ _ _
      | exact LeO.none _
      | refine LeO.ite ?_ ?_
      | refine LeO.bind ?_ (fun _ => ?_)
    · intro y0 y1 y2 y3 y4 y5 y6 y7 y8
      unfold topo_Parts.l2
      repeat' first
      | (with_reducible exact ih0 _ _ _ _ _ _ _ _)
      | (with_reducible exact ih1 _ _ _ _ _ _)
      | (with_reducible exact ih2 _ _ _ _ _ _ _ _ _)
      | (with_reducible exact ih3 _ _ _ _ _ _ _ _ _ _ _ _ _ _ _)
      | (with_reducible exact ih4 _ _ _ _ _ _ _ _ _ _ _ _ _ _)
      | (with_reducible exact LeO.refl _)
      | (with_reducible exact LeO.none _)
      | (with_reducible refine LeO.ite ?_ ?_)
      | (with_reducible refine LeO.bind ?_ (fun _ => ?_))
      | exact ih0 _ _ _ _ _ _ _ _
      | exact ih1 _ _ _ _ _ _
      | exact ih2 _ _ _ _ _ _ _ _ _
      | exact ih3 _ _ _ _ _ _ _ _ _ _ _ _ _ _ _
      | exact ih4 _ _ _ _ _ _ _ _ _ _ _ _ _ _
      | exact LeO.none _
      | refine LeO.ite ?_ ?_
      | refine LeO.bind ?_ (fun _ => ?_)
    · intro y0 y1 y2 y3 y4 y5 y6 y7 y8 y9 y10 y11 y12 y13 y14
      unfold topo_Parts.l3
      repeat' first
      | (with_reducible exact ih0 _ _ _ _ _ _ _ _)
      | (with_reducible exact ih1 _ _ _ _ _ _)
      | (with_reducible exact ih2 _ _ _ _ _ _ _ _ _)
      | (with_reducible exact ih3 _ _ _ _ _ _ _ _ _ _ _ _ _ _ _)
      | (with_reducible exact ih4 _ _ _ _ _ _ _ _ _ _ _ _ _ _)
      | (with_reducible exact LeO.refl _)
      | (with_reducible exact LeO.none _)
      | (with_reducible refine LeO.ite ?_ ?_)
      | (with_reducible refine LeO.bind ?_ (fun _ => ?_))
      | exact ih0 _ _ _ _ _ _ _ _
      | exact ih1 _ _ _ _ _ _
      | exact ih2 _ _ _ _ _ _ _ _ _
      | exact ih3 _ _ _ _ _ _ _ _ _ _ _ _ _ _ _
      | exact ih4 _ _ _ _ _ _ _ _ _ _ _ _ _ _
      | exact LeO.none _
      | refine LeO.ite ?_ ?_
      | refine LeO.bind ?_ (fun _ => ?_)
    · intro y0 y1 y2 y3 y4 y5 y6 y7 y8 y9 y10 y11 y12 y13
      unfold topo_Parts.l4
      repeat' first
      | (with_reducible exact ih0 _ _ _ _ _ _ _ _)
      | (with_reducible exact ih1 _ _ _ _ _ _)
      | (with_reducible exact ih2 _ _ _ _ _ _ _ _ _)
      | (with_reducible exact ih3 _ _ _ _ _ _ _ _ _ _ _ _ _ _ _)
      | (with_reducible exact ih4 _ _ _ _ _ _ _ _ _ _ _ _ _ _)
      | (with_reducible exact LeO.refl _)
      | (with_reducible exact LeO.none _)
      | (with_reducible refine LeO.ite ?_ ?_)
      | (with_reducible refine LeO.bind ?_ (fun _ => ?_))
      | exact ih0 _ _ _ _ _ _ _ _
      | exact ih1 _ _ _ _ _ _
      | exact ih2 _ _ _ _ _ _ _ _ _
      | exact ih3 _ _ _ _ _ _ _ _ _ _ _ _ _ _ _
      | exact ih4 _ _ _ _ _ _ _ _ _ _ _ _ _ _
      | exact LeO.none _
      | refine LeO.ite ?_ ?_
      | refine LeO.bind ?_ (fun _ => ?_)
theorem topo_Parts.mono : ∀ a0 a1 a2 a3 a4 k, LeO (topo_Parts.f k a0 a1 a2 a3 a4) (topo_Parts.f (k + 1) a0 a1 a2 a3 a4) := by
  intro a0 a1 a2 a3 a4 k
  obtain ⟨ih0, ih1, ih2, ih3, ih4⟩ := topo_Parts.mono_l k
  unfold topo_Parts.f
  repeat' first
      | (with_reducible exact ih0 _ _ _ _ _ _ _ _)
      | (with_reducible exact ih1 _ _ _ _ _ _)
      | (with_reducible exact ih2 _ _ _ _ _ _ _ _ _)
      | (with_reducible exact ih3 _ _ _ _ _ _ _ _ _ _ _ _ _ _ _)
      | (with_reducible exact ih4 _ _ _ _ _ _ _ _ _ _ _ _ _ _)
      | (with_reducible exact LeO.refl _)
      | (with_reducible exact LeO.none _)
      | (with_reducible refine LeO.ite ?_ ?_)
      | (with_reducible refine LeO.bind ?_ (fun _ => ?_))
      | exact ih0 _ _ _ _ _ _ _ _
      | exact ih1 _ _ _ _ _ _
      | exact ih2 _ _ _ _ _ _ _ _ _
      | exact ih3 _ _ _ _ _ _ _ _ _ _ _ _ _ _ _
      | exact ih4 _ _ _ _ _ _ _ _ _ _ _ _ _ _
      | exact LeO.none _
      | refine LeO.ite ?_ ?_
      | refine LeO.bind ?_ (fun _ => ?_)
set_option maxHeartbeats 8000000 in
set_option maxRecDepth 100000 in
theorem topo_Parts.calls (k : Nat) (a0_0 : Int) (A0_1 : Option Addr) (c0_1 : Nat) (l0_1 : List (S48)) (A0_2 : Option Addr) (c0_2 : Nat) (l0_2 : List (List Int)) (A0_3 : Option Addr) (c0_3 : Nat) (l0_3 : List (S59)) (A1 : Option Addr) (c1 : Nat) (l1 : List (List Bool)) (r : List Int) (w : World) (hr0_1 : Kd.C k48 w A0_1 l0_1.length l0_1) (hc0_1 : l0_1.length ≤ c0_1) (hr0_2 : Kd.C (Kd.slice 3 (Kd.int .i64)) w A0_2 l0_2.length l0_2) (hc0_2 : l0_2.length ≤ c0_2) (hr0_3 : Kd.C k59 w A0_3 l0_3.length l0_3) (hc0_3 : l0_3.length ≤ c0_3) (hr1 : Kd.C (Kd.slice 4 Kd.bool) w A1 l1.length l1) (hc1 : l1.length ≤ c1) (h : topo_Parts.f k a0_0 l0_1 l0_2 l0_3 l1 = some r) :
  Calls Try.prog 11 #[.agg #[.int .i64 a0_0, .slice A0_1 l0_1.length c0_1, .slice A0_2 l0_2.length c0_2, .slice A0_3 l0_3.length c0_3], .slice A1 l1.length c1] w fun e w' => ∃ v0_ : Value, e = .returned (v0_) ∧ Kd.R (Kd.int .i64) 3 w' w.heap.size (fun _ => True) v0_ r ∧ Below w.heap.size w w' := by
 have hu26 := Try.underlying26
 have HR0_1 := Aside0.mk hr0_1
 have HC0_1 := Aside0.mk hc0_1
 clear hr0_1 hc0_1
 have HR0_2 := Aside0.mk hr0_2
 have HC0_2 := Aside0.mk hc0_2
 clear hr0_2 hc0_2
 have HR0_3 := Aside0.mk hr0_3
 have HC0_3 := Aside0.mk hc0_3
 clear hr0_3 hc0_3
 have HR1 := Aside0.mk hr1
 have HC1 := Aside0.mk hc1
 clear hr1 hc1
 have HB := Aside0.mk (Below.refl w.heap.size w)
 have H : (if 0 ≤ (mx a0_0 0) then (if (mx a0_0 0 : Int).toNat ≤ 35184372088832 then ((some (List.replicate (mx a0_0 0 : Int).toNat 0 : List Int)).bind fun y138 => (topo_Parts.l0 k l1 y138 (y138.length : Int) 0 a0_0 l0_1 l0_2 l0_3)) else (none)) else (none)) = some r := h
 clear h
 obtain ⟨ji3, hji3⟩ : ∃ j_ : Int, (mx a0_0 0) = j_ := ⟨_, rfl⟩
 replace H : (if 0 ≤ (ji3) then (if (ji3 : Int).toNat ≤ 35184372088832 then ((some (List.replicate (ji3 : Int).toNat 0 : List Int)).bind fun y138 => (topo_Parts.l0 k l1 y138 (y138.length : Int) 0 a0_0 l0_1 l0_2 l0_3)) else (none)) else (none)) = some r := by first | (rw [hji3] at H; exact H) | (simp only [hji3] at H ⊢; exact H)
 (try (have hji3l : 0 ≤ ji3 := by (rw [← hji3]; unfold mx; (repeat' split) <;> omega)))
 (try (have hji3m : 0 ≤ ji3 := by omega))
 have hji3_ : (if a0_0 < 0 then 0 else a0_0) = ji3 := hji3
 by_cases c4 : 0 ≤ (ji3)
 rotate_left
 ·rw [if_neg c4] at H
  exact absurd H (by simp)
 rw [if_pos c4] at H
 have c4b0 := eq_true c4
 have c4b1 : decide (0 ≤ (ji3)) = true := decide_eq_true c4
 clear c4
 by_cases c5 : (ji3 : Int).toNat ≤ 35184372088832
 rotate_left
 ·rw [if_neg c5] at H
  exact absurd H (by simp)
 rw [if_pos c5] at H
 have c5b0 := eq_true c5
 have c5b1 : decide ((ji3 : Int).toNat ≤ 35184372088832) = true := decide_eq_true c5
 clear c5
 obtain ⟨y138, hy138⟩ : ∃ y_ : List Int, y_ = (List.replicate (ji3 : Int).toNat 0) := ⟨_, rfl⟩
 replace H : (topo_Parts.l0 k l1 y138 (y138.length : Int) 0 a0_0 l0_1 l0_2 l0_3) = some r := by first | (rw [hy138]; with_reducible exact H) | (have H2_ := (Option.bind_some _ _).symm.trans H; rw [hy138]; with_reducible exact H2_) | (have H2_ := (Option.bind_some _ _).symm.trans H; with_reducible exact H2_) | with_reducible exact H | (rw [hy138]; exact H) | exact H
 have Ny138 := Aside0.mk hy138
 clear hy138
 have H' := Aside0.mk H
 clear H
 go_enter Try.func11, Try.ntmps11
 go_wp2_with (first | (with_reducible refine wp_label ?_) | (with_reducible refine wp_scope_straight ?_) | ((with_reducible refine gate_dst (N := 2) rfl ?_); (try (refine gate_guard (by rfl) ?_; dsimp only)); refine box_event ?hg (N := 2) ?hd (cs := #[.int .i64 a0_0, .slice A0_1 l0_1.length c0_1, .slice A0_2 l0_2.length c0_2, .slice A0_3 l0_3.length c0_3]) (t := 26) ?hr ?_; (case hd => rfl); (case hg => rfl); (case hr => first | (go_simp; done) | (go_simp; rfl)); intro gb137 hg w6 hbox hb; have n0_ := Aside0.mk (below_step (by repeat (first | (with_reducible first | exact HB.out | apply below_alloc | apply pw_below_drewN | apply below_drew1) | exact HB.out)) hb); have n1_ := Aside0.mk (hbox); have n2_ := Aside0.mk ((by rw [hg]; exact (below_size (by repeat (first | (with_reducible first | exact HB.out | apply below_alloc | apply pw_below_drewN | apply below_drew1) | exact HB.out))) : w.heap.size ≤ gb137)); have n3_ := Aside0.mk ((by rw [hg]; exact (below_size (by repeat (first | (with_reducible first | exact HB.out | apply below_alloc | apply pw_below_drewN | apply below_drew1) | exact HB.out))) : w.heap.size ≤ gb137)); clear HB; have HB := n0_; have BK137 := n1_; have GW137 := n2_; have GE137 := n3_; clear n0_ n1_ n2_ n3_; clear hb hbox hg; have hcz7_0 : w6.cell? ⟨gb137, 0, none⟩ = some (.int .i64 a0_0) := (blk_cell BK137.out 0).trans rfl; have hcz7_1 : w6.cell? ⟨gb137, 1, none⟩ = some (.slice A0_1 l0_1.length c0_1) := (blk_cell BK137.out 1).trans rfl; have hcz7_2 : w6.cell? ⟨gb137, 2, none⟩ = some (.slice A0_2 l0_2.length c0_2) := (blk_cell BK137.out 2).trans rfl; have hcz7_3 : w6.cell? ⟨gb137, 3, none⟩ = some (.slice A0_3 l0_3.length c0_3) := (blk_cell BK137.out 3).trans rfl; have hfz7_0 := blk_frozen BK137.out 0; have hfz7_1 := blk_frozen BK137.out 1; have hfz7_2 := blk_frozen BK137.out 2; have hfz7_3 := blk_frozen BK137.out 3) | ((with_reducible refine gate_dst (N := 17) rfl ?_); (try (refine gate_guard (by rfl) ?_; dsimp only)); refine Kd.R_make (Kd.int .i64) _ 3 rfl (N := 17) rfl 33 _ _ rfl ji3 rfl rfl Try.underlying33 (.int .i64 0) 8 info3 rfl (by decide) (by omega) 0 (ok := fun _ => True) (okp := fun _ => True) rfl (fun _ hk => hk) trivial (of_decide_eq_true (by first | (with_reducible assumption) | assumption)) (Nat.le_trans (Nat.mul_le_mul_right _ (of_decide_eq_true (by first | (with_reducible assumption) | assumption) : ji3.toNat ≤ 35184372088832)) (by omega)) (Below.refl _ _) (Nat.le_refl _) ?_; intro v139 w8 ho9 hb hg_ hnew_; clear hg_ hnew_; (first | rw [← Ny138.out] at ho9 | (simp only [Int.reduceToNat] at ho9; rw [← Ny138.out] at ho9)); have n0_ := Aside0.mk (Kd.R_lower ho9 (below_size (by repeat (first | (with_reducible first | exact HB.out | apply below_alloc | apply pw_below_drewN | apply below_drew1 | refine below_set ?_ GE137.out) | exact HB.out)))); have n1_ := Aside0.mk (blk_below (g := gb137) (o := .cells #[.int .i64 a0_0, .slice A0_1 l0_1.length c0_1, .slice A0_2 l0_2.length c0_2, .slice A0_3 l0_3.length c0_3] 26 (0, 0)) (by (with_reducible repeat (first | refine blk_drewN ?_ _ | refine blk_drew ?_ | refine blk_alloc ?_ _)); exact BK137.out) hb); have n2_ := Aside0.mk (below_step (by repeat (first | (with_reducible first | exact HB.out | apply below_alloc | apply pw_below_drewN | apply below_drew1 | refine below_set ?_ GE137.out) | exact HB.out)) hb); clear BK137; clear HB; have HO140 := n0_; have BK137 := n1_; have HB := n2_; clear n0_ n1_ n2_; clear hb ho9; obtain ⟨Ao10, co10, eo10⟩ := Kd.R_slice HO140.out; subst eo10))
 go_loopg [20] k (fun kq v20 w' => ∃ (x5_1 : List Int) (x20_1 : Int), v20 = .int .i64 x20_1 ∧ Aside0 (topo_Parts.l0 kq l1 x5_1 (y138.length : Int) x20_1 a0_0 l0_1 l0_2 l0_3 = some r) ∧ Aside0 (kq ≤ k) ∧ Aside0 (Kd.R (Kd.int .i64) 3 w' w.heap.size (fun _ => True) (.slice Ao10 y138.length co10) x5_1) ∧ Aside0 (w'.heap[gb137]? = some (.cells #[.int .i64 a0_0, (.slice A0_1 l0_1.length c0_1), (.slice A0_2 l0_2.length c0_2), (.slice A0_3 l0_3.length c0_3)] 26 (0, 0))) ∧ Aside0 (Below w.heap.size w w'))
 case atStart => exact ⟨(y138), (0), (by first | rfl | (simp; done) | (simp [*]; done)), H', ⟨Nat.le_refl _⟩, ⟨by (with_reducible repeat (first | apply Kd.R_alloc | apply Kd.R_drewN | apply Kd.R_drew)); exact HO140.out⟩, ⟨by (with_reducible repeat (first | refine blk_drewN ?_ _ | refine blk_drew ?_ | refine blk_alloc ?_ _)); exact BK137.out⟩, ⟨by repeat (first | (with_reducible first | exact HB.out | apply below_alloc | apply pw_below_drewN | apply below_drew1 | refine below_set ?_ GE137.out) | exact HB.out)⟩⟩
 clear H'
 try clear c1
 try clear p2
 try clear c4
 try clear c4b0
 try clear c4b1
 try clear c5
 try clear c5b0
 try clear c5b1
 try clear hcz7_0
 try clear hcz7_1
 try clear hcz7_2
 try clear hcz7_3
 try clear hfz7_0
 try clear hfz7_1
 try clear hfz7_2
 try clear hfz7_3
 obtain ⟨x5_1, x20_1, rfl, HA, HK1, HO_5, BK137, HB⟩ := hrel
 have hl5_1 := (Kd.R_reads' HO_5.out).1
 rw [hl5_1] at HO_5
 (try simp only [hl5_1])
 (try simp only [hl5_1] at BK137)
 cases gk with
 | zero => exact absurd HA.out (by simp [topo_Parts.l0])
 | succ k1 => ?_
 have H := HA.out
 clear HA
 simp only [topo_Parts.l0] at H
 by_cases c11 : x20_1 < (y138.length : Int)
 ·rw [if_pos c11] at H
  have c11b0 : decide (x20_1 < (y138.length : Int)) = true := decide_eq_true c11
  (try simp only [hl5_1] at c11b0)
  clear c11
  by_cases c12 : 0 ≤ x20_1
  rotate_left
  ·rw [if_neg c12] at H
   exact absurd H (by simp)
  rw [if_pos c12] at H
  have c12b0 : decide (0 ≤ x20_1) = true := decide_eq_true c12
  (try simp only [hl5_1] at c12b0)
  clear c12
  by_cases c13 : x20_1 < (x5_1.length : Int)
  rotate_left
  ·rw [if_neg c13] at H
   exact absurd H (by simp)
  rw [if_pos c13] at H
  have c13b0 : decide (x20_1 < (x5_1.length : Int)) = true := decide_eq_true c13
  (try simp only [hl5_1] at c13b0)
  clear c13
  obtain ⟨y141, hy141⟩ : ∃ y_ : List Int, y_ = (x5_1.set (x20_1 : Int).toNat x20_1) := ⟨_, rfl⟩
  replace H : (topo_Parts.l0 k1 l1 y141 (y138.length : Int) (wrap64 (x20_1 + 1)) a0_0 l0_1 l0_2 l0_3) = some r := by first | (rw [hy141]; with_reducible exact H) | (have H2_ := (Option.bind_some _ _).symm.trans H; rw [hy141]; with_reducible exact H2_) | (have H2_ := (Option.bind_some _ _).symm.trans H; with_reducible exact H2_) | with_reducible exact H | (rw [hy141]; exact H) | exact H
  have Ny141 := Aside0.mk hy141
  clear hy141
  have H' := Aside0.mk H
  clear H
  have p14 : 0 ≤ (x20_1 : Int) := of_decide_eq_true (by first | (with_reducible assumption) | assumption)
  have q14 : (x20_1 : Int) < ((x5_1.length : Int) : Int) := of_decide_eq_true (by first | (with_reducible assumption) | assumption)
  obtain ⟨go14, co14, eo14, gb14, gl14, cl14, HG14⟩ := Kd.R_form HO_5.out (by omega)
  (first | cases eo14 | (injection eo14 with ea_ en_ ec_; (first | subst ea_ | (injection ea_ with ea_; subst ea_)); subst ec_; clear en_))
  have GB14 := Aside0.mk gb14
  have GG14 := Aside0.mk HG14
  clear gb14 gl14 HG14
  obtain ⟨hx14_0, hf14_0⟩ := Kd.R_celln 0 HO_5.out (x20_1 : Int) p14 q14
  replace p14 := eq_true p14
  replace q14 := eq_true q14
  have HP15 := Kd.R_putg HO_5.out (x20_1 : Int) x20_1
  go_wp2_with (first | (with_reducible refine wp_label ?_) | (with_reducible refine wp_scope_straight ?_) | ((with_reducible refine gate_store (t := 3) (p := 26) rfl ?_); refine store_event (t := 3) (p := 26) (v := ?vo_w16) (w1 := (wr.setCell ⟨go14, (x20_1 : Int).toNat, none⟩ (.int .i64 x20_1))) ?hg ?ho ?hn ?hr ?_; (case ho => rfl); (case hg => rfl); (case hn => rfl); (case hr => first | (go_simp; done) | (go_simp; rfl)); intro w16 hw; have hg : wr.grownBy w16 (some go14) := (by rw [hw]; exact HP15.2); have hp_ : Kd.R (Kd.int .i64) 3 w16 w.heap.size (fun _ => True) (.slice (some ⟨go14, 0, none⟩) x5_1.length co10) y141 := (by rw [hw, Ny141.out]; exact HP15.1); clear HP15; have n0_ := Aside0.mk (hp_); have n1_ := Aside0.mk (blk_grown (g := gb137) (o := .cells #[.int .i64 a0_0, .slice A0_1 l0_1.length c0_1, .slice A0_2 l0_2.length c0_2, .slice A0_3 l0_3.length c0_3] 26 (0, 0)) (by (with_reducible repeat (first | refine blk_drewN ?_ _ | refine blk_drew ?_ | refine blk_alloc ?_ _)); exact BK137.out) hg (Kd.R_ne HO_5.out BK137.out (by decide))); have n2_ := Aside0.mk ((by rw [hw]; exact below_set (HB.out) GB14.out : Below w.heap.size w w16)); clear HO_5; clear BK137; clear HB; have HO_5 := n0_; have BK137 := n1_; have HB := n2_; clear n0_ n1_ n2_; clear hg hw hp_))
  (try simp only [← hl5_1])
  go_roundg k1
  case measure => have := HK1.out; omega
  case rel => exact ⟨(y141), (wrap64 (x20_1 + 1)), (by first | rfl | (simp; done) | (simp [*]; done)), H', ⟨by have := HK1.out; omega⟩, ⟨by (try simp only [hl5_1]); (with_reducible repeat (first | apply Kd.R_alloc | apply Kd.R_drewN | apply Kd.R_drew)); exact HO_5.out⟩, ⟨by (try simp only [hl5_1]); (with_reducible repeat (first | refine blk_drewN ?_ _ | refine blk_drew ?_ | refine blk_alloc ?_ _)); exact BK137.out⟩, ⟨by repeat (first | (with_reducible first | exact HB.out | apply below_alloc | apply pw_below_drewN | apply below_drew1 | refine below_set ?_ GE137.out) | exact HB.out)⟩⟩
 rw [if_neg c11] at H
 have c11b0 : decide (x20_1 < (y138.length : Int)) = false := decide_eq_false c11
 (try simp only [hl5_1] at c11b0)
 clear c11
 have H' := Aside0.mk H
 clear H
 go_wp2_with (first | (with_reducible refine wp_label ?_) | (with_reducible refine wp_scope_straight ?_))
 go_loopg [] k1 (fun kq w' => ∃ (x5_2 : List Int), Aside0 (topo_Parts.l1 kq l1 x5_2 a0_0 l0_1 l0_2 l0_3 = some r) ∧ Aside0 (kq ≤ k1) ∧ Aside0 (Kd.R (Kd.int .i64) 3 w' w.heap.size (fun _ => True) (.slice Ao10 x5_1.length co10) x5_2) ∧ Aside0 (w'.heap[gb137]? = some (.cells #[.int .i64 a0_0, (.slice A0_1 l0_1.length c0_1), (.slice A0_2 l0_2.length c0_2), (.slice A0_3 l0_3.length c0_3)] 26 (0, 0))) ∧ Aside0 (Below w.heap.size w w'))
 case atStart => exact ⟨(x5_1), H', ⟨Nat.le_refl _⟩, ⟨by (try simp only [hl5_1]); (with_reducible repeat (first | apply Kd.R_alloc | apply Kd.R_drewN | apply Kd.R_drew)); exact HO_5.out⟩, ⟨by (try simp only [hl5_1]); (with_reducible repeat (first | refine blk_drewN ?_ _ | refine blk_drew ?_ | refine blk_alloc ?_ _)); exact BK137.out⟩, ⟨by repeat (first | (with_reducible first | exact HB.out | apply below_alloc | apply pw_below_drewN | apply below_drew1 | refine below_set ?_ GE137.out) | exact HB.out)⟩⟩
 clear H'
 try clear c1
 try clear p1
 try clear q1
 try clear hx1
 try clear p2
 try clear c4
 try clear c4b0
 try clear c4b1
 try clear c5
 try clear c5b0
 try clear c5b1
 try clear p6
 try clear c11
 try clear c11b0
 try clear c12
 try clear c12b0
 try clear c13
 try clear c13b0
 try clear p14
 try clear q14
 try clear hx14
 try clear hf14
 try clear hcz7_0
 try clear hcz7_1
 try clear hcz7_2
 try clear hcz7_3
 try clear hfz7_0
 try clear hfz7_1
 try clear hfz7_2
 try clear hfz7_3
 try clear hx14_0
 try clear p14
 try clear p2
 try clear q14
 obtain ⟨x5_2, HA, HK2, HO_5, BK137, HB⟩ := hrel
 have hl5_2 := (Kd.R_reads' HO_5.out).1
 rw [hl5_2] at HO_5
 (try simp only [hl5_2])
 (try simp only [hl5_2] at BK137)
 cases gk with
 | zero => exact absurd HA.out (by simp [topo_Parts.l1])
 | succ k2 => ?_
 have H := HA.out
 clear HA
 simp only [topo_Parts.l1] at H
 have H' := Aside0.mk H
 clear H
 have hcz17_0 : wr.cell? ⟨gb137, 0, none⟩ = some (.int .i64 a0_0) := (blk_cell BK137.out 0).trans rfl
 have hcz17_1 : wr.cell? ⟨gb137, 1, none⟩ = some (.slice A0_1 l0_1.length c0_1) := (blk_cell BK137.out 1).trans rfl
 have hcz17_2 : wr.cell? ⟨gb137, 2, none⟩ = some (.slice A0_2 l0_2.length c0_2) := (blk_cell BK137.out 2).trans rfl
 have hcz17_3 : wr.cell? ⟨gb137, 3, none⟩ = some (.slice A0_3 l0_3.length c0_3) := (blk_cell BK137.out 3).trans rfl
 have hfz17_0 := blk_frozen BK137.out 0
 have hfz17_1 := blk_frozen BK137.out 1
 have hfz17_2 := blk_frozen BK137.out 2
 have hfz17_3 := blk_frozen BK137.out 3
 go_wp2_with (first | (with_reducible refine wp_label ?_) | (with_reducible refine wp_scope_straight ?_))
 go_loopg [31] k2 (fun kq v31 w' => ∃ (x5_3 : List Int) (x31_3 : Int), v31 = .int .i64 x31_3 ∧ Aside0 (topo_Parts.l2 kq l1 x5_3 l0_2 (l0_2.length : Int) x31_3 a0_0 l0_1 l0_2 l0_3 = some r) ∧ Aside0 (kq ≤ k2) ∧ Aside0 (Kd.R (Kd.int .i64) 3 w' w.heap.size (fun _ => True) (.slice Ao10 x5_2.length co10) x5_3) ∧ Aside0 (w'.heap[gb137]? = some (.cells #[.int .i64 a0_0, (.slice A0_1 l0_1.length c0_1), (.slice A0_2 l0_2.length c0_2), (.slice A0_3 l0_3.length c0_3)] 26 (0, 0))) ∧ Aside0 (Below w.heap.size w w'))
 case atStart => exact ⟨(x5_2), (0), (by first | rfl | (simp; done) | (simp [*]; done)), H', ⟨Nat.le_refl _⟩, ⟨by (try simp only [hl5_1]); (try simp only [hl5_2]); (with_reducible repeat (first | apply Kd.R_alloc | apply Kd.R_drewN | apply Kd.R_drew)); exact HO_5.out⟩, ⟨by (try simp only [hl5_1]); (try simp only [hl5_2]); (with_reducible repeat (first | refine blk_drewN ?_ _ | refine blk_drew ?_ | refine blk_alloc ?_ _)); exact BK137.out⟩, ⟨by repeat (first | (with_reducible first | exact HB.out | apply below_alloc | apply pw_below_drewN | apply below_drew1 | refine below_set ?_ GE137.out) | exact HB.out)⟩⟩
 clear H'
 try clear c1
 try clear p1
 try clear q1
 try clear hx1
 try clear p2
 try clear c4
 try clear c4b0
 try clear c4b1
 try clear c5
 try clear c5b0
 try clear c5b1
 try clear p6
 try clear c11
 try clear c11b0
 try clear c12
 try clear c12b0
 try clear c13
 try clear c13b0
 try clear p14
 try clear q14
 try clear hx14
 try clear hf14
 try clear hcz17_0
 try clear hcz17_1
 try clear hcz17_2
 try clear hcz17_3
 try clear hcz7_0
 try clear hcz7_1
 try clear hcz7_2
 try clear hcz7_3
 try clear hfz17_0
 try clear hfz17_1
 try clear hfz17_2
 try clear hfz17_3
 try clear hfz7_0
 try clear hfz7_1
 try clear hfz7_2
 try clear hfz7_3
 try clear hx14_0
 try clear p1
 try clear p14
 try clear p2
 try clear p6
 try clear q1
 try clear q14
 obtain ⟨x5_3, x31_3, rfl, HA, HK3, HO_5, BK137, HB⟩ := hrel
 have hl5_3 := (Kd.R_reads' HO_5.out).1
 rw [hl5_3] at HO_5
 (try simp only [hl5_3])
 (try simp only [hl5_3] at BK137)
 cases gk with
 | zero => exact absurd HA.out (by simp [topo_Parts.l2])
 | succ k3 => ?_
 have H := HA.out
 clear HA
 simp only [topo_Parts.l2] at H
 by_cases c18 : x31_3 < (l0_2.length : Int)
 rotate_left
 ·rw [if_neg c18] at H
  have c18b0 : decide (x31_3 < (l0_2.length : Int)) = false := decide_eq_false c18
  (try simp only [hl5_1] at c18b0)
  (try simp only [hl5_2] at c18b0)
  (try simp only [hl5_3] at c18b0)
  (try simp only [hl5_5] at c18b0)
  clear c18
  obtain rfl := Option.some.inj H
  go_wp2_with (first | (with_reducible refine wp_label ?_) | (with_reducible refine wp_scope_straight ?_))
  go_ret
  exact ⟨_, by first | rfl | (simp [errW_none, errW_some] <;> rfl) | (simp only [← hji3]; first | rfl | (simp [errW_none, errW_some] <;> rfl)) | (simp [*, errW_none, errW_some] <;> rfl), by (with_reducible repeat (first | apply Kd.R_alloc | apply Kd.R_drewN | apply Kd.R_drew)); exact HO_5.out, by repeat (first | (with_reducible first | exact HB.out | apply below_alloc | apply pw_below_drewN | apply below_drew1 | refine below_set ?_ GE137.out) | exact HB.out)⟩
 rw [if_pos c18] at H
 have c18b0 : decide (x31_3 < (l0_2.length : Int)) = true := decide_eq_true c18
 (try simp only [hl5_1] at c18b0)
 (try simp only [hl5_2] at c18b0)
 (try simp only [hl5_3] at c18b0)
 clear c18
 by_cases c19 : 0 ≤ x31_3
 rotate_left
 ·rw [if_neg c19] at H
  exact absurd H (by simp)
 rw [if_pos c19] at H
 have c19b0 : decide (0 ≤ x31_3) = true := decide_eq_true c19
 (try simp only [hl5_1] at c19b0)
 (try simp only [hl5_2] at c19b0)
 (try simp only [hl5_3] at c19b0)
 clear c19
 by_cases c20 : x31_3 < (l0_2.length : Int)
 rotate_left
 ·rw [if_neg c20] at H
  exact absurd H (by simp)
 rw [if_pos c20] at H
 have c20b0 : decide (x31_3 < (l0_2.length : Int)) = true := decide_eq_true c20
 (try simp only [hl5_1] at c20b0)
 (try simp only [hl5_2] at c20b0)
 (try simp only [hl5_3] at c20b0)
 clear c20
 have H' := Aside0.mk H
 clear H
 have p142 : 0 ≤ (x31_3 : Int) := of_decide_eq_true (by first | (with_reducible assumption) | assumption)
 have q142 : x31_3 < (l0_2.length : Int) := of_decide_eq_true (by first | (with_reducible assumption) | assumption)
 obtain ⟨ad142, A142_0, c142_0, e142, hx142_0, hl142_0, hi142_0⟩ := at_L9 HR0_2.out x31_3 p142 q142
 cases e142
 replace hx142_0 := (HB.out.cell (World.block_lt_of_cell? w _ hx142_0)).trans hx142_0
 have HR142_0 := Aside0.mk hi142_0
 have HC142_0 := Aside0.mk hl142_0
 clear hi142_0 hl142_0
 replace p142 := eq_true p142
 replace q142 := eq_true q142
 go_wp2_with (first | (with_reducible refine wp_label ?_) | (with_reducible refine wp_scope_straight ?_))
 go_loopg [9, 38] k3 (fun kq v9 v38 w' => ∃ (x9_4 : Int) (x38_4 : Int), v9 = .int .i64 x9_4 ∧ v38 = .int .i64 x38_4 ∧ Aside0 (topo_Parts.l3 kq l1 x5_3 x31_3 (rd_L9 l0_2 x31_3) x9_4 l0_2 (l0_2.length : Int) x31_3 (rd_L9 l0_2 x31_3) ((rd_L9 l0_2 x31_3).length : Int) x38_4 a0_0 l0_1 l0_2 l0_3 = some r) ∧ Aside0 (kq ≤ k3) ∧ Aside0 (Kd.R (Kd.int .i64) 3 w' w.heap.size (fun _ => True) (.slice Ao10 x5_3.length co10) x5_3) ∧ Aside0 (w'.heap[gb137]? = some (.cells #[.int .i64 a0_0, (.slice A0_1 l0_1.length c0_1), (.slice (some ad142) l0_2.length c0_2), (.slice A0_3 l0_3.length c0_3)] 26 (0, 0))) ∧ Aside0 (Below w.heap.size w w'))
 case atStart => exact ⟨((-1)), (0), (by first | rfl | (simp; done) | (simp [*]; done)), (by first | rfl | (simp; done) | (simp [*]; done)), H', ⟨Nat.le_refl _⟩, ⟨by (try simp only [hl5_1]); (try simp only [hl5_2]); (try simp only [hl5_3]); (with_reducible repeat (first | apply Kd.R_alloc | apply Kd.R_drewN | apply Kd.R_drew)); exact HO_5.out⟩, ⟨by (try simp only [hl5_1]); (try simp only [hl5_2]); (try simp only [hl5_3]); (with_reducible repeat (first | refine blk_drewN ?_ _ | refine blk_drew ?_ | refine blk_alloc ?_ _)); exact BK137.out⟩, ⟨by repeat (first | (with_reducible first | exact HB.out | apply below_alloc | apply pw_below_drewN | apply below_drew1 | refine below_set ?_ GE137.out) | exact HB.out)⟩⟩
 clear H'
 try clear c1
 try clear p1
 try clear q1
 try clear hx1
 try clear c2
 try clear p2
 try clear c4
 try clear c4b0
 try clear c4b1
 try clear c5
 try clear c5b0
 try clear c5b1
 try clear p6
 try clear c11
 try clear c11b0
 try clear c12
 try clear c12b0
 try clear c13
 try clear c13b0
 try clear c14
 try clear p14
 try clear q14
 try clear hx14
 try clear hf14
 try clear c18
 try clear c18b0
 try clear c19
 try clear c19b0
 try clear c20
 try clear c20b0
 try clear hcz17_0
 try clear hcz17_1
 try clear hcz17_2
 try clear hcz17_3
 try clear hcz7_0
 try clear hcz7_1
 try clear hcz7_2
 try clear hcz7_3
 try clear hfz17_0
 try clear hfz17_1
 try clear hfz17_2
 try clear hfz17_3
 try clear hfz7_0
 try clear hfz7_1
 try clear hfz7_2
 try clear hfz7_3
 try clear hx142_0
 try clear hx14_0
 try clear p1
 try clear p14
 try clear p142
 try clear p2
 try clear p6
 try clear q1
 try clear q14
 try clear q142
 obtain ⟨x9_4, x38_4, rfl, rfl, HA, HK4, HO_5, BK137, HB⟩ := hrel
 cases gk with
 | zero => exact absurd HA.out (by simp [topo_Parts.l3])
 | succ k4 => ?_
 have H := HA.out
 clear HA
 simp only [topo_Parts.l3] at H
 by_cases c21 : x38_4 < ((rd_L9 l0_2 x31_3).length : Int)
 ·rw [if_pos c21] at H
  have c21b0 : decide (x38_4 < ((rd_L9 l0_2 x31_3).length : Int)) = true := decide_eq_true c21
  (try simp only [hl5_1] at c21b0)
  (try simp only [hl5_2] at c21b0)
  (try simp only [hl5_3] at c21b0)
  clear c21
  by_cases c22 : 0 ≤ x38_4
  rotate_left
  ·rw [if_neg c22] at H
   exact absurd H (by simp)
  rw [if_pos c22] at H
  have c22b0 : decide (0 ≤ x38_4) = true := decide_eq_true c22
  (try simp only [hl5_1] at c22b0)
  (try simp only [hl5_2] at c22b0)
  (try simp only [hl5_3] at c22b0)
  clear c22
  by_cases c23 : x38_4 < ((rd_L9 l0_2 x31_3).length : Int)
  rotate_left
  ·rw [if_neg c23] at H
   exact absurd H (by simp)
  rw [if_pos c23] at H
  have c23b0 : decide (x38_4 < ((rd_L9 l0_2 x31_3).length : Int)) = true := decide_eq_true c23
  (try simp only [hl5_1] at c23b0)
  (try simp only [hl5_2] at c23b0)
  (try simp only [hl5_3] at c23b0)
  clear c23
  replace H := Option.bind_eq_some_iff.mp H
  obtain ⟨t144, A240, H⟩ := H
  replace H : (if t144 = true then (if (rd (rd_L9 l0_2 x31_3) x38_4) ≥ 0 then (if (rd (rd_L9 l0_2 x31_3) x38_4) < (x5_3.length : Int) then (if x9_4 < 0 then (if 0 ≤ (rd (rd_L9 l0_2 x31_3) x38_4) then (topo_Parts.l3 k4 l1 x5_3 x31_3 (rd_L9 l0_2 x31_3) (rd x5_3 (rd (rd_L9 l0_2 x31_3) x38_4)) l0_2 (l0_2.length : Int) x31_3 (rd_L9 l0_2 x31_3) ((rd_L9 l0_2 x31_3).length : Int) (wrap64 (x38_4 + 1)) a0_0 l0_1 l0_2 l0_3) else (none)) else (if 0 ≤ (rd (rd_L9 l0_2 x31_3) x38_4) then (if (rd x5_3 (rd (rd_L9 l0_2 x31_3) x38_4)) < x9_4 then (topo_Parts.l3 k4 l1 x5_3 x31_3 (rd_L9 l0_2 x31_3) (rd x5_3 (rd (rd_L9 l0_2 x31_3) x38_4)) l0_2 (l0_2.length : Int) x31_3 (rd_L9 l0_2 x31_3) ((rd_L9 l0_2 x31_3).length : Int) (wrap64 (x38_4 + 1)) a0_0 l0_1 l0_2 l0_3) else (topo_Parts.l3 k4 l1 x5_3 x31_3 (rd_L9 l0_2 x31_3) x9_4 l0_2 (l0_2.length : Int) x31_3 (rd_L9 l0_2 x31_3) ((rd_L9 l0_2 x31_3).length : Int) (wrap64 (x38_4 + 1)) a0_0 l0_1 l0_2 l0_3)) else (none))) else (topo_Parts.l3 k4 l1 x5_3 x31_3 (rd_L9 l0_2 x31_3) x9_4 l0_2 (l0_2.length : Int) x31_3 (rd_L9 l0_2 x31_3) ((rd_L9 l0_2 x31_3).length : Int) (wrap64 (x38_4 + 1)) a0_0 l0_1 l0_2 l0_3)) else (topo_Parts.l3 k4 l1 x5_3 x31_3 (rd_L9 l0_2 x31_3) x9_4 l0_2 (l0_2.length : Int) x31_3 (rd_L9 l0_2 x31_3) ((rd_L9 l0_2 x31_3).length : Int) (wrap64 (x38_4 + 1)) a0_0 l0_1 l0_2 l0_3)) else (topo_Parts.l3 k4 l1 x5_3 x31_3 (rd_L9 l0_2 x31_3) x9_4 l0_2 (l0_2.length : Int) x31_3 (rd_L9 l0_2 x31_3) ((rd_L9 l0_2 x31_3).length : Int) (wrap64 (x38_4 + 1)) a0_0 l0_1 l0_2 l0_3)) = some r := H
  have A24 := Aside0.mk A240
  clear A240
  by_cases c25 : t144 = true
  rotate_left
  ·replace c25 := Bool.eq_false_iff.mpr c25
   subst c25
   have H1 : (topo_Parts.l3 k4 l1 x5_3 x31_3 (rd_L9 l0_2 x31_3) x9_4 l0_2 (l0_2.length : Int) x31_3 (rd_L9 l0_2 x31_3) ((rd_L9 l0_2 x31_3).length : Int) (wrap64 (x38_4 + 1)) a0_0 l0_1 l0_2 l0_3) = some r := by rw [if_neg (show ¬ (false = true) by decide)] at H; exact H
   clear H
   have H := H1
   clear H1
   have H' := Aside0.mk H
   clear H
   have p143 : 0 ≤ (x38_4 : Int) := of_decide_eq_true (by first | (with_reducible assumption) | assumption)
   have q143 : x38_4 < ((rd_L9 l0_2 x31_3).length : Int) := of_decide_eq_true (by first | (with_reducible assumption) | assumption)
   obtain ⟨ad143, e143, hx143_0⟩ := Kd.at_int HR142_0.out x38_4 p143 q143
   cases e143
   replace hx143_0 := (HB.out.cell (World.block_lt_of_cell? w _ hx143_0)).trans hx143_0
   replace p143 := eq_true p143
   replace q143 := eq_true q143
   go_wp2_with (first | (with_reducible refine wp_label ?_) | (with_reducible refine wp_scope_straight ?_) | ((with_reducible refine gate_callee (f := 24) rfl ?_); refine goesL_ (some 46) rfl rfl Try.func24 (by kernel_rfl) rfl #[.slice A1 l1.length c1, .int .i64 x31_3, .int .i64 x38_4] rfl (by (try simp only [List.map_toArray, List.map_cons, List.map_nil]); first | done | rfl | (simp only [List.length_drop, List.length_take]; rfl)) ?_; (with_reducible refine (topo_is.calls _ _ l1 x31_3 x38_4 false _ ?side1 ?side2 A24.out).mono ?_); (case side1 => repeat (first | exact (Kd.C_below HR1.out HB.out) | (with_reducible refine Kd.C_alloc ?_ _) | (with_reducible refine Kd.C_drewN ?_ _) | (with_reducible refine Kd.C_drew ?_))); (case side2 => exact HC1.out); rintro e w' ⟨rfl, ⟨nd, rfl⟩⟩; refine ⟨_, rfl, ?_⟩) | (go_at_call 24; (with_reducible refine (topo_is.calls _ _ l1 x31_3 x38_4 false _ ?side1 ?side2 A24.out).mono ?_); (case side1 => repeat (first | exact (Kd.C_below HR1.out HB.out) | (with_reducible refine Kd.C_alloc ?_ _) | (with_reducible refine Kd.C_drewN ?_ _) | (with_reducible refine Kd.C_drew ?_))); (case side2 => exact HC1.out); rintro e w' ⟨rfl, ⟨nd, rfl⟩⟩))
   go_roundg k4
   case measure => have := HK1.out; have := HK2.out; have := HK3.out; have := HK4.out; omega
   case rel => exact ⟨(x9_4), (wrap64 (x38_4 + 1)), (by first | rfl | (simp; done) | (simp [*]; done)), (by first | rfl | (simp; done) | (simp [*]; done)), H', ⟨by have := HK1.out; have := HK2.out; have := HK3.out; have := HK4.out; omega⟩, ⟨by (try simp only [hl5_1]); (try simp only [hl5_2]); (try simp only [hl5_3]); (with_reducible repeat (first | apply Kd.R_alloc | apply Kd.R_drewN | apply Kd.R_drew)); exact HO_5.out⟩, ⟨by (try simp only [hl5_1]); (try simp only [hl5_2]); (try simp only [hl5_3]); (with_reducible repeat (first | refine blk_drewN ?_ _ | refine blk_drew ?_ | refine blk_alloc ?_ _)); exact BK137.out⟩, ⟨by repeat (first | (with_reducible first | exact HB.out | apply below_alloc | apply pw_below_drewN | apply below_drew1 | refine below_set ?_ GE137.out) | exact HB.out)⟩⟩
  subst c25
  have H1 : (if (rd (rd_L9 l0_2 x31_3) x38_4) ≥ 0 then (if (rd (rd_L9 l0_2 x31_3) x38_4) < (x5_3.length : Int) then (if x9_4 < 0 then (if 0 ≤ (rd (rd_L9 l0_2 x31_3) x38_4) then (topo_Parts.l3 k4 l1 x5_3 x31_3 (rd_L9 l0_2 x31_3) (rd x5_3 (rd (rd_L9 l0_2 x31_3) x38_4)) l0_2 (l0_2.length : Int) x31_3 (rd_L9 l0_2 x31_3) ((rd_L9 l0_2 x31_3).length : Int) (wrap64 (x38_4 + 1)) a0_0 l0_1 l0_2 l0_3) else (none)) else (if 0 ≤ (rd (rd_L9 l0_2 x31_3) x38_4) then (if (rd x5_3 (rd (rd_L9 l0_2 x31_3) x38_4)) < x9_4 then (topo_Parts.l3 k4 l1 x5_3 x31_3 (rd_L9 l0_2 x31_3) (rd x5_3 (rd (rd_L9 l0_2 x31_3) x38_4)) l0_2 (l0_2.length : Int) x31_3 (rd_L9 l0_2 x31_3) ((rd_L9 l0_2 x31_3).length : Int) (wrap64 (x38_4 + 1)) a0_0 l0_1 l0_2 l0_3) else (topo_Parts.l3 k4 l1 x5_3 x31_3 (rd_L9 l0_2 x31_3) x9_4 l0_2 (l0_2.length : Int) x31_3 (rd_L9 l0_2 x31_3) ((rd_L9 l0_2 x31_3).length : Int) (wrap64 (x38_4 + 1)) a0_0 l0_1 l0_2 l0_3)) else (none))) else (topo_Parts.l3 k4 l1 x5_3 x31_3 (rd_L9 l0_2 x31_3) x9_4 l0_2 (l0_2.length : Int) x31_3 (rd_L9 l0_2 x31_3) ((rd_L9 l0_2 x31_3).length : Int) (wrap64 (x38_4 + 1)) a0_0 l0_1 l0_2 l0_3)) else (topo_Parts.l3 k4 l1 x5_3 x31_3 (rd_L9 l0_2 x31_3) x9_4 l0_2 (l0_2.length : Int) x31_3 (rd_L9 l0_2 x31_3) ((rd_L9 l0_2 x31_3).length : Int) (wrap64 (x38_4 + 1)) a0_0 l0_1 l0_2 l0_3)) = some r := by rw [if_pos rfl] at H; exact H
  clear H
  have H := H1
  clear H1
  by_cases c26 : (rd (rd_L9 l0_2 x31_3) x38_4) ≥ 0
  rotate_left
  ·rw [if_neg c26] at H
   have c26b0 : decide (0 ≤ (rd (rd_L9 l0_2 x31_3) x38_4)) = false := decide_eq_false c26
   (try simp only [hl5_1] at c26b0)
   (try simp only [hl5_2] at c26b0)
   (try simp only [hl5_3] at c26b0)
   clear c26
   have H' := Aside0.mk H
   clear H
   have p143 : 0 ≤ (x38_4 : Int) := of_decide_eq_true (by first | (with_reducible assumption) | assumption)
   have q143 : x38_4 < ((rd_L9 l0_2 x31_3).length : Int) := of_decide_eq_true (by first | (with_reducible assumption) | assumption)
   obtain ⟨ad143, e143, hx143_0⟩ := Kd.at_int HR142_0.out x38_4 p143 q143
   cases e143
   replace hx143_0 := (HB.out.cell (World.block_lt_of_cell? w _ hx143_0)).trans hx143_0
   replace p143 := eq_true p143
   replace q143 := eq_true q143
   go_wp2_with (first | (with_reducible refine wp_label ?_) | (with_reducible refine wp_scope_straight ?_) | ((with_reducible refine gate_callee (f := 24) rfl ?_); refine goesL_ (some 46) rfl rfl Try.func24 (by kernel_rfl) rfl #[.slice A1 l1.length c1, .int .i64 x31_3, .int .i64 x38_4] rfl (by (try simp only [List.map_toArray, List.map_cons, List.map_nil]); first | done | rfl | (simp only [List.length_drop, List.length_take]; rfl)) ?_; (with_reducible refine (topo_is.calls _ _ l1 x31_3 x38_4 true _ ?side1 ?side2 A24.out).mono ?_); (case side1 => repeat (first | exact (Kd.C_below HR1.out HB.out) | (with_reducible refine Kd.C_alloc ?_ _) | (with_reducible refine Kd.C_drewN ?_ _) | (with_reducible refine Kd.C_drew ?_))); (case side2 => exact HC1.out); rintro e w' ⟨rfl, ⟨nd, rfl⟩⟩; refine ⟨_, rfl, ?_⟩) | (go_at_call 24; (with_reducible refine (topo_is.calls _ _ l1 x31_3 x38_4 true _ ?side1 ?side2 A24.out).mono ?_); (case side1 => repeat (first | exact (Kd.C_below HR1.out HB.out) | (with_reducible refine Kd.C_alloc ?_ _) | (with_reducible refine Kd.C_drewN ?_ _) | (with_reducible refine Kd.C_drew ?_))); (case side2 => exact HC1.out); rintro e w' ⟨rfl, ⟨nd, rfl⟩⟩))
   go_roundg k4
   case measure => have := HK1.out; have := HK2.out; have := HK3.out; have := HK4.out; omega
   case rel => exact ⟨(x9_4), (wrap64 (x38_4 + 1)), (by first | rfl | (simp; done) | (simp [*]; done)), (by first | rfl | (simp; done) | (simp [*]; done)), H', ⟨by have := HK1.out; have := HK2.out; have := HK3.out; have := HK4.out; omega⟩, ⟨by (try simp only [hl5_1]); (try simp only [hl5_2]); (try simp only [hl5_3]); (with_reducible repeat (first | apply Kd.R_alloc | apply Kd.R_drewN | apply Kd.R_drew)); exact HO_5.out⟩, ⟨by (try simp only [hl5_1]); (try simp only [hl5_2]); (try simp only [hl5_3]); (with_reducible repeat (first | refine blk_drewN ?_ _ | refine blk_drew ?_ | refine blk_alloc ?_ _)); exact BK137.out⟩, ⟨by repeat (first | (with_reducible first | exact HB.out | apply below_alloc | apply pw_below_drewN | apply below_drew1 | refine below_set ?_ GE137.out) | exact HB.out)⟩⟩
  rw [if_pos c26] at H
  have c26b0 : decide (0 ≤ (rd (rd_L9 l0_2 x31_3) x38_4)) = true := decide_eq_true c26
  (try simp only [hl5_1] at c26b0)
  (try simp only [hl5_2] at c26b0)
  (try simp only [hl5_3] at c26b0)
  clear c26
  by_cases c27 : (rd (rd_L9 l0_2 x31_3) x38_4) < (x5_3.length : Int)
  rotate_left
  ·rw [if_neg c27] at H
   have c27b0 : decide ((rd (rd_L9 l0_2 x31_3) x38_4) < (x5_3.length : Int)) = false := decide_eq_false c27
   (try simp only [hl5_1] at c27b0)
   (try simp only [hl5_2] at c27b0)
   (try simp only [hl5_3] at c27b0)
   clear c27
   have H' := Aside0.mk H
   clear H
   have p143 : 0 ≤ (x38_4 : Int) := of_decide_eq_true (by first | (with_reducible assumption) | assumption)
   have q143 : x38_4 < ((rd_L9 l0_2 x31_3).length : Int) := of_decide_eq_true (by first | (with_reducible assumption) | assumption)
   obtain ⟨ad143, e143, hx143_0⟩ := Kd.at_int HR142_0.out x38_4 p143 q143
   cases e143
   replace hx143_0 := (HB.out.cell (World.block_lt_of_cell? w _ hx143_0)).trans hx143_0
   replace p143 := eq_true p143
   replace q143 := eq_true q143
   go_wp2_with (first | (with_reducible refine wp_label ?_) | (with_reducible refine wp_scope_straight ?_) | ((with_reducible refine gate_callee (f := 24) rfl ?_); refine goesL_ (some 46) rfl rfl Try.func24 (by kernel_rfl) rfl #[.slice A1 l1.length c1, .int .i64 x31_3, .int .i64 x38_4] rfl (by (try simp only [List.map_toArray, List.map_cons, List.map_nil]); first | done | rfl | (simp only [List.length_drop, List.length_take]; rfl)) ?_; (with_reducible refine (topo_is.calls _ _ l1 x31_3 x38_4 true _ ?side1 ?side2 A24.out).mono ?_); (case side1 => repeat (first | exact (Kd.C_below HR1.out HB.out) | (with_reducible refine Kd.C_alloc ?_ _) | (with_reducible refine Kd.C_drewN ?_ _) | (with_reducible refine Kd.C_drew ?_))); (case side2 => exact HC1.out); rintro e w' ⟨rfl, ⟨nd, rfl⟩⟩; refine ⟨_, rfl, ?_⟩) | (go_at_call 24; (with_reducible refine (topo_is.calls _ _ l1 x31_3 x38_4 true _ ?side1 ?side2 A24.out).mono ?_); (case side1 => repeat (first | exact (Kd.C_below HR1.out HB.out) | (with_reducible refine Kd.C_alloc ?_ _) | (with_reducible refine Kd.C_drewN ?_ _) | (with_reducible refine Kd.C_drew ?_))); (case side2 => exact HC1.out); rintro e w' ⟨rfl, ⟨nd, rfl⟩⟩))
   go_roundg k4
   case measure => have := HK1.out; have := HK2.out; have := HK3.out; have := HK4.out; omega
   case rel => exact ⟨(x9_4), (wrap64 (x38_4 + 1)), (by first | rfl | (simp; done) | (simp [*]; done)), (by first | rfl | (simp; done) | (simp [*]; done)), H', ⟨by have := HK1.out; have := HK2.out; have := HK3.out; have := HK4.out; omega⟩, ⟨by (try simp only [hl5_1]); (try simp only [hl5_2]); (try simp only [hl5_3]); (with_reducible repeat (first | apply Kd.R_alloc | apply Kd.R_drewN | apply Kd.R_drew)); exact HO_5.out⟩, ⟨by (try simp only [hl5_1]); (try simp only [hl5_2]); (try simp only [hl5_3]); (with_reducible repeat (first | refine blk_drewN ?_ _ | refine blk_drew ?_ | refine blk_alloc ?_ _)); exact BK137.out⟩, ⟨by repeat (first | (with_reducible first | exact HB.out | apply below_alloc | apply pw_below_drewN | apply below_drew1 | refine below_set ?_ GE137.out) | exact HB.out)⟩⟩
  rw [if_pos c27] at H
  have c27b0 : decide ((rd (rd_L9 l0_2 x31_3) x38_4) < (x5_3.length : Int)) = true := decide_eq_true c27
  (try simp only [hl5_1] at c27b0)
  (try simp only [hl5_2] at c27b0)
  (try simp only [hl5_3] at c27b0)
  clear c27
  by_cases c28 : x9_4 < 0
  ·rw [if_pos c28] at H
   have c28b0 : decide (x9_4 < 0) = true := decide_eq_true c28
   (try simp only [hl5_1] at c28b0)
   (try simp only [hl5_2] at c28b0)
   (try simp only [hl5_3] at c28b0)
   clear c28
   by_cases c29 : 0 ≤ (rd (rd_L9 l0_2 x31_3) x38_4)
   rotate_left
   ·rw [if_neg c29] at H
    exact absurd H (by simp)
   rw [if_pos c29] at H
   have c29b0 : decide (0 ≤ (rd (rd_L9 l0_2 x31_3) x38_4)) = true := decide_eq_true c29
   (try simp only [hl5_1] at c29b0)
   (try simp only [hl5_2] at c29b0)
   (try simp only [hl5_3] at c29b0)
   clear c29
   have H' := Aside0.mk H
   clear H
   have p143 : 0 ≤ (x38_4 : Int) := of_decide_eq_true (by first | (with_reducible assumption) | assumption)
   have q143 : x38_4 < ((rd_L9 l0_2 x31_3).length : Int) := of_decide_eq_true (by first | (with_reducible assumption) | assumption)
   obtain ⟨ad143, e143, hx143_0⟩ := Kd.at_int HR142_0.out x38_4 p143 q143
   cases e143
   replace hx143_0 := (HB.out.cell (World.block_lt_of_cell? w _ hx143_0)).trans hx143_0
   replace p143 := eq_true p143
   replace q143 := eq_true q143
   go_wp2_with (first | (with_reducible refine wp_label ?_) | (with_reducible refine wp_scope_straight ?_) | ((with_reducible refine gate_callee (f := 24) rfl ?_); refine goesL_ (some 46) rfl rfl Try.func24 (by kernel_rfl) rfl #[.slice A1 l1.length c1, .int .i64 x31_3, .int .i64 x38_4] rfl (by (try simp only [List.map_toArray, List.map_cons, List.map_nil]); first | done | rfl | (simp only [List.length_drop, List.length_take]; rfl)) ?_; (with_reducible refine (topo_is.calls _ _ l1 x31_3 x38_4 true _ ?side1 ?side2 A24.out).mono ?_); (case side1 => repeat (first | exact (Kd.C_below HR1.out HB.out) | (with_reducible refine Kd.C_alloc ?_ _) | (with_reducible refine Kd.C_drewN ?_ _) | (with_reducible refine Kd.C_drew ?_))); (case side2 => exact HC1.out); rintro e w' ⟨rfl, ⟨nd, rfl⟩⟩; refine ⟨_, rfl, ?_⟩; have p145 : 0 ≤ ((rd (rd_L9 l0_2 x31_3) x38_4) : Int) := of_decide_eq_true (by first | (with_reducible assumption) | assumption); have q145 : (rd (rd_L9 l0_2 x31_3) x38_4) < (x5_3.length : Int) := of_decide_eq_true (by first | (with_reducible assumption) | assumption); obtain ⟨ad145, e145, hx145_0⟩ := Kd.at_int (Kd.R_reads' HO_5.out).2.2 (rd (rd_L9 l0_2 x31_3) x38_4) p145 q145; cases e145; replace p145 := eq_true p145; replace q145 := eq_true q145) | (go_at_call 24; (with_reducible refine (topo_is.calls _ _ l1 x31_3 x38_4 true _ ?side1 ?side2 A24.out).mono ?_); (case side1 => repeat (first | exact (Kd.C_below HR1.out HB.out) | (with_reducible refine Kd.C_alloc ?_ _) | (with_reducible refine Kd.C_drewN ?_ _) | (with_reducible refine Kd.C_drew ?_))); (case side2 => exact HC1.out); rintro e w' ⟨rfl, ⟨nd, rfl⟩⟩; have p145 : 0 ≤ ((rd (rd_L9 l0_2 x31_3) x38_4) : Int) := of_decide_eq_true (by first | (with_reducible assumption) | assumption); have q145 : (rd (rd_L9 l0_2 x31_3) x38_4) < (x5_3.length : Int) := of_decide_eq_true (by first | (with_reducible assumption) | assumption); obtain ⟨ad145, e145, hx145_0⟩ := Kd.at_int (Kd.R_reads' HO_5.out).2.2 (rd (rd_L9 l0_2 x31_3) x38_4) p145 q145; cases e145; replace p145 := eq_true p145; replace q145 := eq_true q145))
   go_roundg k4
   case measure => have := HK1.out; have := HK2.out; have := HK3.out; have := HK4.out; omega
   case rel => exact ⟨(rd x5_3 (rd (rd_L9 l0_2 x31_3) x38_4)), (wrap64 (x38_4 + 1)), (by first | rfl | (simp; done) | (simp [*]; done)), (by first | rfl | (simp; done) | (simp [*]; done)), H', ⟨by have := HK1.out; have := HK2.out; have := HK3.out; have := HK4.out; omega⟩, ⟨by (try simp only [hl5_1]); (try simp only [hl5_2]); (try simp only [hl5_3]); (with_reducible repeat (first | apply Kd.R_alloc | apply Kd.R_drewN | apply Kd.R_drew)); exact HO_5.out⟩, ⟨by (try simp only [hl5_1]); (try simp only [hl5_2]); (try simp only [hl5_3]); (with_reducible repeat (first | refine blk_drewN ?_ _ | refine blk_drew ?_ | refine blk_alloc ?_ _)); exact BK137.out⟩, ⟨by repeat (first | (with_reducible first | exact HB.out | apply below_alloc | apply pw_below_drewN | apply below_drew1 | refine below_set ?_ GE137.out) | exact HB.out)⟩⟩
  rw [if_neg c28] at H
  have c28b0 : decide (x9_4 < 0) = false := decide_eq_false c28
  (try simp only [hl5_1] at c28b0)
  (try simp only [hl5_2] at c28b0)
  (try simp only [hl5_3] at c28b0)
  clear c28
  by_cases c30 : 0 ≤ (rd (rd_L9 l0_2 x31_3) x38_4)
  rotate_left
  ·rw [if_neg c30] at H
   exact absurd H (by simp)
  rw [if_pos c30] at H
  have c30b0 : decide (0 ≤ (rd (rd_L9 l0_2 x31_3) x38_4)) = true := decide_eq_true c30
  (try simp only [hl5_1] at c30b0)
  (try simp only [hl5_2] at c30b0)
  (try simp only [hl5_3] at c30b0)
  clear c30
  by_cases c31 : (rd x5_3 (rd (rd_L9 l0_2 x31_3) x38_4)) < x9_4
  rotate_left
  ·rw [if_neg c31] at H
   have c31b0 : decide ((rd x5_3 (rd (rd_L9 l0_2 x31_3) x38_4)) < x9_4) = false := decide_eq_false c31
   (try simp only [hl5_1] at c31b0)
   (try simp only [hl5_2] at c31b0)
   (try simp only [hl5_3] at c31b0)
   clear c31
   have H' := Aside0.mk H
   clear H
   have p143 : 0 ≤ (x38_4 : Int) := of_decide_eq_true (by first | (with_reducible assumption) | assumption)
   have q143 : x38_4 < ((rd_L9 l0_2 x31_3).length : Int) := of_decide_eq_true (by first | (with_reducible assumption) | assumption)
   obtain ⟨ad143, e143, hx143_0⟩ := Kd.at_int HR142_0.out x38_4 p143 q143
   cases e143
   replace hx143_0 := (HB.out.cell (World.block_lt_of_cell? w _ hx143_0)).trans hx143_0
   replace p143 := eq_true p143
   replace q143 := eq_true q143
   go_wp2_with (first | (with_reducible refine wp_label ?_) | (with_reducible refine wp_scope_straight ?_) | ((with_reducible refine gate_callee (f := 24) rfl ?_); refine goesL_ (some 46) rfl rfl Try.func24 (by kernel_rfl) rfl #[.slice A1 l1.length c1, .int .i64 x31_3, .int .i64 x38_4] rfl (by (try simp only [List.map_toArray, List.map_cons, List.map_nil]); first | done | rfl | (simp only [List.length_drop, List.length_take]; rfl)) ?_; (with_reducible refine (topo_is.calls _ _ l1 x31_3 x38_4 true _ ?side1 ?side2 A24.out).mono ?_); (case side1 => repeat (first | exact (Kd.C_below HR1.out HB.out) | (with_reducible refine Kd.C_alloc ?_ _) | (with_reducible refine Kd.C_drewN ?_ _) | (with_reducible refine Kd.C_drew ?_))); (case side2 => exact HC1.out); rintro e w' ⟨rfl, ⟨nd, rfl⟩⟩; refine ⟨_, rfl, ?_⟩; have p146 : 0 ≤ ((rd (rd_L9 l0_2 x31_3) x38_4) : Int) := of_decide_eq_true (by first | (with_reducible assumption) | assumption); have q146 : (rd (rd_L9 l0_2 x31_3) x38_4) < (x5_3.length : Int) := of_decide_eq_true (by first | (with_reducible assumption) | assumption); obtain ⟨ad146, e146, hx146_0⟩ := Kd.at_int (Kd.R_reads' HO_5.out).2.2 (rd (rd_L9 l0_2 x31_3) x38_4) p146 q146; cases e146; replace p146 := eq_true p146; replace q146 := eq_true q146) | (go_at_call 24; (with_reducible refine (topo_is.calls _ _ l1 x31_3 x38_4 true _ ?side1 ?side2 A24.out).mono ?_); (case side1 => repeat (first | exact (Kd.C_below HR1.out HB.out) | (with_reducible refine Kd.C_alloc ?_ _) | (with_reducible refine Kd.C_drewN ?_ _) | (with_reducible refine Kd.C_drew ?_))); (case side2 => exact HC1.out); rintro e w' ⟨rfl, ⟨nd, rfl⟩⟩; have p146 : 0 ≤ ((rd (rd_L9 l0_2 x31_3) x38_4) : Int) := of_decide_eq_true (by first | (with_reducible assumption) | assumption); have q146 : (rd (rd_L9 l0_2 x31_3) x38_4) < (x5_3.length : Int) := of_decide_eq_true (by first | (with_reducible assumption) | assumption); obtain ⟨ad146, e146, hx146_0⟩ := Kd.at_int (Kd.R_reads' HO_5.out).2.2 (rd (rd_L9 l0_2 x31_3) x38_4) p146 q146; cases e146; replace p146 := eq_true p146; replace q146 := eq_true q146))
   go_roundg k4
   case measure => have := HK1.out; have := HK2.out; have := HK3.out; have := HK4.out; omega
   case rel => exact ⟨(x9_4), (wrap64 (x38_4 + 1)), (by first | rfl | (simp; done) | (simp [*]; done)), (by first | rfl | (simp; done) | (simp [*]; done)), H', ⟨by have := HK1.out; have := HK2.out; have := HK3.out; have := HK4.out; omega⟩, ⟨by (try simp only [hl5_1]); (try simp only [hl5_2]); (try simp only [hl5_3]); (with_reducible repeat (first | apply Kd.R_alloc | apply Kd.R_drewN | apply Kd.R_drew)); exact HO_5.out⟩, ⟨by (try simp only [hl5_1]); (try simp only [hl5_2]); (try simp only [hl5_3]); (with_reducible repeat (first | refine blk_drewN ?_ _ | refine blk_drew ?_ | refine blk_alloc ?_ _)); exact BK137.out⟩, ⟨by repeat (first | (with_reducible first | exact HB.out | apply below_alloc | apply pw_below_drewN | apply below_drew1 | refine below_set ?_ GE137.out) | exact HB.out)⟩⟩
  rw [if_pos c31] at H
  have c31b0 : decide ((rd x5_3 (rd (rd_L9 l0_2 x31_3) x38_4)) < x9_4) = true := decide_eq_true c31
  (try simp only [hl5_1] at c31b0)
  (try simp only [hl5_2] at c31b0)
  (try simp only [hl5_3] at c31b0)
  clear c31
  have H' := Aside0.mk H
  clear H
  have p143 : 0 ≤ (x38_4 : Int) := of_decide_eq_true (by first | (with_reducible assumption) | assumption)
  have q143 : x38_4 < ((rd_L9 l0_2 x31_3).length : Int) := of_decide_eq_true (by first | (with_reducible assumption) | assumption)
  obtain ⟨ad143, e143, hx143_0⟩ := Kd.at_int HR142_0.out x38_4 p143 q143
  cases e143
  replace hx143_0 := (HB.out.cell (World.block_lt_of_cell? w _ hx143_0)).trans hx143_0
  replace p143 := eq_true p143
  replace q143 := eq_true q143
  go_wp2_with (first | (with_reducible refine wp_label ?_) | (with_reducible refine wp_scope_straight ?_) | ((with_reducible refine gate_callee (f := 24) rfl ?_); refine goesL_ (some 46) rfl rfl Try.func24 (by kernel_rfl) rfl #[.slice A1 l1.length c1, .int .i64 x31_3, .int .i64 x38_4] rfl (by (try simp only [List.map_toArray, List.map_cons, List.map_nil]); first | done | rfl | (simp only [List.length_drop, List.length_take]; rfl)) ?_; (with_reducible refine (topo_is.calls _ _ l1 x31_3 x38_4 true _ ?side1 ?side2 A24.out).mono ?_); (case side1 => repeat (first | exact (Kd.C_below HR1.out HB.out) | (with_reducible refine Kd.C_alloc ?_ _) | (with_reducible refine Kd.C_drewN ?_ _) | (with_reducible refine Kd.C_drew ?_))); (case side2 => exact HC1.out); rintro e w' ⟨rfl, ⟨nd, rfl⟩⟩; refine ⟨_, rfl, ?_⟩; have p146 : 0 ≤ ((rd (rd_L9 l0_2 x31_3) x38_4) : Int) := of_decide_eq_true (by first | (with_reducible assumption) | assumption); have q146 : (rd (rd_L9 l0_2 x31_3) x38_4) < (x5_3.length : Int) := of_decide_eq_true (by first | (with_reducible assumption) | assumption); obtain ⟨ad146, e146, hx146_0⟩ := Kd.at_int (Kd.R_reads' HO_5.out).2.2 (rd (rd_L9 l0_2 x31_3) x38_4) p146 q146; cases e146; replace p146 := eq_true p146; replace q146 := eq_true q146; have p147 : 0 ≤ ((rd (rd_L9 l0_2 x31_3) x38_4) : Int) := of_decide_eq_true (by first | (with_reducible assumption) | assumption); have q147 : (rd (rd_L9 l0_2 x31_3) x38_4) < (x5_3.length : Int) := of_decide_eq_true (by first | (with_reducible assumption) | assumption); obtain ⟨ad147, e147, hx147_0⟩ := Kd.at_int (Kd.R_reads' HO_5.out).2.2 (rd (rd_L9 l0_2 x31_3) x38_4) p147 q147; obtain rfl : ad146 = ad147 := (by injection e147); replace p147 := eq_true p147; replace q147 := eq_true q147) | (go_at_call 24; (with_reducible refine (topo_is.calls _ _ l1 x31_3 x38_4 true _ ?side1 ?side2 A24.out).mono ?_); (case side1 => repeat (first | exact (Kd.C_below HR1.out HB.out) | (with_reducible refine Kd.C_alloc ?_ _) | (with_reducible refine Kd.C_drewN ?_ _) | (with_reducible refine Kd.C_drew ?_))); (case side2 => exact HC1.out); rintro e w' ⟨rfl, ⟨nd, rfl⟩⟩; have p146 : 0 ≤ ((rd (rd_L9 l0_2 x31_3) x38_4) : Int) := of_decide_eq_true (by first | (with_reducible assumption) | assumption); have q146 : (rd (rd_L9 l0_2 x31_3) x38_4) < (x5_3.length : Int) := of_decide_eq_true (by first | (with_reducible assumption) | assumption); obtain ⟨ad146, e146, hx146_0⟩ := Kd.at_int (Kd.R_reads' HO_5.out).2.2 (rd (rd_L9 l0_2 x31_3) x38_4) p146 q146; cases e146; replace p146 := eq_true p146; replace q146 := eq_true q146; have p147 : 0 ≤ ((rd (rd_L9 l0_2 x31_3) x38_4) : Int) := of_decide_eq_true (by first | (with_reducible assumption) | assumption); have q147 : (rd (rd_L9 l0_2 x31_3) x38_4) < (x5_3.length : Int) := of_decide_eq_true (by first | (with_reducible assumption) | assumption); obtain ⟨ad147, e147, hx147_0⟩ := Kd.at_int (Kd.R_reads' HO_5.out).2.2 (rd (rd_L9 l0_2 x31_3) x38_4) p147 q147; obtain rfl : ad146 = ad147 := (by injection e147); replace p147 := eq_true p147; replace q147 := eq_true q147))
  go_roundg k4
  case measure => have := HK1.out; have := HK2.out; have := HK3.out; have := HK4.out; omega
  case rel => exact ⟨(rd x5_3 (rd (rd_L9 l0_2 x31_3) x38_4)), (wrap64 (x38_4 + 1)), (by first | rfl | (simp; done) | (simp [*]; done)), (by first | rfl | (simp; done) | (simp [*]; done)), H', ⟨by have := HK1.out; have := HK2.out; have := HK3.out; have := HK4.out; omega⟩, ⟨by (try simp only [hl5_1]); (try simp only [hl5_2]); (try simp only [hl5_3]); (with_reducible repeat (first | apply Kd.R_alloc | apply Kd.R_drewN | apply Kd.R_drew)); exact HO_5.out⟩, ⟨by (try simp only [hl5_1]); (try simp only [hl5_2]); (try simp only [hl5_3]); (with_reducible repeat (first | refine blk_drewN ?_ _ | refine blk_drew ?_ | refine blk_alloc ?_ _)); exact BK137.out⟩, ⟨by repeat (first | (with_reducible first | exact HB.out | apply below_alloc | apply pw_below_drewN | apply below_drew1 | refine below_set ?_ GE137.out) | exact HB.out)⟩⟩
 rw [if_neg c21] at H
 have c21b0 : decide (x38_4 < ((rd_L9 l0_2 x31_3).length : Int)) = false := decide_eq_false c21
 (try simp only [hl5_1] at c21b0)
 (try simp only [hl5_2] at c21b0)
 (try simp only [hl5_3] at c21b0)
 clear c21
 have H' := Aside0.mk H
 clear H
 go_wp2_with (first | (with_reducible refine wp_label ?_) | (with_reducible refine wp_scope_straight ?_))
 go_loopg [76] k4 (fun kq v76 w' => ∃ (x5_5 : List Int) (x76_5 : Int), v76 = .int .i64 x76_5 ∧ Aside0 (topo_Parts.l4 kq l1 x5_5 x31_3 x9_4 l0_2 (l0_2.length : Int) x31_3 (rd_L9 l0_2 x31_3) ((rd_L9 l0_2 x31_3).length : Int) x76_5 a0_0 l0_1 l0_2 l0_3 = some r) ∧ Aside0 (kq ≤ k4) ∧ Aside0 (Kd.R (Kd.int .i64) 3 w' w.heap.size (fun _ => True) (.slice Ao10 x5_3.length co10) x5_5) ∧ Aside0 (w'.heap[gb137]? = some (.cells #[.int .i64 a0_0, (.slice A0_1 l0_1.length c0_1), (.slice (some ad142) l0_2.length c0_2), (.slice A0_3 l0_3.length c0_3)] 26 (0, 0))) ∧ Aside0 (Below w.heap.size w w'))
 case atStart => exact ⟨(x5_3), (0), (by first | rfl | (simp; done) | (simp [*]; done)), H', ⟨Nat.le_refl _⟩, ⟨by (try simp only [hl5_1]); (try simp only [hl5_2]); (try simp only [hl5_3]); (with_reducible repeat (first | apply Kd.R_alloc | apply Kd.R_drewN | apply Kd.R_drew)); exact HO_5.out⟩, ⟨by (try simp only [hl5_1]); (try simp only [hl5_2]); (try simp only [hl5_3]); (with_reducible repeat (first | refine blk_drewN ?_ _ | refine blk_drew ?_ | refine blk_alloc ?_ _)); exact BK137.out⟩, ⟨by repeat (first | (with_reducible first | exact HB.out | apply below_alloc | apply pw_below_drewN | apply below_drew1 | refine below_set ?_ GE137.out) | exact HB.out)⟩⟩
 clear H'
 try clear c1
 try clear p1
 try clear q1
 try clear hx1
 try clear c2
 try clear p2
 try clear c3
 try clear c4
 try clear c4b0
 try clear c4b1
 try clear c5
 try clear c5b0
 try clear c5b1
 try clear p6
 try clear c11
 try clear c11b0
 try clear c12
 try clear c12b0
 try clear c13
 try clear c13b0
 try clear c14
 try clear p14
 try clear q14
 try clear hx14
 try clear hf14
 try clear c18
 try clear c18b0
 try clear c19
 try clear c19b0
 try clear c20
 try clear c20b0
 try clear c21
 try clear c21b0
 try clear c22
 try clear c22b0
 try clear c23
 try clear c23b0
 try clear c24
 try clear c25
 try clear c26
 try clear c26b0
 try clear c27
 try clear c27b0
 try clear c28
 try clear c28b0
 try clear c29
 try clear c29b0
 try clear c30
 try clear c30b0
 try clear c31
 try clear c31b0
 try clear hcz17_0
 try clear hcz17_1
 try clear hcz17_2
 try clear hcz17_3
 try clear hcz7_0
 try clear hcz7_1
 try clear hcz7_2
 try clear hcz7_3
 try clear hfz17_0
 try clear hfz17_1
 try clear hfz17_2
 try clear hfz17_3
 try clear hfz7_0
 try clear hfz7_1
 try clear hfz7_2
 try clear hfz7_3
 try clear hx142_0
 try clear hx143_0
 try clear hx145_0
 try clear hx146_0
 try clear hx147_0
 try clear hx14_0
 try clear p1
 try clear p14
 try clear p142
 try clear p143
 try clear p145
 try clear p146
 try clear p147
 try clear p2
 try clear p6
 try clear q1
 try clear q14
 try clear q142
 try clear q143
 try clear q145
 try clear q146
 try clear q147
 obtain ⟨x5_5, x76_5, rfl, HA, HK5, HO_5, BK137, HB⟩ := hrel
 have hl5_5 := (Kd.R_reads' HO_5.out).1
 rw [hl5_5] at HO_5
 (try simp only [hl5_5])
 (try simp only [hl5_5] at BK137)
 cases gk with
 | zero => exact absurd HA.out (by simp [topo_Parts.l4])
 | succ k5 => ?_
 have H := HA.out
 clear HA
 simp only [topo_Parts.l4] at H
 by_cases c32 : x76_5 < ((rd_L9 l0_2 x31_3).length : Int)
 rotate_left
 ·rw [if_neg c32] at H
  have c32b0 : decide (x76_5 < ((rd_L9 l0_2 x31_3).length : Int)) = false := decide_eq_false c32
  (try simp only [hl5_1] at c32b0)
  (try simp only [hl5_2] at c32b0)
  (try simp only [hl5_3] at c32b0)
  (try simp only [hl5_5] at c32b0)
  clear c32
  have H' := Aside0.mk H
  clear H
  go_wp2_with (first | (with_reducible refine wp_label ?_) | (with_reducible refine wp_scope_straight ?_))
  (try simp only [← hl5_3, ← hl5_5])
  go_roundg k5
  case measure => have := HK1.out; have := HK2.out; have := HK3.out; have := HK4.out; have := HK5.out; omega
  case rel => exact ⟨(x5_5), (wrap64 (x31_3 + 1)), (by first | rfl | (simp; done) | (simp [*]; done)), H', ⟨by have := HK1.out; have := HK2.out; have := HK3.out; have := HK4.out; have := HK5.out; omega⟩, ⟨by (try simp only [hl5_1]); (try simp only [hl5_2]); (try simp only [hl5_3]); (try simp only [hl5_5]); (with_reducible repeat (first | apply Kd.R_alloc | apply Kd.R_drewN | apply Kd.R_drew)); exact HO_5.out⟩, ⟨by (try simp only [hl5_1]); (try simp only [hl5_2]); (try simp only [hl5_3]); (try simp only [hl5_5]); (with_reducible repeat (first | refine blk_drewN ?_ _ | refine blk_drew ?_ | refine blk_alloc ?_ _)); exact BK137.out⟩, ⟨by repeat (first | (with_reducible first | exact HB.out | apply below_alloc | apply pw_below_drewN | apply below_drew1 | refine below_set ?_ GE137.out) | exact HB.out)⟩⟩
 rw [if_pos c32] at H
 have c32b0 : decide (x76_5 < ((rd_L9 l0_2 x31_3).length : Int)) = true := decide_eq_true c32
 (try simp only [hl5_1] at c32b0)
 (try simp only [hl5_2] at c32b0)
 (try simp only [hl5_3] at c32b0)
 (try simp only [hl5_5] at c32b0)
 clear c32
 by_cases c33 : 0 ≤ x76_5
 rotate_left
 ·rw [if_neg c33] at H
  exact absurd H (by simp)
 rw [if_pos c33] at H
 have c33b0 : decide (0 ≤ x76_5) = true := decide_eq_true c33
 (try simp only [hl5_1] at c33b0)
 (try simp only [hl5_2] at c33b0)
 (try simp only [hl5_3] at c33b0)
 (try simp only [hl5_5] at c33b0)
 clear c33
 by_cases c34 : x76_5 < ((rd_L9 l0_2 x31_3).length : Int)
 rotate_left
 ·rw [if_neg c34] at H
  exact absurd H (by simp)
 rw [if_pos c34] at H
 have c34b0 : decide (x76_5 < ((rd_L9 l0_2 x31_3).length : Int)) = true := decide_eq_true c34
 (try simp only [hl5_1] at c34b0)
 (try simp only [hl5_2] at c34b0)
 (try simp only [hl5_3] at c34b0)
 (try simp only [hl5_5] at c34b0)
 clear c34
 replace H := Option.bind_eq_some_iff.mp H
 obtain ⟨t149, A350, H⟩ := H
 replace H : (if t149 = true then (if (rd (rd_L9 l0_2 x31_3) x76_5) ≥ 0 then (if (rd (rd_L9 l0_2 x31_3) x76_5) < (x5_5.length : Int) then (if 0 ≤ (rd (rd_L9 l0_2 x31_3) x76_5) then (if (rd x5_5 (rd (rd_L9 l0_2 x31_3) x76_5)) > x9_4 then (topo_Parts.l1 k5 l1 (x5_5.set ((rd (rd_L9 l0_2 x31_3) x76_5) : Int).toNat x9_4) a0_0 l0_1 l0_2 l0_3) else (topo_Parts.l4 k5 l1 x5_5 x31_3 x9_4 l0_2 (l0_2.length : Int) x31_3 (rd_L9 l0_2 x31_3) ((rd_L9 l0_2 x31_3).length : Int) (wrap64 (x76_5 + 1)) a0_0 l0_1 l0_2 l0_3)) else (none)) else (topo_Parts.l4 k5 l1 x5_5 x31_3 x9_4 l0_2 (l0_2.length : Int) x31_3 (rd_L9 l0_2 x31_3) ((rd_L9 l0_2 x31_3).length : Int) (wrap64 (x76_5 + 1)) a0_0 l0_1 l0_2 l0_3)) else (topo_Parts.l4 k5 l1 x5_5 x31_3 x9_4 l0_2 (l0_2.length : Int) x31_3 (rd_L9 l0_2 x31_3) ((rd_L9 l0_2 x31_3).length : Int) (wrap64 (x76_5 + 1)) a0_0 l0_1 l0_2 l0_3)) else (topo_Parts.l4 k5 l1 x5_5 x31_3 x9_4 l0_2 (l0_2.length : Int) x31_3 (rd_L9 l0_2 x31_3) ((rd_L9 l0_2 x31_3).length : Int) (wrap64 (x76_5 + 1)) a0_0 l0_1 l0_2 l0_3)) = some r := H
 have A35 := Aside0.mk A350
 clear A350
 by_cases c36 : t149 = true
 rotate_left
 ·replace c36 := Bool.eq_false_iff.mpr c36
  subst c36
  have H1 : (topo_Parts.l4 k5 l1 x5_5 x31_3 x9_4 l0_2 (l0_2.length : Int) x31_3 (rd_L9 l0_2 x31_3) ((rd_L9 l0_2 x31_3).length : Int) (wrap64 (x76_5 + 1)) a0_0 l0_1 l0_2 l0_3) = some r := by rw [if_neg (show ¬ (false = true) by decide)] at H; exact H
  clear H
  have H := H1
  clear H1
  have H' := Aside0.mk H
  clear H
  have p148 : 0 ≤ (x76_5 : Int) := of_decide_eq_true (by first | (with_reducible assumption) | assumption)
  have q148 : x76_5 < ((rd_L9 l0_2 x31_3).length : Int) := of_decide_eq_true (by first | (with_reducible assumption) | assumption)
  obtain ⟨ad148, e148, hx148_0⟩ := Kd.at_int HR142_0.out x76_5 p148 q148
  cases e148
  replace hx148_0 := (HB.out.cell (World.block_lt_of_cell? w _ hx148_0)).trans hx148_0
  replace p148 := eq_true p148
  replace q148 := eq_true q148
  go_wp2_with (first | (with_reducible refine wp_label ?_) | (with_reducible refine wp_scope_straight ?_) | ((with_reducible refine gate_callee (f := 24) rfl ?_); refine goesL_ (some 84) rfl rfl Try.func24 (by kernel_rfl) rfl #[.slice A1 l1.length c1, .int .i64 x31_3, .int .i64 x76_5] rfl (by (try simp only [List.map_toArray, List.map_cons, List.map_nil]); first | done | rfl | (simp only [List.length_drop, List.length_take]; rfl)) ?_; (with_reducible refine (topo_is.calls _ _ l1 x31_3 x76_5 false _ ?side1 ?side2 A35.out).mono ?_); (case side1 => repeat (first | exact (Kd.C_below HR1.out HB.out) | (with_reducible refine Kd.C_alloc ?_ _) | (with_reducible refine Kd.C_drewN ?_ _) | (with_reducible refine Kd.C_drew ?_))); (case side2 => exact HC1.out); rintro e w' ⟨rfl, ⟨nd, rfl⟩⟩; refine ⟨_, rfl, ?_⟩) | (go_at_call 24; (with_reducible refine (topo_is.calls _ _ l1 x31_3 x76_5 false _ ?side1 ?side2 A35.out).mono ?_); (case side1 => repeat (first | exact (Kd.C_below HR1.out HB.out) | (with_reducible refine Kd.C_alloc ?_ _) | (with_reducible refine Kd.C_drewN ?_ _) | (with_reducible refine Kd.C_drew ?_))); (case side2 => exact HC1.out); rintro e w' ⟨rfl, ⟨nd, rfl⟩⟩))
  (try simp only [← hl5_5])
  go_roundg k5
  case measure => have := HK1.out; have := HK2.out; have := HK3.out; have := HK4.out; have := HK5.out; omega
  case rel => exact ⟨(x5_5), (wrap64 (x76_5 + 1)), (by first | rfl | (simp; done) | (simp [*]; done)), H', ⟨by have := HK1.out; have := HK2.out; have := HK3.out; have := HK4.out; have := HK5.out; omega⟩, ⟨by (try simp only [hl5_1]); (try simp only [hl5_2]); (try simp only [hl5_3]); (try simp only [hl5_5]); (with_reducible repeat (first | apply Kd.R_alloc | apply Kd.R_drewN | apply Kd.R_drew)); exact HO_5.out⟩, ⟨by (try simp only [hl5_1]); (try simp only [hl5_2]); (try simp only [hl5_3]); (try simp only [hl5_5]); (with_reducible repeat (first | refine blk_drewN ?_ _ | refine blk_drew ?_ | refine blk_alloc ?_ _)); exact BK137.out⟩, ⟨by repeat (first | (with_reducible first | exact HB.out | apply below_alloc | apply pw_below_drewN | apply below_drew1 | refine below_set ?_ GE137.out) | exact HB.out)⟩⟩
 subst c36
 have H1 : (if (rd (rd_L9 l0_2 x31_3) x76_5) ≥ 0 then (if (rd (rd_L9 l0_2 x31_3) x76_5) < (x5_5.length : Int) then (if 0 ≤ (rd (rd_L9 l0_2 x31_3) x76_5) then (if (rd x5_5 (rd (rd_L9 l0_2 x31_3) x76_5)) > x9_4 then (topo_Parts.l1 k5 l1 (x5_5.set ((rd (rd_L9 l0_2 x31_3) x76_5) : Int).toNat x9_4) a0_0 l0_1 l0_2 l0_3) else (topo_Parts.l4 k5 l1 x5_5 x31_3 x9_4 l0_2 (l0_2.length : Int) x31_3 (rd_L9 l0_2 x31_3) ((rd_L9 l0_2 x31_3).length : Int) (wrap64 (x76_5 + 1)) a0_0 l0_1 l0_2 l0_3)) else (none)) else (topo_Parts.l4 k5 l1 x5_5 x31_3 x9_4 l0_2 (l0_2.length : Int) x31_3 (rd_L9 l0_2 x31_3) ((rd_L9 l0_2 x31_3).length : Int) (wrap64 (x76_5 + 1)) a0_0 l0_1 l0_2 l0_3)) else (topo_Parts.l4 k5 l1 x5_5 x31_3 x9_4 l0_2 (l0_2.length : Int) x31_3 (rd_L9 l0_2 x31_3) ((rd_L9 l0_2 x31_3).length : Int) (wrap64 (x76_5 + 1)) a0_0 l0_1 l0_2 l0_3)) = some r := by rw [if_pos rfl] at H; exact H
 clear H
 have H := H1
 clear H1
 by_cases c37 : (rd (rd_L9 l0_2 x31_3) x76_5) ≥ 0
 rotate_left
 ·rw [if_neg c37] at H
  have c37b0 : decide (0 ≤ (rd (rd_L9 l0_2 x31_3) x76_5)) = false := decide_eq_false c37
  (try simp only [hl5_1] at c37b0)
  (try simp only [hl5_2] at c37b0)
  (try simp only [hl5_3] at c37b0)
  (try simp only [hl5_5] at c37b0)
  clear c37
  have H' := Aside0.mk H
  clear H
  have p148 : 0 ≤ (x76_5 : Int) := of_decide_eq_true (by first | (with_reducible assumption) | assumption)
  have q148 : x76_5 < ((rd_L9 l0_2 x31_3).length : Int) := of_decide_eq_true (by first | (with_reducible assumption) | assumption)
  obtain ⟨ad148, e148, hx148_0⟩ := Kd.at_int HR142_0.out x76_5 p148 q148
  cases e148
  replace hx148_0 := (HB.out.cell (World.block_lt_of_cell? w _ hx148_0)).trans hx148_0
  replace p148 := eq_true p148
  replace q148 := eq_true q148
  go_wp2_with (first | (with_reducible refine wp_label ?_) | (with_reducible refine wp_scope_straight ?_) | ((with_reducible refine gate_callee (f := 24) rfl ?_); refine goesL_ (some 84) rfl rfl Try.func24 (by kernel_rfl) rfl #[.slice A1 l1.length c1, .int .i64 x31_3, .int .i64 x76_5] rfl (by (try simp only [List.map_toArray, List.map_cons, List.map_nil]); first | done | rfl | (simp only [List.length_drop, List.length_take]; rfl)) ?_; (with_reducible refine (topo_is.calls _ _ l1 x31_3 x76_5 true _ ?side1 ?side2 A35.out).mono ?_); (case side1 => repeat (first | exact (Kd.C_below HR1.out HB.out) | (with_reducible refine Kd.C_alloc ?_ _) | (with_reducible refine Kd.C_drewN ?_ _) | (with_reducible refine Kd.C_drew ?_))); (case side2 => exact HC1.out); rintro e w' ⟨rfl, ⟨nd, rfl⟩⟩; refine ⟨_, rfl, ?_⟩) | (go_at_call 24; (with_reducible refine (topo_is.calls _ _ l1 x31_3 x76_5 true _ ?side1 ?side2 A35.out).mono ?_); (case side1 => repeat (first | exact (Kd.C_below HR1.out HB.out) | (with_reducible refine Kd.C_alloc ?_ _) | (with_reducible refine Kd.C_drewN ?_ _) | (with_reducible refine Kd.C_drew ?_))); (case side2 => exact HC1.out); rintro e w' ⟨rfl, ⟨nd, rfl⟩⟩))
  (try simp only [← hl5_5])
  go_roundg k5
  case measure => have := HK1.out; have := HK2.out; have := HK3.out; have := HK4.out; have := HK5.out; omega
  case rel => exact ⟨(x5_5), (wrap64 (x76_5 + 1)), (by first | rfl | (simp; done) | (simp [*]; done)), H', ⟨by have := HK1.out; have := HK2.out; have := HK3.out; have := HK4.out; have := HK5.out; omega⟩, ⟨by (try simp only [hl5_1]); (try simp only [hl5_2]); (try simp only [hl5_3]); (try simp only [hl5_5]); (with_reducible repeat (first | apply Kd.R_alloc | apply Kd.R_drewN | apply Kd.R_drew)); exact HO_5.out⟩, ⟨by (try simp only [hl5_1]); (try simp only [hl5_2]); (try simp only [hl5_3]); (try simp only [hl5_5]); (with_reducible repeat (first | refine blk_drewN ?_ _ | refine blk_drew ?_ | refine blk_alloc ?_ _)); exact BK137.out⟩, ⟨by repeat (first | (with_reducible first | exact HB.out | apply below_alloc | apply pw_below_drewN | apply below_drew1 | refine below_set ?_ GE137.out) | exact HB.out)⟩⟩
 rw [if_pos c37] at H
 have c37b0 : decide (0 ≤ (rd (rd_L9 l0_2 x31_3) x76_5)) = true := decide_eq_true c37
 (try simp only [hl5_1] at c37b0)
 (try simp only [hl5_2] at c37b0)
 (try simp only [hl5_3] at c37b0)
 (try simp only [hl5_5] at c37b0)
 clear c37
 by_cases c38 : (rd (rd_L9 l0_2 x31_3) x76_5) < (x5_5.length : Int)
 rotate_left
 ·rw [if_neg c38] at H
  have c38b0 : decide ((rd (rd_L9 l0_2 x31_3) x76_5) < (x5_5.length : Int)) = false := decide_eq_false c38
  (try simp only [hl5_1] at c38b0)
  (try simp only [hl5_2] at c38b0)
  (try simp only [hl5_3] at c38b0)
  (try simp only [hl5_5] at c38b0)
  clear c38
  have H' := Aside0.mk H
  clear H
  have p148 : 0 ≤ (x76_5 : Int) := of_decide_eq_true (by first | (with_reducible assumption) | assumption)
  have q148 : x76_5 < ((rd_L9 l0_2 x31_3).length : Int) := of_decide_eq_true (by first | (with_reducible assumption) | assumption)
  obtain ⟨ad148, e148, hx148_0⟩ := Kd.at_int HR142_0.out x76_5 p148 q148
  cases e148
  replace hx148_0 := (HB.out.cell (World.block_lt_of_cell? w _ hx148_0)).trans hx148_0
  replace p148 := eq_true p148
  replace q148 := eq_true q148
  go_wp2_with (first | (with_reducible refine wp_label ?_) | (with_reducible refine wp_scope_straight ?_) | ((with_reducible refine gate_callee (f := 24) rfl ?_); refine goesL_ (some 84) rfl rfl Try.func24 (by kernel_rfl) rfl #[.slice A1 l1.length c1, .int .i64 x31_3, .int .i64 x76_5] rfl (by (try simp only [List.map_toArray, List.map_cons, List.map_nil]); first | done | rfl | (simp only [List.length_drop, List.length_take]; rfl)) ?_; (with_reducible refine (topo_is.calls _ _ l1 x31_3 x76_5 true _ ?side1 ?side2 A35.out).mono ?_); (case side1 => repeat (first | exact (Kd.C_below HR1.out HB.out) | (with_reducible refine Kd.C_alloc ?_ _) | (with_reducible refine Kd.C_drewN ?_ _) | (with_reducible refine Kd.C_drew ?_))); (case side2 => exact HC1.out); rintro e w' ⟨rfl, ⟨nd, rfl⟩⟩; refine ⟨_, rfl, ?_⟩) | (go_at_call 24; (with_reducible refine (topo_is.calls _ _ l1 x31_3 x76_5 true _ ?side1 ?side2 A35.out).mono ?_); (case side1 => repeat (first | exact (Kd.C_below HR1.out HB.out) | (with_reducible refine Kd.C_alloc ?_ _) | (with_reducible refine Kd.C_drewN ?_ _) | (with_reducible refine Kd.C_drew ?_))); (case side2 => exact HC1.out); rintro e w' ⟨rfl, ⟨nd, rfl⟩⟩))
  (try simp only [← hl5_5])
  go_roundg k5
  case measure => have := HK1.out; have := HK2.out; have := HK3.out; have := HK4.out; have := HK5.out; omega
  case rel => exact ⟨(x5_5), (wrap64 (x76_5 + 1)), (by first | rfl | (simp; done) | (simp [*]; done)), H', ⟨by have := HK1.out; have := HK2.out; have := HK3.out; have := HK4.out; have := HK5.out; omega⟩, ⟨by (try simp only [hl5_1]); (try simp only [hl5_2]); (try simp only [hl5_3]); (try simp only [hl5_5]); (with_reducible repeat (first | apply Kd.R_alloc | apply Kd.R_drewN | apply Kd.R_drew)); exact HO_5.out⟩, ⟨by (try simp only [hl5_1]); (try simp only [hl5_2]); (try simp only [hl5_3]); (try simp only [hl5_5]); (with_reducible repeat (first | refine blk_drewN ?_ _ | refine blk_drew ?_ | refine blk_alloc ?_ _)); exact BK137.out⟩, ⟨by repeat (first | (with_reducible first | exact HB.out | apply below_alloc | apply pw_below_drewN | apply below_drew1 | refine below_set ?_ GE137.out) | exact HB.out)⟩⟩
 rw [if_pos c38] at H
 have c38b0 : decide ((rd (rd_L9 l0_2 x31_3) x76_5) < (x5_5.length : Int)) = true := decide_eq_true c38
 (try simp only [hl5_1] at c38b0)
 (try simp only [hl5_2] at c38b0)
 (try simp only [hl5_3] at c38b0)
 (try simp only [hl5_5] at c38b0)
 clear c38
 by_cases c39 : 0 ≤ (rd (rd_L9 l0_2 x31_3) x76_5)
 rotate_left
 ·rw [if_neg c39] at H
  exact absurd H (by simp)
 rw [if_pos c39] at H
 have c39b0 : decide (0 ≤ (rd (rd_L9 l0_2 x31_3) x76_5)) = true := decide_eq_true c39
 (try simp only [hl5_1] at c39b0)
 (try simp only [hl5_2] at c39b0)
 (try simp only [hl5_3] at c39b0)
 (try simp only [hl5_5] at c39b0)
 clear c39
 by_cases c40 : (rd x5_5 (rd (rd_L9 l0_2 x31_3) x76_5)) > x9_4
 rotate_left
 ·rw [if_neg c40] at H
  have c40b0 : decide (x9_4 < (rd x5_5 (rd (rd_L9 l0_2 x31_3) x76_5))) = false := decide_eq_false c40
  (try simp only [hl5_1] at c40b0)
  (try simp only [hl5_2] at c40b0)
  (try simp only [hl5_3] at c40b0)
  (try simp only [hl5_5] at c40b0)
  clear c40
  have H' := Aside0.mk H
  clear H
  have p148 : 0 ≤ (x76_5 : Int) := of_decide_eq_true (by first | (with_reducible assumption) | assumption)
  have q148 : x76_5 < ((rd_L9 l0_2 x31_3).length : Int) := of_decide_eq_true (by first | (with_reducible assumption) | assumption)
  obtain ⟨ad148, e148, hx148_0⟩ := Kd.at_int HR142_0.out x76_5 p148 q148
  cases e148
  replace hx148_0 := (HB.out.cell (World.block_lt_of_cell? w _ hx148_0)).trans hx148_0
  replace p148 := eq_true p148
  replace q148 := eq_true q148
  go_wp2_with (first | (with_reducible refine wp_label ?_) | (with_reducible refine wp_scope_straight ?_) | ((with_reducible refine gate_callee (f := 24) rfl ?_); refine goesL_ (some 84) rfl rfl Try.func24 (by kernel_rfl) rfl #[.slice A1 l1.length c1, .int .i64 x31_3, .int .i64 x76_5] rfl (by (try simp only [List.map_toArray, List.map_cons, List.map_nil]); first | done | rfl | (simp only [List.length_drop, List.length_take]; rfl)) ?_; (with_reducible refine (topo_is.calls _ _ l1 x31_3 x76_5 true _ ?side1 ?side2 A35.out).mono ?_); (case side1 => repeat (first | exact (Kd.C_below HR1.out HB.out) | (with_reducible refine Kd.C_alloc ?_ _) | (with_reducible refine Kd.C_drewN ?_ _) | (with_reducible refine Kd.C_drew ?_))); (case side2 => exact HC1.out); rintro e w' ⟨rfl, ⟨nd, rfl⟩⟩; refine ⟨_, rfl, ?_⟩; have p150 : 0 ≤ ((rd (rd_L9 l0_2 x31_3) x76_5) : Int) := of_decide_eq_true (by first | (with_reducible assumption) | assumption); have q150 : (rd (rd_L9 l0_2 x31_3) x76_5) < (x5_5.length : Int) := of_decide_eq_true (by first | (with_reducible assumption) | assumption); obtain ⟨ad150, e150, hx150_0⟩ := Kd.at_int (Kd.R_reads' HO_5.out).2.2 (rd (rd_L9 l0_2 x31_3) x76_5) p150 q150; cases e150; replace p150 := eq_true p150; replace q150 := eq_true q150) | (go_at_call 24; (with_reducible refine (topo_is.calls _ _ l1 x31_3 x76_5 true _ ?side1 ?side2 A35.out).mono ?_); (case side1 => repeat (first | exact (Kd.C_below HR1.out HB.out) | (with_reducible refine Kd.C_alloc ?_ _) | (with_reducible refine Kd.C_drewN ?_ _) | (with_reducible refine Kd.C_drew ?_))); (case side2 => exact HC1.out); rintro e w' ⟨rfl, ⟨nd, rfl⟩⟩; have p150 : 0 ≤ ((rd (rd_L9 l0_2 x31_3) x76_5) : Int) := of_decide_eq_true (by first | (with_reducible assumption) | assumption); have q150 : (rd (rd_L9 l0_2 x31_3) x76_5) < (x5_5.length : Int) := of_decide_eq_true (by first | (with_reducible assumption) | assumption); obtain ⟨ad150, e150, hx150_0⟩ := Kd.at_int (Kd.R_reads' HO_5.out).2.2 (rd (rd_L9 l0_2 x31_3) x76_5) p150 q150; cases e150; replace p150 := eq_true p150; replace q150 := eq_true q150))
  (try simp only [← hl5_5])
  go_roundg k5
  case measure => have := HK1.out; have := HK2.out; have := HK3.out; have := HK4.out; have := HK5.out; omega
  case rel => exact ⟨(x5_5), (wrap64 (x76_5 + 1)), (by first | rfl | (simp; done) | (simp [*]; done)), H', ⟨by have := HK1.out; have := HK2.out; have := HK3.out; have := HK4.out; have := HK5.out; omega⟩, ⟨by (try simp only [hl5_1]); (try simp only [hl5_2]); (try simp only [hl5_3]); (try simp only [hl5_5]); (with_reducible repeat (first | apply Kd.R_alloc | apply Kd.R_drewN | apply Kd.R_drew)); exact HO_5.out⟩, ⟨by (try simp only [hl5_1]); (try simp only [hl5_2]); (try simp only [hl5_3]); (try simp only [hl5_5]); (with_reducible repeat (first | refine blk_drewN ?_ _ | refine blk_drew ?_ | refine blk_alloc ?_ _)); exact BK137.out⟩, ⟨by repeat (first | (with_reducible first | exact HB.out | apply below_alloc | apply pw_below_drewN | apply below_drew1 | refine below_set ?_ GE137.out) | exact HB.out)⟩⟩
 rw [if_pos c40] at H
 have c40b0 : decide (x9_4 < (rd x5_5 (rd (rd_L9 l0_2 x31_3) x76_5))) = true := decide_eq_true c40
 (try simp only [hl5_1] at c40b0)
 (try simp only [hl5_2] at c40b0)
 (try simp only [hl5_3] at c40b0)
 (try simp only [hl5_5] at c40b0)
 clear c40
 obtain ⟨y151, hy151⟩ : ∃ y_ : List Int, y_ = (x5_5.set ((rd (rd_L9 l0_2 x31_3) x76_5) : Int).toNat x9_4) := ⟨_, rfl⟩
 replace H : (topo_Parts.l1 k5 l1 y151 a0_0 l0_1 l0_2 l0_3) = some r := by first | (rw [hy151]; with_reducible exact H) | (have H2_ := (Option.bind_some _ _).symm.trans H; rw [hy151]; with_reducible exact H2_) | (have H2_ := (Option.bind_some _ _).symm.trans H; with_reducible exact H2_) | with_reducible exact H | (rw [hy151]; exact H) | exact H
 have Ny151 := Aside0.mk hy151
 clear hy151
 have H' := Aside0.mk H
 clear H
 have p148 : 0 ≤ (x76_5 : Int) := of_decide_eq_true (by first | (with_reducible assumption) | assumption)
 have q148 : x76_5 < ((rd_L9 l0_2 x31_3).length : Int) := of_decide_eq_true (by first | (with_reducible assumption) | assumption)
 obtain ⟨ad148, e148, hx148_0⟩ := Kd.at_int HR142_0.out x76_5 p148 q148
 cases e148
 replace hx148_0 := (HB.out.cell (World.block_lt_of_cell? w _ hx148_0)).trans hx148_0
 replace p148 := eq_true p148
 replace q148 := eq_true q148
 go_wp2_with (first | (with_reducible refine wp_label ?_) | (with_reducible refine wp_scope_straight ?_) | ((with_reducible refine gate_callee (f := 24) rfl ?_); refine goesL_ (some 84) rfl rfl Try.func24 (by kernel_rfl) rfl #[.slice A1 l1.length c1, .int .i64 x31_3, .int .i64 x76_5] rfl (by (try simp only [List.map_toArray, List.map_cons, List.map_nil]); first | done | rfl | (simp only [List.length_drop, List.length_take]; rfl)) ?_; (with_reducible refine (topo_is.calls _ _ l1 x31_3 x76_5 true _ ?side1 ?side2 A35.out).mono ?_); (case side1 => repeat (first | exact (Kd.C_below HR1.out HB.out) | (with_reducible refine Kd.C_alloc ?_ _) | (with_reducible refine Kd.C_drewN ?_ _) | (with_reducible refine Kd.C_drew ?_))); (case side2 => exact HC1.out); rintro e w' ⟨rfl, ⟨nd, rfl⟩⟩; refine ⟨_, rfl, ?_⟩; (try (rw [drewN_self wr]; generalize hq_ : World.drewN wr _ = wr; have n0_ : Aside0 (Kd.R (Kd.int .i64) 3 wr w.heap.size (fun _ => True) (.slice Ao10 x5_5.length co10) x5_5) := ⟨by rw [← hq_]; exact (by (with_reducible repeat (first | apply Kd.R_alloc | apply Kd.R_drewN | apply Kd.R_drew)); exact HO_5.out)⟩; have n1_ : Aside0 (wr.heap[gb137]? = some (.cells #[.int .i64 a0_0, .slice A0_1 l0_1.length c0_1, .slice (some ad142) l0_2.length c0_2, .slice A0_3 l0_3.length c0_3] 26 (0, 0))) := ⟨by rw [← hq_]; exact (by (with_reducible repeat (first | refine blk_drewN ?_ _ | refine blk_drew ?_ | refine blk_alloc ?_ _)); exact BK137.out)⟩; have n2_ : Aside0 (Below w.heap.size w wr) := ⟨by rw [← hq_]; exact (by repeat (first | (with_reducible first | exact HB.out | apply below_alloc | apply pw_below_drewN | apply below_drew1 | refine below_set ?_ GE137.out) | exact HB.out))⟩; clear HO_5 BK137 HB hq_; have HO_5 := n0_; have BK137 := n1_; have HB := n2_; clear n0_ n1_ n2_)); have p150 : 0 ≤ ((rd (rd_L9 l0_2 x31_3) x76_5) : Int) := of_decide_eq_true (by first | (with_reducible assumption) | assumption); have q150 : (rd (rd_L9 l0_2 x31_3) x76_5) < (x5_5.length : Int) := of_decide_eq_true (by first | (with_reducible assumption) | assumption); obtain ⟨ad150, e150, hx150_0⟩ := Kd.at_int (Kd.R_reads' HO_5.out).2.2 (rd (rd_L9 l0_2 x31_3) x76_5) p150 q150; cases e150; replace p150 := eq_true p150; replace q150 := eq_true q150; have p41 : 0 ≤ ((rd (rd_L9 l0_2 x31_3) x76_5) : Int) := of_decide_eq_true (by first | (with_reducible assumption) | assumption); have q41 : ((rd (rd_L9 l0_2 x31_3) x76_5) : Int) < ((x5_5.length : Int) : Int) := of_decide_eq_true (by first | (with_reducible assumption) | assumption); obtain ⟨go41, co41, eo41, gb41, gl41, cl41, HG41⟩ := Kd.R_form HO_5.out (by omega); (first | cases eo41 | (injection eo41 with ea_ en_ ec_; (first | subst ea_ | (injection ea_ with ea_; subst ea_)); subst ec_; clear en_)); have GB41 := Aside0.mk gb41; have GG41 := Aside0.mk HG41; clear gb41 gl41 HG41; (first | simp only [add_plain] at hx150_0 | skip); obtain ⟨hx41_0, hf41_0⟩ := Kd.R_celln 0 HO_5.out ((rd (rd_L9 l0_2 x31_3) x76_5) : Int) p41 q41; replace p41 := eq_true p41; replace q41 := eq_true q41; obtain ⟨hy42_, hz42_⟩ := Kd.R_celln 0 HO_5.out ((rd (rd_L9 l0_2 x31_3) x76_5) : Int) (of_decide_eq_true (by first | (with_reducible assumption) | assumption)) (of_decide_eq_true (by first | (with_reducible assumption) | assumption)); have HP42 := Kd.R_putg HO_5.out ((rd (rd_L9 l0_2 x31_3) x76_5) : Int) x9_4) | ((with_reducible refine gate_store (t := 3) (p := 106) rfl ?_); refine store_event (t := 3) (p := 106) (v := ?vo_w43) (w1 := (wr.setCell ⟨go41, ((rd (rd_L9 l0_2 x31_3) x76_5) : Int).toNat, none⟩ (.int .i64 x9_4))) ?hg ?ho ?hn ?hr ?_; (case ho => rfl); (case hg => rfl); (case hn => rfl); (case hr => first | (go_simp; done) | (go_simp; rfl)); intro w43 hw; have hg : wr.grownBy w43 (some go41) := (by rw [hw]; exact HP42.2); have hp_ : Kd.R (Kd.int .i64) 3 w43 w.heap.size (fun _ => True) (.slice (some ⟨go41, 0, none⟩) x5_5.length co10) y151 := (by rw [hw, Ny151.out]; exact HP42.1); clear HP42; have n0_ := Aside0.mk (hp_); have n1_ := Aside0.mk (blk_grown (g := gb137) (o := .cells #[.int .i64 a0_0, .slice A0_1 l0_1.length c0_1, .slice (some ad142) l0_2.length c0_2, .slice A0_3 l0_3.length c0_3] 26 (0, 0)) (by (with_reducible repeat (first | refine blk_drewN ?_ _ | refine blk_drew ?_ | refine blk_alloc ?_ _)); exact BK137.out) hg (Kd.R_ne HO_5.out BK137.out (by decide))); have n2_ := Aside0.mk ((by rw [hw]; exact below_set (HB.out) GB41.out : Below w.heap.size w w43)); clear HO_5; clear BK137; clear HB; have HO_5 := n0_; have BK137 := n1_; have HB := n2_; clear n0_ n1_ n2_; clear hg hw hp_) | (go_at_call 24; (with_reducible refine (topo_is.calls _ _ l1 x31_3 x76_5 true _ ?side1 ?side2 A35.out).mono ?_); (case side1 => repeat (first | exact (Kd.C_below HR1.out HB.out) | (with_reducible refine Kd.C_alloc ?_ _) | (with_reducible refine Kd.C_drewN ?_ _) | (with_reducible refine Kd.C_drew ?_))); (case side2 => exact HC1.out); rintro e w' ⟨rfl, ⟨nd, rfl⟩⟩; (try (rw [drewN_self wr]; generalize hq_ : World.drewN wr _ = wr; have n0_ : Aside0 (Kd.R (Kd.int .i64) 3 wr w.heap.size (fun _ => True) (.slice Ao10 x5_5.length co10) x5_5) := ⟨by rw [← hq_]; exact (by (with_reducible repeat (first | apply Kd.R_alloc | apply Kd.R_drewN | apply Kd.R_drew)); exact HO_5.out)⟩; have n1_ : Aside0 (wr.heap[gb137]? = some (.cells #[.int .i64 a0_0, .slice A0_1 l0_1.length c0_1, .slice (some ad142) l0_2.length c0_2, .slice A0_3 l0_3.length c0_3] 26 (0, 0))) := ⟨by rw [← hq_]; exact (by (with_reducible repeat (first | refine blk_drewN ?_ _ | refine blk_drew ?_ | refine blk_alloc ?_ _)); exact BK137.out)⟩; have n2_ : Aside0 (Below w.heap.size w wr) := ⟨by rw [← hq_]; exact (by repeat (first | (with_reducible first | exact HB.out | apply below_alloc | apply pw_below_drewN | apply below_drew1 | refine below_set ?_ GE137.out) | exact HB.out))⟩; clear HO_5 BK137 HB hq_; have HO_5 := n0_; have BK137 := n1_; have HB := n2_; clear n0_ n1_ n2_)); have p150 : 0 ≤ ((rd (rd_L9 l0_2 x31_3) x76_5) : Int) := of_decide_eq_true (by first | (with_reducible assumption) | assumption); have q150 : (rd (rd_L9 l0_2 x31_3) x76_5) < (x5_5.length : Int) := of_decide_eq_true (by first | (with_reducible assumption) | assumption); obtain ⟨ad150, e150, hx150_0⟩ := Kd.at_int (Kd.R_reads' HO_5.out).2.2 (rd (rd_L9 l0_2 x31_3) x76_5) p150 q150; cases e150; replace p150 := eq_true p150; replace q150 := eq_true q150; have p41 : 0 ≤ ((rd (rd_L9 l0_2 x31_3) x76_5) : Int) := of_decide_eq_true (by first | (with_reducible assumption) | assumption); have q41 : ((rd (rd_L9 l0_2 x31_3) x76_5) : Int) < ((x5_5.length : Int) : Int) := of_decide_eq_true (by first | (with_reducible assumption) | assumption); obtain ⟨go41, co41, eo41, gb41, gl41, cl41, HG41⟩ := Kd.R_form HO_5.out (by omega); (first | cases eo41 | (injection eo41 with ea_ en_ ec_; (first | subst ea_ | (injection ea_ with ea_; subst ea_)); subst ec_; clear en_)); have GB41 := Aside0.mk gb41; have GG41 := Aside0.mk HG41; clear gb41 gl41 HG41; (first | simp only [add_plain] at hx150_0 | skip); obtain ⟨hx41_0, hf41_0⟩ := Kd.R_celln 0 HO_5.out ((rd (rd_L9 l0_2 x31_3) x76_5) : Int) p41 q41; replace p41 := eq_true p41; replace q41 := eq_true q41; obtain ⟨hy42_, hz42_⟩ := Kd.R_celln 0 HO_5.out ((rd (rd_L9 l0_2 x31_3) x76_5) : Int) (of_decide_eq_true (by first | (with_reducible assumption) | assumption)) (of_decide_eq_true (by first | (with_reducible assumption) | assumption)); have HP42 := Kd.R_putg HO_5.out ((rd (rd_L9 l0_2 x31_3) x76_5) : Int) x9_4))
 (try simp only [← hl5_2, ← hl5_3, ← hl5_5])
 go_roundg k5
 case measure => have := HK1.out; have := HK2.out; have := HK3.out; have := HK4.out; have := HK5.out; omega
 case rel => exact ⟨(y151), H', ⟨by have := HK1.out; have := HK2.out; have := HK3.out; have := HK4.out; have := HK5.out; omega⟩, ⟨by (try simp only [hl5_1]); (try simp only [hl5_2]); (try simp only [hl5_3]); (try simp only [hl5_5]); (with_reducible repeat (first | apply Kd.R_alloc | apply Kd.R_drewN | apply Kd.R_drew)); exact HO_5.out⟩, ⟨by (try simp only [hl5_1]); (try simp only [hl5_2]); (try simp only [hl5_3]); (try simp only [hl5_5]); (with_reducible repeat (first | refine blk_drewN ?_ _ | refine blk_drew ?_ | refine blk_alloc ?_ _)); exact BK137.out⟩, ⟨by repeat (first | (with_reducible first | exact HB.out | apply below_alloc | apply pw_below_drewN | apply below_drew1 | refine below_set ?_ GE137.out) | exact HB.out)⟩⟩
end Go.Proofs.Ytkgfpagfmdefgaa.OTopoRight
