/- What Go functions that the law ScriptReads uses come to, and why: part 8. Made out of the kit's print by a program of this session (wip/tools/stub.py, splice.py), functions that it does not take told by hand. -/
import Derived.Test.YtiikllgppmmiaaaDoorOScriptReadsx7
namespace Go.Proofs.YtiikllgppmmiaaaDoor.OScriptReads
open Go.RowKit Go.Proofs.YtiikllgppmmiaaaDoorW.PrintWords Go.Proofs.YtiikllgppmmiaaaDoorW.PrintLast Go.Proofs.YtiikllgppmmiaaaDoorW.PrintMore
attribute [local go_sem] max2_int min2_int max_two min_two max_three min_three max_four min_four   -- for this text's walks alone
set_option linter.unusedVariables false
set_option linter.unusedSimpArgs false

/-! ### wire_Put_uint16: function 38 -/
def wire_Put_uint16.l0 : Nat → Int → List Int → Int → Option (List Int)
  | 0, _, _, _ => none
  | k + 1, x1, x7, x8 => if x8 > 0 then (if (wrap64 (x8 - 1)) < 8 then (if 0 ≤ (wrap64 (8 * (wrap64 (x8 - 1)))) then (if x7.length < 140737488355328 then (wire_Put_uint16.l0 k x1 (x7 ++ [(shr .u64 (IntKind.u64.wrap (x1)) (wrap64 (8 * (wrap64 (x8 - 1))))) % 256]) (wrap64 (x8 - 1))) else (none)) else (none)) else (if x7.length < 140737488355328 then (wire_Put_uint16.l0 k x1 (x7 ++ [0]) (wrap64 (x8 - 1))) else (none))) else (some x7)
def wire_Put_uint16.f (k : Nat) (l0 : List Int) (a1 : Int) (a2 : Int) : Option (List Int) := (some (([] : List Int) : List Int)).bind fun y200 => (if y200.length + l0.length < 140737488355328 then (wire_Put_uint16.l0 k a1 (y200 ++ l0) a2) else (none))
theorem wire_Put_uint16.mono_l : ∀ k, (∀ y0 y1 y2, LeO (wire_Put_uint16.l0 k y0 y1 y2) (wire_Put_uint16.l0 (k + 1) y0 y1 y2))
  | 0 => fun _ _ _ r h => by simp [wire_Put_uint16.l0] at h
  | k + 1 => by
    have ih0 := wire_Put_uint16.mono_l k
    · intro y0 y1 y2
      unfold wire_Put_uint16.l0
      repeat' first
      | (with_reducible apply ih0)
      | (with_reducible exact LeO.refl _)
      | (with_reducible exact LeO.none _)
      | (with_reducible refine LeO.ite ?_ ?_)
      | (with_reducible refine LeO.bind ?_ (fun _ => ?_))
      | apply ih0
      | exact LeO.none _
      | refine LeO.ite ?_ ?_
      | refine LeO.bind ?_ (fun _ => ?_)
theorem wire_Put_uint16.mono : ∀ a0 a1 a2 k, LeO (wire_Put_uint16.f k a0 a1 a2) (wire_Put_uint16.f (k + 1) a0 a1 a2) := by
  intro a0 a1 a2 k
  have ih0 := wire_Put_uint16.mono_l k
  unfold wire_Put_uint16.f
  repeat' first
      | (with_reducible apply ih0)
      | (with_reducible exact LeO.refl _)
      | (with_reducible exact LeO.none _)
      | (with_reducible refine LeO.ite ?_ ?_)
      | (with_reducible refine LeO.bind ?_ (fun _ => ?_))
      | apply ih0
      | exact LeO.none _
      | refine LeO.ite ?_ ?_
      | refine LeO.bind ?_ (fun _ => ?_)
set_option maxHeartbeats 8000000 in
set_option maxRecDepth 100000 in
theorem wire_Put_uint16.calls (k : Nat) (A0 : Option Addr) (c0 : Nat) (l0 : List Int) (a1 : Int) (a2 : Int) (r : List Int) (w : World) (hr0 : Kd.C (Kd.int .u8) w A0 l0.length l0) (hc0 : l0.length ≤ c0) (h : wire_Put_uint16.f k l0 a1 a2 = some r) :
  Calls Tryd.prog 38 #[.slice A0 l0.length c0, .int .u16 a1, .int .i64 a2] w fun e w' => ∃ v0_ : Value, e = .returned (v0_) ∧ Kd.R (Kd.int .u8) 5 w' w.heap.size (fun _ => True) v0_ r ∧ Below w.heap.size w w' := by
 have HR0 := Aside0.mk hr0
 have HC0 := Aside0.mk hc0
 clear hr0 hc0
 have HB := Aside0.mk (Below.refl w.heap.size w)
 have H : ((some (([] : List Int) : List Int)).bind fun y200 => (if y200.length + l0.length < 140737488355328 then (wire_Put_uint16.l0 k a1 (y200 ++ l0) a2) else (none))) = some r := h
 clear h
 obtain ⟨y200, hy200⟩ : ∃ y_ : List Int, y_ = (([] : List Int)) := ⟨_, rfl⟩
 replace H : (if y200.length + l0.length < 140737488355328 then (wire_Put_uint16.l0 k a1 (y200 ++ l0) a2) else (none)) = some r := by first | (rw [hy200]; with_reducible exact H) | (have H2_ := (Option.bind_some _ _).symm.trans H; rw [hy200]; with_reducible exact H2_) | (have H2_ := (Option.bind_some _ _).symm.trans H; with_reducible exact H2_) | with_reducible exact H | (rw [hy200]; exact H) | exact H
 have Ny200 := Aside0.mk hy200
 clear hy200
 by_cases c4 : y200.length + l0.length < 140737488355328
 rotate_left
 ·rw [if_neg c4] at H
  exact absurd H (by simp)
 rw [if_pos c4] at H
 have LMc4 := Aside0.mk c4
 clear c4
 obtain ⟨y203, hy203⟩ : ∃ y_ : List Int, y_ = (y200 ++ l0) := ⟨_, rfl⟩
 replace H : (wire_Put_uint16.l0 k a1 y203 a2) = some r := by first | (rw [hy203]; with_reducible exact H) | (have H2_ := (Option.bind_some _ _).symm.trans H; rw [hy203]; with_reducible exact H2_) | (have H2_ := (Option.bind_some _ _).symm.trans H; with_reducible exact H2_) | with_reducible exact H | (rw [hy203]; exact H) | exact H
 have Ny203 := Aside0.mk hy203
 clear hy203
 have H' := Aside0.mk H
 clear H
 go_enter Tryd.func38, Tryd.ntmps38
 go_wp2_with (first | ((with_reducible refine gate_dst (N := 11) rfl ?_); refine Kd.R_lit (Kd.int .u8) _ 5 ?hg (N := 11) ?hd (xs := ([] : List Int)) (inner := []) (ok := fun _ => True) (okp := fun _ => True) ?hr ?hp (fun _ hk => hk) trivial (Below.refl _ _) (Nat.le_refl _) (by simp) ?_; (case hd => rfl); (case hg => rfl); (case hr => first | (go_simp; done) | (go_simp; rfl)); (case hp => exact (Reps.none _ _)); intro v201 w5 ho6 hb hg_ hnew_; clear hg_ hnew_; (first | rw [← Ny200.out] at ho6 | (simp only [Int.reduceToNat] at ho6; rw [← Ny200.out] at ho6)); have HO202 := Aside0.mk (Kd.R_lower ho6 (below_size bB)); replace HB := Aside0.mk (below_step bB hb); clear hb ho6) | ((with_reducible refine gate_builtin (b := .append) (xs := #[.tmp 11, .tmp 12]) rfl ?_); at_builtin; refine Kd.R_append_rows (Kd.int .u8) (w0 := w) w.heap.size rfl (.tmp 11) (.tmp 12) 22 5 (.int .u8 0) 1 rfl Tryd.underlying22 info5 rfl (by decide) (by omega) v201 y200 l0 _ _ _ (fun _ => True) (fun _ => False) rfl rfl ?aO ?aR (fun _ _ h => h) (fun _ h => h.elim) ?aF ?aB ?aS ?aL ?_; (case aR => repeat (first | exact (Kd.C_below HR0.out HB.out) | (with_reducible refine Kd.C_alloc ?_ _) | (with_reducible refine Kd.C_drewN ?_ _) | (with_reducible refine Kd.C_drew ?_))); (case aB => exact bB); (case aF => exact (fun _ _ => trivial)); (case aO => exact (bN HO202.out)); (case aS => exact (below_size bB)); (case aL => have := LMc4.out; omega); intro v204 w7 ho hb hg hat; rw [← Ny203.out] at ho; replace HB := Aside0.mk (hb); have HO205 := Aside0.mk (ho); clear HO202; clear ho hb hg hat))
 go_loopg [7, 8] k (fun kq v7 v8 w' => ∃ (x7_1 : List Int) (x8_1 : Int), v8 = .int .i64 x8_1 ∧ Aside0 (wire_Put_uint16.l0 kq a1 x7_1 x8_1 = some r) ∧ Aside0 (kq ≤ k) ∧ Aside0 (Kd.R (Kd.int .u8) 5 w' w.heap.size (fun _ => True) v7 x7_1) ∧ Aside0 (Below w.heap.size w w'))
 case atStart => exact ⟨(y203), (a2), (by first | rfl | (simp; done) | (simp [*]; done)), H', ⟨Nat.le_refl _⟩, ⟨bN HO205.out⟩, ⟨bB⟩⟩
 clear H'
 try clear p2
 try clear c4
 obtain ⟨x7_1, x8_1, rfl, HA, HK1, HO_7, HB⟩ := hrel
 cases gk with
 | zero => exact absurd HA.out (by simp [wire_Put_uint16.l0])
 | succ k1 => ?_
 have H := HA.out
 clear HA
 simp only [wire_Put_uint16.l0] at H
 by_cases c8 : x8_1 > 0
 rotate_left
 ·rw [if_neg c8] at H
  have c8b0 : decide (0 < x8_1) = false := decide_eq_false c8
  clear c8
  obtain rfl := Option.some.inj H
  go_wp2
  go_ret
  exact ⟨_, by first | rfl | (simp [errW_none, errW_some] <;> rfl) | (simp [*, errW_none, errW_some] <;> rfl), by refine bN ?_; exact HO_7.out, by exact bB⟩
 rw [if_pos c8] at H
 have c8b0 : decide (0 < x8_1) = true := decide_eq_true c8
 clear c8
 by_cases c9 : (wrap64 (x8_1 - 1)) < 8
 rotate_left
 ·rw [if_neg c9] at H
  have c9b0 : decide ((wrap64 (x8_1 - 1)) < 8) = false := decide_eq_false c9
  clear c9
  by_cases c15 : x7_1.length < 140737488355328
  rotate_left
  ·rw [if_neg c15] at H
   exact absurd H (by simp)
  rw [if_pos c15] at H
  have LMc15 := Aside0.mk c15
  clear c15
  obtain ⟨y209, hy209⟩ : ∃ y_ : List Int, y_ = (x7_1 ++ [0]) := ⟨_, rfl⟩
  replace H : (wire_Put_uint16.l0 k1 a1 y209 (wrap64 (x8_1 - 1))) = some r := by first | (rw [hy209]; with_reducible exact H) | (have H2_ := (Option.bind_some _ _).symm.trans H; rw [hy209]; with_reducible exact H2_) | (have H2_ := (Option.bind_some _ _).symm.trans H; with_reducible exact H2_) | with_reducible exact H | (rw [hy209]; exact H) | exact H
  have Ny209 := Aside0.mk hy209
  clear hy209
  have H' := Aside0.mk H
  clear H
  go_wp2_with (first | ((with_reducible refine gate_builtin (b := .append) (xs := #[.tmp 29, .tmp 32]) rfl ?_); at_builtin; refine Kd.R_append (Kd.int .u8) (w0 := w) w.heap.size rfl (.tmp 29) (.tmp 32) 22 5 (.int .u8 0) 1 rfl Tryd.underlying22 info5 rfl (by decide) (by omega) u7 x7_1 0 [.int .u8 0] (fun _ => True) (fun _ => False) rfl rfl ?aP (fun _ hk => hk.elim) ?aF ?aO ?aB ?aS ?aL ?_; (case aP => exact rfl); (case aB => exact bB); (case aF => exact (fun _ _ => trivial)); (case aO => exact (bN HO_7.out)); (case aS => exact (below_size bB)); (case aL => have := LMc15.out; omega); intro v210 w16 ho hb hg hat; rw [← Ny209.out] at ho; replace HB := Aside0.mk (hb); have HO211 := Aside0.mk (ho); clear HO_7; clear ho hb hg hat))
  go_roundg k1
  case measure => have := HK1.out; omega
  case rel => exact ⟨(y209), (wrap64 (x8_1 - 1)), (by first | rfl | (simp; done) | (simp [*]; done)), H', ⟨by have := HK1.out; omega⟩, ⟨bN HO211.out⟩, ⟨bB⟩⟩
 rw [if_pos c9] at H
 have c9b0 : decide ((wrap64 (x8_1 - 1)) < 8) = true := decide_eq_true c9
 clear c9
 obtain ⟨ji10, hji10⟩ : ∃ j_ : Int, (wrap64 (8 * (wrap64 (x8_1 - 1)))) = j_ := ⟨_, rfl⟩
 replace H : (if 0 ≤ (ji10) then (if x7_1.length < 140737488355328 then (wire_Put_uint16.l0 k1 a1 (x7_1 ++ [(shr .u64 (IntKind.u64.wrap (a1)) (ji10)) % 256]) (wrap64 (x8_1 - 1))) else (none)) else (none)) = some r := by first | (rw [hji10] at H; exact H) | (simp only [hji10] at H ⊢; exact H)
 have hji10w : (IntKind.i64.wrap (8 * (wrap64 (x8_1 - 1)))) = ji10 := (i64_w _).trans hji10
 by_cases c11 : 0 ≤ (ji10)
 rotate_left
 ·rw [if_neg c11] at H
  exact absurd H (by simp)
 rw [if_pos c11] at H
 have c11b0 := eq_true c11
 have c11b1 : decide (0 ≤ (ji10)) = true := decide_eq_true c11
 clear c11
 obtain ⟨ji12, hji12⟩ : ∃ j_ : Int, (shr .u64 (IntKind.u64.wrap (a1)) (ji10)) = j_ := ⟨_, rfl⟩
 replace H : (if x7_1.length < 140737488355328 then (wire_Put_uint16.l0 k1 a1 (x7_1 ++ [(ji12) % 256]) (wrap64 (x8_1 - 1))) else (none)) = some r := by first | (rw [hji12] at H; exact H) | (simp only [hji12] at H ⊢; exact H)
 have hji12_ : ((IntKind.u64.wrap (a1)) / 2 ^ min (ji10).toNat 64) = ji12 := hji12
 have hji12z : (ji10) ≤ 64 → ((IntKind.u64.wrap (a1)) / 2 ^ (ji10).toNat) = ji12 := shr_small hji12
 by_cases c13 : x7_1.length < 140737488355328
 rotate_left
 ·rw [if_neg c13] at H
  exact absurd H (by simp)
 rw [if_pos c13] at H
 have LMc13 := Aside0.mk c13
 clear c13
 obtain ⟨y206, hy206⟩ : ∃ y_ : List Int, y_ = (x7_1 ++ [(ji12) % 256]) := ⟨_, rfl⟩
 replace H : (wire_Put_uint16.l0 k1 a1 y206 (wrap64 (x8_1 - 1))) = some r := by first | (rw [hy206]; with_reducible exact H) | (have H2_ := (Option.bind_some _ _).symm.trans H; rw [hy206]; with_reducible exact H2_) | (have H2_ := (Option.bind_some _ _).symm.trans H; with_reducible exact H2_) | with_reducible exact H | (rw [hy206]; exact H) | exact H
 have Ny206 := Aside0.mk hy206
 clear hy206
 have H' := Aside0.mk H
 clear H
 go_wp2_with (first | ((with_reducible refine gate_builtin (b := .append) (xs := #[.tmp 29, .tmp 32]) rfl ?_); at_builtin; refine Kd.R_append (Kd.int .u8) (w0 := w) w.heap.size rfl (.tmp 29) (.tmp 32) 22 5 (.int .u8 0) 1 rfl Tryd.underlying22 info5 rfl (by decide) (by omega) u7 x7_1 ((ji12) % 256) [.int .u8 ((ji12) % 256)] (fun _ => True) (fun _ => False) rfl rfl ?aP (fun _ hk => hk.elim) ?aF ?aO ?aB ?aS ?aL ?_; (case aP => exact rfl); (case aB => exact bB); (case aF => exact (fun _ _ => trivial)); (case aO => exact (bN HO_7.out)); (case aS => exact (below_size bB)); (case aL => have := LMc13.out; omega); intro v207 w14 ho hb hg hat; rw [← Ny206.out] at ho; replace HB := Aside0.mk (hb); have HO208 := Aside0.mk (ho); clear HO_7; clear ho hb hg hat))
 go_roundg k1
 case measure => have := HK1.out; omega
 case rel => exact ⟨(y206), (wrap64 (x8_1 - 1)), (by first | rfl | (simp; done) | (simp [*]; done)), H', ⟨by have := HK1.out; omega⟩, ⟨bN HO208.out⟩, ⟨bB⟩⟩
end Go.Proofs.YtiikllgppmmiaaaDoor.OScriptReads
