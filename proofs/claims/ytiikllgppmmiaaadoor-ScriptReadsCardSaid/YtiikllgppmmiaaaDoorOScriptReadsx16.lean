/- What Go functions that the law ScriptReads uses come to, and why: part 16. Made out of the kit's print by a program of this session (wip/tools/stub.py, splice.py), functions that it does not take told by hand. -/
import Derived.Test.YtiikllgppmmiaaaDoorOScriptReadsx15
namespace Go.Proofs.YtiikllgppmmiaaaDoor.OScriptReads
open Go.RowKit Go.Proofs.YtiikllgppmmiaaaDoorW.PrintWords Go.Proofs.YtiikllgppmmiaaaDoorW.PrintLast Go.Proofs.YtiikllgppmmiaaaDoorW.PrintMore
attribute [local go_sem] max2_int min2_int max_two min_two max_three min_three max_four min_four   -- for this text's walks alone
set_option linter.unusedVariables false
set_option linter.unusedSimpArgs false

/-! ### treelineref01_Put: function 35 -/
def treelineref01_Put.l0 : Nat → Int → List Int → Int → Option (List Int)
  | 0, _, _, _ => none
  | k + 1, x0, x3, x4 => if x4 ≥ 0 then (if 0 ≤ x4 then (if x4 < (x3.length : Int) then (treelineref01_Put.l0 k (IntKind.u64.wrap (Int.tdiv x0 256)) (x3.set (x4 : Int).toNat ((Int.tmod x0 256) % 256)) (wrap64 (x4 - 1))) else (none)) else (none)) else (some x3)
def treelineref01_Put.f (k : Nat) (a0 : Int) : Option (List Int) := (treelineref01_Least.f a0).bind fun t328 => (if 6 ≤ 281474976710656 then (treelineref01_Put.l0 k t328 (List.replicate 6 0) 5) else (none))
theorem treelineref01_Put.mono_l : ∀ k, (∀ y0 y1 y2, LeO (treelineref01_Put.l0 k y0 y1 y2) (treelineref01_Put.l0 (k + 1) y0 y1 y2))
  | 0 => fun _ _ _ r h => by simp [treelineref01_Put.l0] at h
  | k + 1 => by
    have ih0 := treelineref01_Put.mono_l k
    · intro y0 y1 y2
      unfold treelineref01_Put.l0
      repeat' first
      | (with_reducible apply ih0)
      | (with_reducible exact LeO.refl _)
      | (with_reducible exact LeO.none _)
      | (with_reducible refine LeO.ite ?_ ?_)
      | (with_reducible refine LeO.bind ?_ (fun _ => ?_))
      | apply ih0
      | exact LeO.none _
      | refine LeO.ite ?_ ?_
      | refine LeO.bind ?_ (fun _ => ?_)
theorem treelineref01_Put.mono : ∀ a0 k, LeO (treelineref01_Put.f k a0) (treelineref01_Put.f (k + 1) a0) := by
  intro a0 k
  have ih0 := treelineref01_Put.mono_l k
  unfold treelineref01_Put.f
  repeat' first
      | (with_reducible apply ih0)
      | (with_reducible exact LeO.refl _)
      | (with_reducible exact LeO.none _)
      | (with_reducible refine LeO.ite ?_ ?_)
      | (with_reducible refine LeO.bind ?_ (fun _ => ?_))
      | apply ih0
      | exact LeO.none _
      | refine LeO.ite ?_ ?_
      | refine LeO.bind ?_ (fun _ => ?_)
set_option maxHeartbeats 8000000 in
set_option maxRecDepth 100000 in
theorem treelineref01_Put.calls (k : Nat) (a0 : Int) (r : List Int) (w : World) (h : treelineref01_Put.f k a0 = some r) :
  Calls Tryd.prog 35 #[.int .u64 a0] w fun e w' => ∃ v0_ : Value, e = .returned (v0_) ∧ Kd.R (Kd.int .u8) 5 w' w.heap.size (fun _ => True) v0_ r ∧ Below w.heap.size w w' := by
 have HB := Aside0.mk (Below.refl w.heap.size w)
 have H : ((treelineref01_Least.f a0).bind fun t328 => (if 6 ≤ 281474976710656 then (treelineref01_Put.l0 k t328 (List.replicate 6 0) 5) else (none))) = some r := h
 clear h
 replace H := Option.bind_eq_some_iff.mp H
 obtain ⟨t328, A20, H⟩ := H
 (try dsimp only at H)
 have A2 := Aside0.mk A20
 clear A20
 by_cases c3 : 6 ≤ 281474976710656
 rotate_left
 ·rw [if_neg c3] at H
  exact absurd H (by simp)
 rw [if_pos c3] at H
 have c3b0 := eq_true c3
 have c3b1 : decide (6 ≤ 281474976710656) = true := decide_eq_true c3
 clear c3
 obtain ⟨y329, hy329⟩ : ∃ y_ : List Int, y_ = (List.replicate 6 0) := ⟨_, rfl⟩
 replace H : (treelineref01_Put.l0 k t328 y329 5) = some r := by first | (rw [hy329]; with_reducible exact H) | (have H2_ := (Option.bind_some _ _).symm.trans H; rw [hy329]; with_reducible exact H2_) | (have H2_ := (Option.bind_some _ _).symm.trans H; with_reducible exact H2_) | with_reducible exact H | (rw [hy329]; exact H) | exact H
 have Ny329 := Aside0.mk hy329
 clear hy329
 have H' := Aside0.mk H
 clear H
 go_enter Tryd.func35, Tryd.ntmps35
 go_wp2_with (first | ((with_reducible refine gate_callee (f := 39) rfl ?_); refine gL (some 6) Tryd.func39 #[.int .u64 a0] ?_; (with_reducible refine (treelineref01_Least.calls a0 t328 _ A2.out).mono ?_); rintro e w' ⟨rfl, ⟨nd, rfl⟩⟩; refine ⟨_, rfl, ?_⟩) | ((with_reducible refine gate_dst (N := 7) rfl ?_); refine Kd.R_make (Kd.int .u8) _ 5 rfl (N := 7) rfl 22 _ _ rfl 6 rfl rfl Tryd.underlying22 (.int .u8 0) 1 info5 rfl (by decide) (by omega) 0 (ok := fun _ => True) (okp := fun _ => True) rfl (fun _ hk => hk) trivial (by omega) (by omega) (Below.refl _ _) (Nat.le_refl _) ?_; intro v330 w4 ho5 hb hg_ hnew_; clear hg_ hnew_; (first | rw [← Ny329.out] at ho5 | (simp only [Int.reduceToNat] at ho5; rw [← Ny329.out] at ho5)); have HO331 := Aside0.mk (Kd.R_lower ho5 (below_size bB)); replace HB := Aside0.mk (below_step bB hb); clear hb ho5) | (go_at_call 39; (with_reducible refine (treelineref01_Least.calls a0 t328 _ A2.out).mono ?_); rintro e w' ⟨rfl, ⟨nd, rfl⟩⟩))
 go_loopg [0, 4] k (fun kq v0 v4 w' => ∃ (x0_1 : Int) (x3_1 : List Int) (x4_1 : Int), v0 = .int .u64 x0_1 ∧ v4 = .int .i64 x4_1 ∧ Aside0 (treelineref01_Put.l0 kq x0_1 x3_1 x4_1 = some r) ∧ Aside0 (kq ≤ k) ∧ Aside0 (Kd.R (Kd.int .u8) 5 w' w.heap.size (fun _ => True) v330 x3_1) ∧ Aside0 (Below w.heap.size w w'))
 case atStart => exact ⟨(t328), (y329), (5), (by first | rfl | (simp; done) | (simp [*]; done)), (by first | rfl | (simp; done) | (simp [*]; done)), H', ⟨Nat.le_refl _⟩, ⟨bN HO331.out⟩, ⟨bB⟩⟩
 clear H'
 try clear p2
 try clear c3
 try clear c3b0
 try clear c3b1
 obtain ⟨x0_1, x3_1, x4_1, rfl, rfl, HA, HK1, HO_3, HB⟩ := hrel
 cases gk with
 | zero => exact absurd HA.out (by simp [treelineref01_Put.l0])
 | succ k1 => ?_
 have H := HA.out
 clear HA
 simp only [treelineref01_Put.l0] at H
 by_cases c6 : x4_1 ≥ 0
 rotate_left
 ·rw [if_neg c6] at H
  have c6b0 : decide (0 ≤ x4_1) = false := decide_eq_false c6
  clear c6
  obtain rfl := Option.some.inj H
  go_wp2
  go_ret
  exact ⟨_, by first | rfl | (simp [errW_none, errW_some] <;> rfl) | (simp [*, errW_none, errW_some] <;> rfl), by refine bN ?_; exact HO_3.out, by exact bB⟩
 rw [if_pos c6] at H
 have c6b0 : decide (0 ≤ x4_1) = true := decide_eq_true c6
 clear c6
 by_cases c7 : 0 ≤ x4_1
 rotate_left
 ·rw [if_neg c7] at H
  exact absurd H (by simp)
 rw [if_pos c7] at H
 have c7b0 : decide (0 ≤ x4_1) = true := decide_eq_true c7
 clear c7
 by_cases c8 : x4_1 < (x3_1.length : Int)
 rotate_left
 ·rw [if_neg c8] at H
  exact absurd H (by simp)
 rw [if_pos c8] at H
 have c8b0 : decide (x4_1 < (x3_1.length : Int)) = true := decide_eq_true c8
 clear c8
 obtain ⟨y332, hy332⟩ : ∃ y_ : List Int, y_ = (x3_1.set (x4_1 : Int).toNat ((Int.tmod x0_1 256) % 256)) := ⟨_, rfl⟩
 replace H : (treelineref01_Put.l0 k1 (IntKind.u64.wrap (Int.tdiv x0_1 256)) y332 (wrap64 (x4_1 - 1))) = some r := by first | (rw [hy332]; with_reducible exact H) | (have H2_ := (Option.bind_some _ _).symm.trans H; rw [hy332]; with_reducible exact H2_) | (have H2_ := (Option.bind_some _ _).symm.trans H; with_reducible exact H2_) | with_reducible exact H | (rw [hy332]; exact H) | exact H
 have Ny332 := Aside0.mk hy332
 clear hy332
 have H' := Aside0.mk H
 clear H
 have p9 : 0 ≤ (x4_1 : Int) := of_decide_eq_true (by first | (with_reducible assumption) | assumption)
 have q9 : (x4_1 : Int) < ((x3_1.length : Int) : Int) := of_decide_eq_true (by first | (with_reducible assumption) | assumption)
 obtain ⟨go9, co9, eo9, gb9, gl9, cl9, HG9⟩ := Kd.R_form HO_3.out (by omega)
 (first | cases eo9 | (injection eo9 with ea_ en_ ec_; (first | subst ea_ | (injection ea_ with ea_; subst ea_)); subst ec_; clear en_))
 have GB9 := Aside0.mk gb9
 have GG9 := Aside0.mk HG9
 clear gb9 gl9 HG9
 obtain ⟨hx9_0, hf9_0⟩ := Kd.R_celln 0 HO_3.out (x4_1 : Int) p9 q9
 replace p9 := eq_true p9
 replace q9 := eq_true q9
 have HP10 := Kd.R_putg HO_3.out (x4_1 : Int) ((Int.tmod x0_1 256) % 256)
 go_wp2_with (first | ((with_reducible refine gate_store (t := 5) (p := 17) rfl ?_); refine store_event (t := 5) (p := 17) (v := ?vo_w11) (w1 := (wr.setCell ⟨go9, (x4_1 : Int).toNat, none⟩ (.int .u8 ((Int.tmod x0_1 256) % 256)))) ?hg ?ho ?hn ?hr ?_; (case ho => rfl); (case hg => rfl); (case hn => rfl); (case hr => first | (go_simp; done) | (go_simp; rfl)); intro w11 hw; have hg : wr.grownBy w11 (some go9) := (by rw [hw]; exact HP10.2); have hp_ : Kd.R (Kd.int .u8) 5 w11 w.heap.size (fun _ => True) (.slice (some ⟨go9, 0, none⟩) x3_1.length co9) y332 := (by rw [hw, Ny332.out]; exact HP10.1); clear HP10; replace HO_3 := Aside0.mk (hp_); replace HB := Aside0.mk ((by rw [hw]; exact below_set (HB.out) GB9.out : Below w.heap.size w w11)); clear hg hw hp_))
 go_roundg k1
 case measure => have := HK1.out; omega
 case rel => exact ⟨(IntKind.u64.wrap (Int.tdiv x0_1 256)), (y332), (wrap64 (x4_1 - 1)), (by first | rfl | (simp; done) | (simp [*]; done)), (by first | rfl | (simp; done) | (simp [*]; done)), H', ⟨by have := HK1.out; omega⟩, ⟨bN HO_3.out⟩, ⟨bB⟩⟩
end Go.Proofs.YtiikllgppmmiaaaDoor.OScriptReads
