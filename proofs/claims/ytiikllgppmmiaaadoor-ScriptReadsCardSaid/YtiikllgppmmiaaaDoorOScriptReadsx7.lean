/- What Go functions that the law ScriptReads uses come to, and why: part 7. Made out of the kit's print by a program of this session (wip/tools/stub.py, splice.py), functions that it does not take told by hand. -/
import Derived.Test.YtiikllgppmmiaaaDoorOScriptReadsx6
namespace Go.Proofs.YtiikllgppmmiaaaDoor.OScriptReads
open Go.RowKit Go.Proofs.YtiikllgppmmiaaaDoorW.PrintWords Go.Proofs.YtiikllgppmmiaaaDoorW.PrintLast Go.Proofs.YtiikllgppmmiaaaDoorW.PrintMore
attribute [local go_sem] max2_int min2_int max_two min_two max_three min_three max_four min_four   -- for this text's walks alone
set_option linter.unusedVariables false
set_option linter.unusedSimpArgs false

/-! ### ids_Put: function 37 -/
def ids_Put.l0 : Nat → Int → List Int → Int → Int → Option (List Int)
  | 0, _, _, _, _ => none
  | k + 1, x0, x3, x7, x8 => if x8 < x7 then (if 0 ≤ (wrap64 (40 - (wrap64 (8 * x8)))) then (if 0 ≤ x8 then (if x8 < (x3.length : Int) then (ids_Put.l0 k x0 (x3.set (x8 : Int).toNat ((shr .u64 x0 (wrap64 (40 - (wrap64 (8 * x8))))) % 256)) x7 (wrap64 (x8 + 1))) else (none)) else (none)) else (none)) else (some x3)
def ids_Put.f (k : Nat) (a0 : Int) : Option (List Int) := if 6 ≤ 281474976710656 then ((some (List.replicate 6 0 : List Int)).bind fun y196 => (ids_Put.l0 k a0 y196 (y196.length : Int) 0)) else (none)
theorem ids_Put.mono_l : ∀ k, (∀ y0 y1 y2 y3, LeO (ids_Put.l0 k y0 y1 y2 y3) (ids_Put.l0 (k + 1) y0 y1 y2 y3))
  | 0 => fun _ _ _ _ r h => by simp [ids_Put.l0] at h
  | k + 1 => by
    have ih0 := ids_Put.mono_l k
    · intro y0 y1 y2 y3
      unfold ids_Put.l0
      repeat' first
      | (with_reducible apply ih0)
      | (with_reducible exact LeO.refl _)
      | (with_reducible exact LeO.none _)
      | (with_reducible refine LeO.ite ?_ ?_)
      | (with_reducible refine LeO.bind ?_ (fun _ => ?_))
      | apply ih0
      | exact LeO.none _
      | refine LeO.ite ?_ ?_
      | refine LeO.bind ?_ (fun _ => ?_)
theorem ids_Put.mono : ∀ a0 k, LeO (ids_Put.f k a0) (ids_Put.f (k + 1) a0) := by
  intro a0 k
  have ih0 := ids_Put.mono_l k
  unfold ids_Put.f
  repeat' first
      | (with_reducible apply ih0)
      | (with_reducible exact LeO.refl _)
      | (with_reducible exact LeO.none _)
      | (with_reducible refine LeO.ite ?_ ?_)
      | (with_reducible refine LeO.bind ?_ (fun _ => ?_))
      | apply ih0
      | exact LeO.none _
      | refine LeO.ite ?_ ?_
      | refine LeO.bind ?_ (fun _ => ?_)
set_option maxHeartbeats 8000000 in
set_option maxRecDepth 100000 in
theorem ids_Put.calls (k : Nat) (a0 : Int) (r : List Int) (w : World) (h : ids_Put.f k a0 = some r) :
  Calls Tryd.prog 37 #[.int .u64 a0] w fun e w' => ∃ v0_ : Value, e = .returned (v0_) ∧ Kd.R (Kd.int .u8) 5 w' w.heap.size (fun _ => True) v0_ r ∧ Below w.heap.size w w' := by
 have HB := Aside0.mk (Below.refl w.heap.size w)
 have H : (if 6 ≤ 281474976710656 then ((some (List.replicate 6 0 : List Int)).bind fun y196 => (ids_Put.l0 k a0 y196 (y196.length : Int) 0)) else (none)) = some r := h
 clear h
 by_cases c2 : 6 ≤ 281474976710656
 rotate_left
 ·rw [if_neg c2] at H
  exact absurd H (by simp)
 rw [if_pos c2] at H
 have c2b0 := eq_true c2
 have c2b1 : decide (6 ≤ 281474976710656) = true := decide_eq_true c2
 clear c2
 obtain ⟨y196, hy196⟩ : ∃ y_ : List Int, y_ = (List.replicate 6 0) := ⟨_, rfl⟩
 replace H : (ids_Put.l0 k a0 y196 (y196.length : Int) 0) = some r := by first | (rw [hy196]; with_reducible exact H) | (have H2_ := (Option.bind_some _ _).symm.trans H; rw [hy196]; with_reducible exact H2_) | (have H2_ := (Option.bind_some _ _).symm.trans H; with_reducible exact H2_) | with_reducible exact H | (rw [hy196]; exact H) | exact H
 have Ny196 := Aside0.mk hy196
 clear hy196
 have H' := Aside0.mk H
 clear H
 go_enter Tryd.func37, Tryd.ntmps37
 go_wp2_with (first | ((with_reducible refine gate_dst (N := 5) rfl ?_); refine Kd.R_make (Kd.int .u8) _ 5 rfl (N := 5) rfl 22 _ _ rfl 6 rfl rfl Tryd.underlying22 (.int .u8 0) 1 info5 rfl (by decide) (by omega) 0 (ok := fun _ => True) (okp := fun _ => True) rfl (fun _ hk => hk) trivial (by omega) (by omega) (Below.refl _ _) (Nat.le_refl _) ?_; intro v197 w3 ho4 hb hg_ hnew_; clear hg_ hnew_; (first | rw [← Ny196.out] at ho4 | (simp only [Int.reduceToNat] at ho4; rw [← Ny196.out] at ho4)); have HO198 := Aside0.mk (Kd.R_lower ho4 (below_size bB)); replace HB := Aside0.mk (below_step bB hb); clear hb ho4; obtain ⟨Ao5, co5, eo5⟩ := Kd.R_slice HO198.out; subst eo5))
 go_loopg [8] k (fun kq v8 w' => ∃ (x3_1 : List Int) (x8_1 : Int), v8 = .int .i64 x8_1 ∧ Aside0 (ids_Put.l0 kq a0 x3_1 (y196.length : Int) x8_1 = some r) ∧ Aside0 (kq ≤ k) ∧ Aside0 (Kd.R (Kd.int .u8) 5 w' w.heap.size (fun _ => True) (.slice Ao5 y196.length co5) x3_1) ∧ Aside0 (Below w.heap.size w w'))
 case atStart => exact ⟨(y196), (0), (by first | rfl | (simp; done) | (simp [*]; done)), H', ⟨Nat.le_refl _⟩, ⟨bN HO198.out⟩, ⟨bB⟩⟩
 clear H'
 try clear c2
 try clear c2b0
 try clear c2b1
 try clear p2
 obtain ⟨x3_1, x8_1, rfl, HA, HK1, HO_3, HB⟩ := hrel
 have hl3_1 := (Kd.R_reads' HO_3.out).1
 rw [hl3_1] at HO_3
 (try simp only [hl3_1])
 cases gk with
 | zero => exact absurd HA.out (by simp [ids_Put.l0])
 | succ k1 => ?_
 have H := HA.out
 clear HA
 simp only [ids_Put.l0] at H
 by_cases c6 : x8_1 < (y196.length : Int)
 rotate_left
 ·rw [if_neg c6] at H
  have c6b0 : decide (x8_1 < (y196.length : Int)) = false := decide_eq_false c6
  (try simp only [hl3_1] at c6b0)
  clear c6
  obtain rfl := Option.some.inj H
  go_wp2
  go_ret
  exact ⟨_, by first | rfl | (simp [errW_none, errW_some] <;> rfl) | (simp [*, errW_none, errW_some] <;> rfl), by refine bN ?_; exact HO_3.out, by exact bB⟩
 rw [if_pos c6] at H
 have c6b0 : decide (x8_1 < (y196.length : Int)) = true := decide_eq_true c6
 (try simp only [hl3_1] at c6b0)
 clear c6
 obtain ⟨ji7, hji7⟩ : ∃ j_ : Int, (wrap64 (40 - (wrap64 (8 * x8_1)))) = j_ := ⟨_, rfl⟩
 replace H : (if 0 ≤ (ji7) then (if 0 ≤ x8_1 then (if x8_1 < (x3_1.length : Int) then (ids_Put.l0 k1 a0 (x3_1.set (x8_1 : Int).toNat ((shr .u64 a0 (ji7)) % 256)) (y196.length : Int) (wrap64 (x8_1 + 1))) else (none)) else (none)) else (none)) = some r := by first | (rw [hji7] at H; exact H) | (simp only [hji7] at H ⊢; exact H)
 have hji7w : (IntKind.i64.wrap (40 - (wrap64 (8 * x8_1)))) = ji7 := (i64_w _).trans hji7
 by_cases c8 : 0 ≤ (ji7)
 rotate_left
 ·rw [if_neg c8] at H
  exact absurd H (by simp)
 rw [if_pos c8] at H
 have c8b0 := eq_true c8
 have c8b1 : decide (0 ≤ (ji7)) = true := decide_eq_true c8
 (try simp only [hl3_1] at c8b1)
 clear c8
 obtain ⟨ji9, hji9⟩ : ∃ j_ : Int, (shr .u64 a0 (ji7)) = j_ := ⟨_, rfl⟩
 replace H : (if 0 ≤ x8_1 then (if x8_1 < (x3_1.length : Int) then (ids_Put.l0 k1 a0 (x3_1.set (x8_1 : Int).toNat ((ji9) % 256)) (y196.length : Int) (wrap64 (x8_1 + 1))) else (none)) else (none)) = some r := by first | (rw [hji9] at H; exact H) | (simp only [hji9] at H ⊢; exact H)
 have hji9_ : (a0 / 2 ^ min (ji7).toNat 64) = ji9 := hji9
 have hji9z : (ji7) ≤ 64 → (a0 / 2 ^ (ji7).toNat) = ji9 := shr_small hji9
 by_cases c10 : 0 ≤ x8_1
 rotate_left
 ·rw [if_neg c10] at H
  exact absurd H (by simp)
 rw [if_pos c10] at H
 have c10b0 : decide (0 ≤ x8_1) = true := decide_eq_true c10
 (try simp only [hl3_1] at c10b0)
 clear c10
 by_cases c11 : x8_1 < (x3_1.length : Int)
 rotate_left
 ·rw [if_neg c11] at H
  exact absurd H (by simp)
 rw [if_pos c11] at H
 have c11b0 : decide (x8_1 < (x3_1.length : Int)) = true := decide_eq_true c11
 (try simp only [hl3_1] at c11b0)
 clear c11
 obtain ⟨y199, hy199⟩ : ∃ y_ : List Int, y_ = (x3_1.set (x8_1 : Int).toNat ((ji9) % 256)) := ⟨_, rfl⟩
 replace H : (ids_Put.l0 k1 a0 y199 (y196.length : Int) (wrap64 (x8_1 + 1))) = some r := by first | (rw [hy199]; with_reducible exact H) | (have H2_ := (Option.bind_some _ _).symm.trans H; rw [hy199]; with_reducible exact H2_) | (have H2_ := (Option.bind_some _ _).symm.trans H; with_reducible exact H2_) | with_reducible exact H | (rw [hy199]; exact H) | exact H
 have Ny199 := Aside0.mk hy199
 clear hy199
 have H' := Aside0.mk H
 clear H
 have p12 : 0 ≤ (x8_1 : Int) := of_decide_eq_true (by first | (with_reducible assumption) | assumption)
 have q12 : (x8_1 : Int) < ((x3_1.length : Int) : Int) := of_decide_eq_true (by first | (with_reducible assumption) | assumption)
 obtain ⟨go12, co12, eo12, gb12, gl12, cl12, HG12⟩ := Kd.R_form HO_3.out (by omega)
 (first | cases eo12 | (injection eo12 with ea_ en_ ec_; (first | subst ea_ | (injection ea_ with ea_; subst ea_)); subst ec_; clear en_))
 have GB12 := Aside0.mk gb12
 have GG12 := Aside0.mk HG12
 clear gb12 gl12 HG12
 obtain ⟨hx12_0, hf12_0⟩ := Kd.R_celln 0 HO_3.out (x8_1 : Int) p12 q12
 replace p12 := eq_true p12
 replace q12 := eq_true q12
 have HP13 := Kd.R_putg HO_3.out (x8_1 : Int) ((ji9) % 256)
 go_wp2_with (first | ((with_reducible refine gate_store (t := 5) (p := 19) rfl ?_); refine store_event (t := 5) (p := 19) (v := ?vo_w14) (w1 := (wr.setCell ⟨go12, (x8_1 : Int).toNat, none⟩ (.int .u8 ((ji9) % 256)))) ?hg ?ho ?hn ?hr ?_; (case ho => rfl); (case hg => rfl); (case hn => rfl); (case hr => first | (go_simp; done) | (go_simp; rfl)); intro w14 hw; have hg : wr.grownBy w14 (some go12) := (by rw [hw]; exact HP13.2); have hp_ : Kd.R (Kd.int .u8) 5 w14 w.heap.size (fun _ => True) (.slice (some ⟨go12, 0, none⟩) x3_1.length co5) y199 := (by rw [hw, Ny199.out]; exact HP13.1); clear HP13; replace HO_3 := Aside0.mk (hp_); replace HB := Aside0.mk ((by rw [hw]; exact below_set (HB.out) GB12.out : Below w.heap.size w w14)); clear hg hw hp_))
 (try simp only [← hl3_1])
 go_roundg k1
 case measure => have := HK1.out; omega
 case rel => exact ⟨(y199), (wrap64 (x8_1 + 1)), (by first | rfl | (simp; done) | (simp [*]; done)), H', ⟨by have := HK1.out; omega⟩, ⟨by (try simp only [hl3_1]); refine bN ?_; exact HO_3.out⟩, ⟨bB⟩⟩
end Go.Proofs.YtiikllgppmmiaaaDoor.OScriptReads
