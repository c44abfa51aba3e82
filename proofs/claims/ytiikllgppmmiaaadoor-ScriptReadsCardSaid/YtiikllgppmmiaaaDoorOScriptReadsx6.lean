/- What Go functions that the law ScriptReads uses come to, and why: part 6. Made out of the kit's print by a program of this session (wip/tools/stub.py, splice.py), functions that it does not take told by hand. -/
import Derived.Test.YtiikllgppmmiaaaDoorOScriptReadsx5
namespace Go.Proofs.YtiikllgppmmiaaaDoor.OScriptReads
open Go.RowKit Go.Proofs.YtiikllgppmmiaaaDoorW.PrintWords Go.Proofs.YtiikllgppmmiaaaDoorW.PrintLast Go.Proofs.YtiikllgppmmiaaaDoorW.PrintMore
attribute [local go_sem] max2_int min2_int max_two min_two max_three min_three max_four min_four   -- for this text's walks alone
set_option linter.unusedVariables false
set_option linter.unusedSimpArgs false

/-! ### script_reader_some: function 31 -/
def script_reader_some.l0 : Nat → List Int → Int → Int → List Int → Int → Option (List Int × Int)
  | 0, _, _, _, _, _ => none
  | k + 1, x5, x6, x7, x1000, x1001 => if x7 < x6 then ((script_reader_next.f x1000 x1001).bind fun bt191 => (if x5.length < 140737488355328 then (script_reader_some.l0 k (x5 ++ [(bt191.1) % 256]) x6 (wrap64 (x7 + 1)) x1000 bt191.2) else (none))) else (some (x5, x1001))
def script_reader_some.f (k : Nat) (s0_0 : List Int) (s0_1 : Int) (a1 : Int) : Option (List Int × Int) := script_reader_some.l0 k ([] : List Int) a1 0 s0_0 s0_1
theorem script_reader_some.mono_l : ∀ k, (∀ y0 y1 y2 y3 y4, LeO (script_reader_some.l0 k y0 y1 y2 y3 y4) (script_reader_some.l0 (k + 1) y0 y1 y2 y3 y4))
  | 0 => fun _ _ _ _ _ r h => by simp [script_reader_some.l0] at h
  | k + 1 => by
    have ih0 := script_reader_some.mono_l k
    · intro y0 y1 y2 y3 y4
      unfold script_reader_some.l0
      repeat' first
      | (with_reducible apply ih0)
      | (with_reducible exact LeO.refl _)
      | (with_reducible exact LeO.none _)
      | (with_reducible refine LeO.ite ?_ ?_)
      | (with_reducible refine LeO.bind ?_ (fun _ => ?_))
      | apply ih0
      | exact LeO.none _
      | refine LeO.ite ?_ ?_
      | refine LeO.bind ?_ (fun _ => ?_)
theorem script_reader_some.mono : ∀ a0 a1 a2 k, LeO (script_reader_some.f k a0 a1 a2) (script_reader_some.f (k + 1) a0 a1 a2) := by
  intro a0 a1 a2 k
  have ih0 := script_reader_some.mono_l k
  unfold script_reader_some.f
  repeat' first
      | (with_reducible apply ih0)
      | (with_reducible exact LeO.refl _)
      | (with_reducible exact LeO.none _)
      | (with_reducible refine LeO.ite ?_ ?_)
      | (with_reducible refine LeO.bind ?_ (fun _ => ?_))
      | apply ih0
      | exact LeO.none _
      | refine LeO.ite ?_ ?_
      | refine LeO.bind ?_ (fun _ => ?_)
set_option maxHeartbeats 8000000 in
set_option maxRecDepth 100000 in
theorem script_reader_some.calls (k : Nat) (g : Nat) (s0_0 : List Int) (s0_1 : Int) (a1 : Int) (r1 : List Int) (r2 : Int) (w0 w : World) (hI : IsS54 w0 w g s0_0 s0_1) (hB : Below w0.heap.size w0 w) (h : script_reader_some.f k s0_0 s0_1 a1 = some (r1, r2)) :
  Calls Tryd.prog 31 #[.pointer (some ⟨g, 0, none⟩), .int .i64 a1] w fun e w' => ∃ v0_ : Value, e = .returned (v0_) ∧ Kd.R (Kd.int .u8) 5 w' w.heap.size (fun _ => True) v0_ r1 ∧ IsS54 w0 w' g s0_0 r2 ∧ Below w0.heap.size w0 w' ∧ KeepBut w w' g none := by
 have HI0 := Aside0.mk hI
 have HK := Aside0.mk (KeepBut.refl w g none)
 have HL := Aside0.mk hB.size
 clear hI
 have HW0 := Aside0.mk hB.size
 have HB := Aside0.mk hB
 clear hB
 have H : (script_reader_some.l0 k ([] : List Int) a1 0 s0_0 s0_1) = some (r1, r2) := h
 clear h
 have H' := Aside0.mk H
 clear H
 go_enter Tryd.func31, Tryd.ntmps31
 go_wp2
 go_loopg [5, 7] k (fun kq v5 v7 w' => ∃ (x5_1 : List Int) (x7_1 : Int) (x1001_1 : Int), v7 = .int .i64 x7_1 ∧ Aside0 (script_reader_some.l0 kq x5_1 a1 x7_1 s0_0 x1001_1 = some (r1, r2)) ∧ Aside0 (kq ≤ k) ∧ Aside0 (Kd.R (Kd.int .u8) 5 w' w.heap.size (fun _ => True) v5 x5_1) ∧ Aside0 (IsS54 w0 w' g s0_0 x1001_1) ∧ Aside0 (KeepBut w w' g none) ∧ Aside0 (Below w0.heap.size w0 w'))
 case atStart => exact ⟨(([] : List Int)), (0), (s0_1), (by first | rfl | (simp; done) | (simp [*]; done)), H', ⟨Nat.le_refl _⟩, ⟨by first | exact Kd.R_nil _ _ _ _ _ | exact Kd.N_nil _ _ _ _ _ | exact Kd.V_nil _ _ _ _ _ | exact Kd.Q_nil _ _ _ _ _ | exact Kd.S_nil _ _ _ _ _⟩, ⟨bI HI0.out⟩, ⟨bK⟩, ⟨bB⟩⟩
 clear H'
 try clear p2
 obtain ⟨x5_1, x7_1, x1001_1, rfl, HA, HK1, HO_5, HI0, HK, HB⟩ := hrel
 cases gk with
 | zero => exact absurd HA.out (by simp [script_reader_some.l0])
 | succ k1 => ?_
 have H := HA.out
 clear HA
 simp only [script_reader_some.l0] at H
 by_cases c3 : x7_1 < a1
 rotate_left
 ·rw [if_neg c3] at H
  have c3b0 : decide (x7_1 < a1) = false := decide_eq_false c3
  clear c3
  simp only [Option.some.injEq, Prod.mk.injEq] at H
  obtain ⟨rfl, rfl⟩ := H
  go_wp2
  go_ret
  exact ⟨_, by first | rfl | (simp [errW_none, errW_some] <;> rfl) | (simp [*, errW_none, errW_some] <;> rfl), by refine bN ?_; exact HO_5.out, by exact bI HI0.out, by exact bB, by exact bK⟩
 rw [if_pos c3] at H
 have c3b0 : decide (x7_1 < a1) = true := decide_eq_true c3
 clear c3
 replace H := Option.bind_eq_some_iff.mp H
 obtain ⟨⟨t191, t192⟩, A40, H⟩ := H
 (try dsimp only at H)
 have A4 := Aside0.mk A40
 clear A40
 by_cases c5 : x5_1.length < 140737488355328
 rotate_left
 ·rw [if_neg c5] at H
  exact absurd H (by simp)
 rw [if_pos c5] at H
 have LMc5 := Aside0.mk c5
 clear c5
 obtain ⟨y193, hy193⟩ : ∃ y_ : List Int, y_ = (x5_1 ++ [(t191) % 256]) := ⟨_, rfl⟩
 replace H : (script_reader_some.l0 k1 y193 a1 (wrap64 (x7_1 + 1)) s0_0 t192) = some (r1, r2) := by first | (rw [hy193]; with_reducible exact H) | (have H2_ := (Option.bind_some _ _).symm.trans H; rw [hy193]; with_reducible exact H2_) | (have H2_ := (Option.bind_some _ _).symm.trans H; with_reducible exact H2_) | with_reducible exact H | (rw [hy193]; exact H) | exact H
 have Ny193 := Aside0.mk hy193
 clear hy193
 have H' := Aside0.mk H
 clear H
 go_wp2_with (first | ((with_reducible refine gate_callee (f := 28) rfl ?_); refine gL (some 11) Tryd.func28 #[.pointer (some ⟨g, 0, none⟩)] ?_; (with_reducible refine (script_reader_next.calls g s0_0 x1001_1 t191 t192 w0 _ ?side1 ?side2 A4.out).mono ?_); (case side1 => exact bI HI0.out); (case side2 => exact bB); rintro e w6 ⟨rfl, hi, hb, hk⟩; refine ⟨_, rfl, ?_⟩; replace HO_5 := Aside0.mk (Kd.R_mono (Kd.R_keep (IsS54.apart (show IsS54 w0 _ g s0_0 x1001_1 from by exact bI HI0.out) (bN HO_5.out) (by decide)) hk (fun _ h => h.2)) (fun _ h => h.1)); replace HK := Aside0.mk (KeepBut.trans bK hk (.inl rfl)); replace HB := Aside0.mk (hb); replace HI0 := Aside0.mk (hi); (try clear hb); (try clear hb2); (try clear hk); (try clear hi)) | ((with_reducible refine gate_builtin (b := .append) (xs := #[.tmp 9, .tmp 13]) rfl ?_); at_builtin; refine Kd.R_append (Kd.int .u8) w.heap.size rfl (.tmp 9) (.tmp 13) 22 5 (.int .u8 0) 1 rfl Tryd.underlying22 info5 rfl (by decide) (by omega) u5 x5_1 ((t191) % 256) [.int .u8 ((t191) % 256)] (fun _ => True) (fun _ => False) rfl rfl ?aP (fun _ hk => hk.elim) ?aF ?aO (Below.refl _ _) ?aS ?aL ?_; (case aP => exact rfl); (case aF => exact (fun _ _ => trivial)); (case aO => exact (bN HO_5.out)); (case aS => exact (keep_size (w := w) (g := g) (row := none) bK)); (case aL => have := LMc5.out; omega); intro v194 w7 ho hb hg hat; rw [← Ny193.out] at ho; replace HI0 := Aside0.mk (IsS54.grown (bI HI0.out) hg (IsS54.own_ne HI0.out HO_5.out (by decide))); replace HB := Aside0.mk (below_weaken bB HL.out hb); replace HK := Aside0.mk (KeepBut.trans bK (KeepBut.of_grown hg g) (Kd.R_base2 HO_5.out)); have HO195 := Aside0.mk (ho); clear HO_5; clear ho hb hg hat) | (go_at_call 28; (with_reducible refine (script_reader_next.calls g s0_0 x1001_1 t191 t192 w0 _ ?side1 ?side2 A4.out).mono ?_); (case side1 => exact bI HI0.out); (case side2 => exact bB); rintro e w6 ⟨rfl, hi, hb, hk⟩; replace HO_5 := Aside0.mk (Kd.R_mono (Kd.R_keep (IsS54.apart (show IsS54 w0 _ g s0_0 x1001_1 from by exact bI HI0.out) (bN HO_5.out) (by decide)) hk (fun _ h => h.2)) (fun _ h => h.1)); replace HK := Aside0.mk (KeepBut.trans bK hk (.inl rfl)); replace HB := Aside0.mk (hb); replace HI0 := Aside0.mk (hi); (try clear hb); (try clear hb2); (try clear hk); (try clear hi)))
 go_roundg k1
 case measure => have := HK1.out; omega
 case rel => exact ⟨(y193), (wrap64 (x7_1 + 1)), (t192), (by first | rfl | (simp; done) | (simp [*]; done)), H', ⟨by have := HK1.out; omega⟩, ⟨bN HO195.out⟩, ⟨bI HI0.out⟩, ⟨bK⟩, ⟨bB⟩⟩
end Go.Proofs.YtiikllgppmmiaaaDoor.OScriptReads
