/- What Go functions that the law HashPlays uses come to, and why: part 2. Made out of the kit's print by a program of this session (wip/tools/mend.py), with more rows. -/
import Derived.Test.YtfdjlempllmelaaPHashPlaysx0
import Derived.Test.YtfdjlempllmelaaOHashPlaysx1
namespace Go.Proofs.Ytfdjlempllmelaa.PHashPlays
open Go.RowKit Go.Proofs.YtfdjlempllmelaaW.PrintWords Go.Proofs.YtfdjlempllmelaaW.PrintLast Go.Proofs.YtfdjlempllmelaaW.PrintMore
attribute [local go_sem] max2_int min2_int max_two min_two max_three min_three max_four min_four   -- for this text's walks alone
set_option linter.unusedVariables false
set_option linter.unusedSimpArgs false

/-! ### treelinelaw06_HashPlays: function 6 -/
def treelinelaw06_HashPlays.j0 : Nat → Int → Int → Int → Int → Option (Bool)
  | 0, _, _, _, _ => none
  | k + 1, x0, x1, x2, x7 => (hash_Of.f k x0).bind fun t124 => ((treelineref06_Of.f k x0).bind fun t125 => (if t124 = t125 then ((hash_Slot.f k x0 x2).bind fun t126 => (if t126 = x7 then ((hash_Next.f x1 x2).bind fun t127 => ((treelineref06_Next.f x1 x2).bind fun t128 => (some (t127 == t128)))) else (some false))) else (some false)))
def treelinelaw06_HashPlays.f (k : Nat) (a0 : Int) (a1 : Int) (a2 : Int) : Option (Bool) := (treelinelaw06_awake.f).bind fun t122 => (if t122 = true then (if a2 ≥ 1 then ((treelineref06_Of.f k a0).bind fun t123 => (if (IntKind.u64.wrap (a2)) = 0 then (none) else (treelinelaw06_HashPlays.j0 k a0 a1 a2 (wrap64 (Int.tmod (IntKind.u64.wrap (t123)) (IntKind.u64.wrap (a2))))))) else (treelinelaw06_HashPlays.j0 k a0 a1 a2 0)) else (some false))
theorem treelinelaw06_HashPlays.mono_l : ∀ k, (∀ y0 y1 y2 y3, LeO (treelinelaw06_HashPlays.j0 k y0 y1 y2 y3) (treelinelaw06_HashPlays.j0 (k + 1) y0 y1 y2 y3))
  | 0 => fun _ _ _ _ r h => by simp [treelinelaw06_HashPlays.j0] at h
  | k + 1 => by
    have ih0 := treelinelaw06_HashPlays.mono_l k
    · intro y0 y1 y2 y3
      unfold treelinelaw06_HashPlays.j0
      repeat' first
      | (with_reducible exact ih0 _ _ _ _)
      | (with_reducible exact hash_Of.mono _ _)
      | (with_reducible exact hash_Slot.mono _ _ _)
      | (with_reducible exact treelineref06_Of.mono _ _)
      | (with_reducible exact LeO.refl _)
      | (with_reducible exact LeO.none _)
      | (with_reducible refine LeO.ite ?_ ?_)
      | (with_reducible refine LeO.bind ?_ (fun _ => ?_))
      | exact ih0 _ _ _ _
      | exact hash_Of.mono _ _
      | exact hash_Slot.mono _ _ _
      | exact treelineref06_Of.mono _ _
      | exact LeO.none _
      | refine LeO.ite ?_ ?_
      | refine LeO.bind ?_ (fun _ => ?_)
theorem treelinelaw06_HashPlays.mono : ∀ a0 a1 a2 k, LeO (treelinelaw06_HashPlays.f k a0 a1 a2) (treelinelaw06_HashPlays.f (k + 1) a0 a1 a2) := by
  intro a0 a1 a2 k
  have ih0 := treelinelaw06_HashPlays.mono_l k
  unfold treelinelaw06_HashPlays.f
  repeat' first
      | (with_reducible exact ih0 _ _ _ _)
      | (with_reducible exact hash_Of.mono _ _)
      | (with_reducible exact hash_Slot.mono _ _ _)
      | (with_reducible exact treelineref06_Of.mono _ _)
      | (with_reducible exact LeO.refl _)
      | (with_reducible exact LeO.none _)
      | (with_reducible refine LeO.ite ?_ ?_)
      | (with_reducible refine LeO.bind ?_ (fun _ => ?_))
      | exact ih0 _ _ _ _
      | exact hash_Of.mono _ _
      | exact hash_Slot.mono _ _ _
      | exact treelineref06_Of.mono _ _
      | exact LeO.none _
      | refine LeO.ite ?_ ?_
      | refine LeO.bind ?_ (fun _ => ?_)
set_option maxHeartbeats 8000000 in
set_option maxRecDepth 100000 in
theorem treelinelaw06_HashPlays.calls (k : Nat) (a0 : Int) (a1 : Int) (a2 : Int) (r : Bool) (w : World) (h : treelinelaw06_HashPlays.f k a0 a1 a2 = some r) (LRT : Aside0 (r = true)) :
    Calls Try.prog 6 #[.int .u64 a0, .int .i64 a1, .int .i64 a2] w fun e w' => e = .returned (.bool r) ∧ Below w.heap.size w w' := by
  have HB := Aside0.mk (Below.refl w.heap.size w)
  have H : ((treelinelaw06_awake.f).bind fun t122 => (if t122 = true then (if a2 ≥ 1 then ((treelineref06_Of.f k a0).bind fun t123 => (if (IntKind.u64.wrap (a2)) = 0 then (none) else (treelinelaw06_HashPlays.j0 k a0 a1 a2 (wrap64 (Int.tmod (IntKind.u64.wrap (t123)) (IntKind.u64.wrap (a2))))))) else (treelinelaw06_HashPlays.j0 k a0 a1 a2 0)) else (some false))) = some r := h
  clear h
  replace H := Option.bind_eq_some_iff.mp H
  obtain ⟨t122, A40, H⟩ := H
  replace H : (if t122 = true then (if a2 ≥ 1 then ((treelineref06_Of.f k a0).bind fun t123 => (if (IntKind.u64.wrap (a2)) = 0 then (none) else (treelinelaw06_HashPlays.j0 k a0 a1 a2 (wrap64 (Int.tmod (IntKind.u64.wrap (t123)) (IntKind.u64.wrap (a2))))))) else (treelinelaw06_HashPlays.j0 k a0 a1 a2 0)) else (some false)) = some r := H
  have A4 := Aside0.mk A40
  clear A40
  by_cases c5 : t122 = true
  · subst c5
    have H1 : (if a2 ≥ 1 then ((treelineref06_Of.f k a0).bind fun t123 => (if (IntKind.u64.wrap (a2)) = 0 then (none) else (treelinelaw06_HashPlays.j0 k a0 a1 a2 (wrap64 (Int.tmod (IntKind.u64.wrap (t123)) (IntKind.u64.wrap (a2))))))) else (treelinelaw06_HashPlays.j0 k a0 a1 a2 0)) = some r := by rw [if_pos rfl] at H; exact H
    clear H
    have H := H1
    clear H1
    have HC6 := Aside0.mk H
    clear H
    go_enter Try.func6, Try.ntmps6
    go_upto_if 11 with (first | ((with_reducible refine gate_callee (f := 15) rfl ?_); refine goesL_ (some 8) rfl rfl Try.func15 (by kernel_rfl) rfl #[] rfl (by (try simp only [List.map_toArray, List.map_cons, List.map_nil]); first | done | rfl | (simp only [List.length_drop, List.length_take]; rfl)) ?_; (with_reducible refine (treelinelaw06_awake.calls  true _ A4.out).mono ?_); rintro e w' ⟨rfl, ⟨nd, rfl⟩⟩; refine ⟨_, rfl, ?_⟩))
    (try simp only [Act.put, List.setIfInBounds_toArray, List.set_cons_zero, List.set_cons_succ])
    go_cut [7] (fun v7 wc => ∃ (kq : Nat) (x7_5 : Int), v7 = .int .i64 x7_5 ∧ Aside0 (treelinelaw06_HashPlays.j0 kq a0 a1 a2 x7_5 = some r) ∧ Aside0 (kq ≤ k) ∧ Aside0 (Below w.heap.size w wc))
    case first =>
      have H := HC6.out
      clear HC6
      by_cases c7 : a2 ≥ 1
      · rw [if_pos c7] at H
        have c7b0 : decide (1 ≤ a2) = true := decide_eq_true c7
        clear c7
        (first | rw [c7b0] | (simp only [i64_w, i32_w]; rw [c7b0]) | skip)
        replace H := Option.bind_eq_some_iff.mp H
        obtain ⟨t123, A80, H⟩ := H
        replace H : (if (IntKind.u64.wrap (a2)) = 0 then (none) else (treelinelaw06_HashPlays.j0 k a0 a1 a2 (wrap64 (Int.tmod (IntKind.u64.wrap (t123)) (IntKind.u64.wrap (a2)))))) = some r := H
        have A8 := Aside0.mk A80
        clear A80
        by_cases c9 : (IntKind.u64.wrap (a2)) = 0
        · rw [if_pos c9] at H
          exact absurd H (by simp)
        · rw [if_neg c9] at H
          have c9b0 : ((IntKind.u64.wrap (a2)) == 0) = false := beq_eq_false_iff_ne.mpr c9
          have c9b1 : ((IntKind.u64.wrap (a2)) != 0) = true := bne_iff_ne.mpr c9
          have H' := Aside0.mk H
          clear H
          go_wp2_with (first | ((with_reducible refine gate_callee (f := 19) rfl ?_); refine goesL_ (some 13) rfl rfl Try.func19 (by kernel_rfl) rfl #[.int .u64 a0] rfl (by (try simp only [List.map_toArray, List.map_cons, List.map_nil]); first | done | rfl | (simp only [List.length_drop, List.length_take]; rfl)) ?_; (with_reducible refine (treelineref06_Of.calls k a0 t123 _ A8.out).mono ?_); rintro e w10 ⟨rfl, hb⟩; refine ⟨_, rfl, ?_⟩; have n0_ := Aside0.mk (below_step (by repeat (first | (with_reducible first | exact HB.out | apply below_alloc | apply pw_below_drewN | apply below_drew1) | exact HB.out)) hb); clear HB; have HB := n0_; clear n0_; (try clear hb); (try clear hb2); (try clear hk); (try clear hi)) | (go_at_call 19; (with_reducible refine (treelineref06_Of.calls k a0 t123 _ A8.out).mono ?_); rintro e w10 ⟨rfl, hb⟩; have n0_ := Aside0.mk (below_step (by repeat (first | (with_reducible first | exact HB.out | apply below_alloc | apply pw_below_drewN | apply below_drew1) | exact HB.out)) hb); clear HB; have HB := n0_; clear n0_; (try clear hb); (try clear hb2); (try clear hk); (try clear hi)))
          go_meet
          case rel => exact ⟨_, (wrap64 (Int.tmod (IntKind.u64.wrap (t123)) (IntKind.u64.wrap (a2)))), (by first | rfl | (simp; done) | (simp [*]; done)), H', ⟨by first | omega | exact Nat.le_refl _⟩, ⟨by repeat (first | (with_reducible first | exact HB.out | apply below_alloc | apply pw_below_drewN | apply below_drew1) | exact HB.out)⟩⟩
      · rw [if_neg c7] at H
        have c7b0 : decide (1 ≤ a2) = false := decide_eq_false c7
        clear c7
        (first | rw [c7b0] | (simp only [i64_w, i32_w]; rw [c7b0]) | skip)
        have H' := Aside0.mk H
        clear H
        go_wp2
        go_meet
        case rel => exact ⟨_, (0), (by first | rfl | (simp; done) | (simp [*]; done)), H', ⟨by first | omega | exact Nat.le_refl _⟩, ⟨by repeat (first | (with_reducible first | exact HB.out | apply below_alloc | apply pw_below_drewN | apply below_drew1) | exact HB.out)⟩⟩
    case rest =>
      clear HC6
      try clear c1
      try clear p2
      try clear c5
      try clear c6
      try clear p6
      try clear c7
      try clear c7b0
      try clear c9
      try clear c9b0
      try clear c9b1
      obtain ⟨kq, x7_5, rfl, HA, HJ5, HB⟩ := hcut
      cases kq with
      | zero => exact absurd HA.out (by simp [treelinelaw06_HashPlays.j0])
      | succ kj5 =>
        have H := HA.out
        clear HA
        simp only [treelinelaw06_HashPlays.j0] at H
        replace H := Option.bind_eq_some_iff.mp H
        obtain ⟨t124, A110, H⟩ := H
        replace H : ((treelineref06_Of.f kj5 a0).bind fun t125 => (if t124 = t125 then ((hash_Slot.f kj5 a0 a2).bind fun t126 => (if t126 = x7_5 then ((hash_Next.f a1 a2).bind fun t127 => ((treelineref06_Next.f a1 a2).bind fun t128 => (some (t127 == t128)))) else (some false))) else (some false))) = some r := H
        have A11 := Aside0.mk A110
        clear A110
        replace H := Option.bind_eq_some_iff.mp H
        obtain ⟨t125, A120, H⟩ := H
        replace H : (if t124 = t125 then ((hash_Slot.f kj5 a0 a2).bind fun t126 => (if t126 = x7_5 then ((hash_Next.f a1 a2).bind fun t127 => ((treelineref06_Next.f a1 a2).bind fun t128 => (some (t127 == t128)))) else (some false))) else (some false)) = some r := H
        have A12 := Aside0.mk A120
        clear A120
        by_cases c13 : t124 = t125
        · rw [if_pos c13] at H
          have c13b0 : (t124 == t125) = true := beq_iff_eq.mpr c13
          have c13b1 : (t124 != t125) = false := bne_eq_false_iff_eq.mpr c13
          clear c13
          replace H := Option.bind_eq_some_iff.mp H
          obtain ⟨t126, A140, H⟩ := H
          replace H : (if t126 = x7_5 then ((hash_Next.f a1 a2).bind fun t127 => ((treelineref06_Next.f a1 a2).bind fun t128 => (some (t127 == t128)))) else (some false)) = some r := H
          have A14 := Aside0.mk A140
          clear A140
          by_cases c15 : t126 = x7_5
          · rw [if_pos c15] at H
            have c15b0 : (t126 == x7_5) = true := beq_iff_eq.mpr c15
            have c15b1 : (t126 != x7_5) = false := bne_eq_false_iff_eq.mpr c15
            clear c15
            replace H := Option.bind_eq_some_iff.mp H
            obtain ⟨t127, A160, H⟩ := H
            replace H : ((treelineref06_Next.f a1 a2).bind fun t128 => (some (t127 == t128))) = some r := H
            have A16 := Aside0.mk A160
            clear A160
            replace H := Option.bind_eq_some_iff.mp H
            obtain ⟨t128, A170, H⟩ := H
            replace H : (some (t127 == t128)) = some r := H
            have A17 := Aside0.mk A170
            clear A170
            obtain rfl := Option.some.inj H
            (try exact absurd LRT.out (by decide))
            all_goals
              go_wp2_with (first | ((with_reducible refine gate_callee (f := 20) rfl ?_); refine goesL_ (some 20) rfl rfl Try.func20 (by kernel_rfl) rfl #[.int .u64 a0] rfl (by (try simp only [List.map_toArray, List.map_cons, List.map_nil]); first | done | rfl | (simp only [List.length_drop, List.length_take]; rfl)) ?_; (with_reducible refine (hash_Of.calls kj5 a0 t124 _ A11.out).mono ?_); rintro e w18 ⟨rfl, hb⟩; refine ⟨_, rfl, ?_⟩; have n0_ := Aside0.mk (below_step (by repeat (first | (with_reducible first | exact HB.out | apply below_alloc | apply pw_below_drewN | apply below_drew1) | exact HB.out)) hb); clear HB; have HB := n0_; clear n0_; (try clear hb); (try clear hb2); (try clear hk); (try clear hi)) | ((with_reducible refine gate_callee (f := 19) rfl ?_); refine goesL_ (some 22) rfl rfl Try.func19 (by kernel_rfl) rfl #[.int .u64 a0] rfl (by (try simp only [List.map_toArray, List.map_cons, List.map_nil]); first | done | rfl | (simp only [List.length_drop, List.length_take]; rfl)) ?_; (with_reducible refine (treelineref06_Of.calls kj5 a0 t125 _ A12.out).mono ?_); rintro e w19 ⟨rfl, hb⟩; refine ⟨_, rfl, ?_⟩; have n0_ := Aside0.mk (below_step (by repeat (first | (with_reducible first | exact HB.out | apply below_alloc | apply pw_below_drewN | apply below_drew1) | exact HB.out)) hb); clear HB; have HB := n0_; clear n0_; (try clear hb); (try clear hb2); (try clear hk); (try clear hi)) | (go_at_call 21; (with_reducible refine (hash_Slot.calls kj5 a0 a2 t126 _ A14.out).mono ?_); rintro e w20 ⟨rfl, hb⟩; have n0_ := Aside0.mk (below_step (by repeat (first | (with_reducible first | exact HB.out | apply below_alloc | apply pw_below_drewN | apply below_drew1) | exact HB.out)) hb); clear HB; have HB := n0_; clear n0_; (try clear hb); (try clear hb2); (try clear hk); (try clear hi)) | (go_at_call 18; (with_reducible refine (hash_Next.calls a1 a2 t127 _ A16.out).mono ?_); rintro e w' ⟨rfl, ⟨nd, rfl⟩⟩) | (go_at_call 16; (with_reducible refine (treelineref06_Next.calls a1 a2 t128 _ A17.out).mono ?_); rintro e w' ⟨rfl, ⟨nd, rfl⟩⟩) | (go_at_call 20; (with_reducible refine (hash_Of.calls kj5 a0 t124 _ A11.out).mono ?_); rintro e w18 ⟨rfl, hb⟩; have n0_ := Aside0.mk (below_step (by repeat (first | (with_reducible first | exact HB.out | apply below_alloc | apply pw_below_drewN | apply below_drew1) | exact HB.out)) hb); clear HB; have HB := n0_; clear n0_; (try clear hb); (try clear hb2); (try clear hk); (try clear hi)) | (go_at_call 19; (with_reducible refine (treelineref06_Of.calls kj5 a0 t125 _ A12.out).mono ?_); rintro e w19 ⟨rfl, hb⟩; have n0_ := Aside0.mk (below_step (by repeat (first | (with_reducible first | exact HB.out | apply below_alloc | apply pw_below_drewN | apply below_drew1) | exact HB.out)) hb); clear HB; have HB := n0_; clear n0_; (try clear hb); (try clear hb2); (try clear hk); (try clear hi)))
              go_ret
              exact ⟨by first | rfl | (simp [errW_none, errW_some] <;> rfl) | (simp [*, errW_none, errW_some] <;> rfl), by repeat (first | (with_reducible first | exact HB.out | apply below_alloc | apply pw_below_drewN | apply below_drew1) | exact HB.out)⟩
          · rw [if_neg c15] at H
            have c15b0 : (t126 == x7_5) = false := beq_eq_false_iff_ne.mpr c15
            have c15b1 : (t126 != x7_5) = true := bne_iff_ne.mpr c15
            exact absurd ((Option.some.inj H).trans LRT.out) (by decide)
        · rw [if_neg c13] at H
          have c13b0 : (t124 == t125) = false := beq_eq_false_iff_ne.mpr c13
          have c13b1 : (t124 != t125) = true := bne_iff_ne.mpr c13
          exact absurd ((Option.some.inj H).trans LRT.out) (by decide)
  · replace c5 := Bool.eq_false_iff.mpr c5
    subst c5
    have H1 : (some false) = some r := by rw [if_neg (show ¬ (false = true) by decide)] at H; exact H
    clear H
    have H := H1
    clear H1
    exact absurd ((Option.some.inj H).trans LRT.out) (by decide)
/-- THE ONE PURE STATEMENT of treelinelaw06_HashPlays: yours. -/
def treelinelaw06_HashPlays.Pure : Prop := ∀ (a0 : Int) (a1 : Int) (a2 : Int), (Lit.int .u64 a0).wf = true → (Lit.int .i64 a1).wf = true → (Lit.int .i64 a2).wf = true → ∃ k, treelinelaw06_HashPlays.f k a0 a1 a2 = some true
theorem treelinelaw06_HashPlays.walk (P : treelinelaw06_HashPlays.Pure) (a0 : Int) (a1 : Int) (a2 : Int) (w : World) (w0 : (Lit.int .u64 a0).wf = true) (w1 : (Lit.int .i64 a1).wf = true) (w2 : (Lit.int .i64 a2).wf = true) :
    Calls Try.prog 6 #[.int .u64 a0, .int .i64 a1, .int .i64 a2] w fun e w' => e = .returned (.bool true) ∧ Below w.heap.size w w' := by
  obtain ⟨k, h⟩ := P a0 a1 a2 w0 w1 w2
  refine (treelinelaw06_HashPlays.calls k a0 a1 a2 true w h ⟨rfl⟩).mono ?_
  rintro e w' ⟨rfl, hd⟩
  exact ⟨rfl, hd⟩

end Go.Proofs.Ytfdjlempllmelaa.PHashPlays
