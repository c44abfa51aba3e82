/- What Go functions that the law ScriptReads uses come to, and why: part 10. Made out of the kit's print by a program of this session (wip/tools/stub.py, splice.py), functions that it does not take told by hand. -/
import Derived.Test.YtiikllgppmmiaaaDoorOScriptReadsx9
namespace Go.Proofs.YtiikllgppmmiaaaDoor.OScriptReads
open Go.RowKit Go.Proofs.YtiikllgppmmiaaaDoorW.PrintWords Go.Proofs.YtiikllgppmmiaaaDoorW.PrintLast Go.Proofs.YtiikllgppmmiaaaDoorW.PrintMore
attribute [local go_sem] max2_int min2_int max_two min_two max_three min_three max_four min_four   -- for this text's walks alone
set_option linter.unusedVariables false
set_option linter.unusedSimpArgs false

/-! ### frame_Wrap: function 33; my own -/
def frame_Wrap.f (a0 : Int) (l1 : List Int) : Option (Int × Int × Int × List Int) := if l1.length ≤ 60000 then some (1652522221568, a0, ((([66, 66, 3] : List Int) ++ l1).length : Int), ([66, 66, 3] : List Int) ++ l1) else none
set_option maxHeartbeats 1000000 in
set_option maxRecDepth 100000 in
theorem frame_Wrap.calls (a0 : Int) (A1 : Option Addr) (c1 : Nat) (l1 : List Int) (r1 : Int) (r2 : Int) (r3 : Int) (r4 : List Int) (w : World) (hr1 : Kd.C (Kd.int .u8) w A1 l1.length l1) (hc1 : l1.length ≤ c1) (h : frame_Wrap.f a0 l1 = some (r1, r2, r3, r4)) (HG : Aside0 (Llc.Glob w)) :
  Calls Tryd.prog 33 #[.int .u64 a0, .slice A1 l1.length c1] w fun e w' => ∃ v3_ : Value, e = .returned (.agg #[.int .u64 r1, .int .u64 r2, .int .u16 r3, v3_]) ∧ Kd.R (Kd.int .u8) 5 w' w.heap.size (fun _ => True) v3_ r4 ∧ Below w.heap.size w w' := by
 unfold frame_Wrap.f at h
 split at h
 ·rename_i hr
  have h2 := Option.some.inj h
  simp only [Prod.mk.injEq] at h2
  obtain ⟨rfl, rfl, rfl, rfl⟩ := h2
  refine (Llc.Wrap_calls w a0 A1 l1.length c1 l1 HG.out hr1 hr _ rfl).mono ?_
  rintro e w' ⟨v, l, rfl, ⟨A, c, rfl, rfl, hc⟩, H⟩
  refine ⟨_, rfl, ?_, H.below⟩
  obtain ⟨v2, hv2, hR2, hB2⟩ := Sep.row_out (h1 := fun _ => rfl) (enc := fun n => Value.int .u8 n) (t := 5) (xs := ([66, 66, 3] : List Int) ++ l1) (w := w) (w' := w') (e := .returned (.slice A (([66, 66, 3] : List Int) ++ l1).length c)) ⟨_, _, rfl, rfl, H⟩
  cases hv2
  exact hR2
 cases h
/-! ### script_to: function 34 -/
def script_to.f (a0 : Int) : Option (Int) := if (Int.tmod a0 5) = 4 then (some 281474976710655) else ((script_address.f 2 (Int.tmod a0 5)).bind fun t233 => (some t233))
set_option maxHeartbeats 8000000 in
set_option maxRecDepth 100000 in
theorem script_to.calls (a0 : Int) (r : Int) (w : World) (h : script_to.f a0 = some r) :
  Calls Tryd.prog 34 #[.int .i64 a0] w fun e w' => e = .returned (.int .u64 r) ∧ Drawn0 w w' := by
 have H : (if (Int.tmod a0 5) = 4 then (some 281474976710655) else ((script_address.f 2 (Int.tmod a0 5)).bind fun t233 => (some t233))) = some r := h
 clear h
 by_cases c2 : (Int.tmod a0 5) = 4
 ·rw [if_pos c2] at H
  have c2b0 : ((Int.tmod a0 5) == 4) = true := beq_iff_eq.mpr c2
  have c2b1 : ((Int.tmod a0 5) != 4) = false := bne_eq_false_iff_eq.mpr c2
  clear c2
  obtain rfl := Option.some.inj H
  go_enter Tryd.func34, Tryd.ntmps34
  go_wp2
  go_ret
  exact ⟨by first | rfl | (simp; done) | (simp [*]; done), by repeat (first | exact Drawn0.refl _ | apply Drawn0.step)⟩
 rw [if_neg c2] at H
 have c2b0 : ((Int.tmod a0 5) == 4) = false := beq_eq_false_iff_ne.mpr c2
 have c2b1 : ((Int.tmod a0 5) != 4) = true := bne_iff_ne.mpr c2
 replace H := Option.bind_eq_some_iff.mp H
 obtain ⟨t233, A30, H⟩ := H
 (try dsimp only at H)
 have A3 := Aside0.mk A30
 clear A30
 obtain rfl := Option.some.inj H
 go_enter Tryd.func34, Tryd.ntmps34
 go_wp2_with (first | ((with_reducible refine gate_callee (f := 30) rfl ?_); refine gL (some 8) Tryd.func30 #[.int .i64 2, .int .i64 (Int.tmod a0 5)] ?_; (with_reducible refine (script_address.calls 2 (Int.tmod a0 5) t233 _ A3.out).mono ?_); rintro e w' ⟨rfl, ⟨nd, rfl⟩⟩; refine ⟨_, rfl, ?_⟩) | (go_at_call 30; (with_reducible refine (script_address.calls 2 (Int.tmod a0 5) t233 _ A3.out).mono ?_); rintro e w' ⟨rfl, ⟨nd, rfl⟩⟩))
 go_ret
 exact ⟨by first | rfl | (simp; done) | (simp [*]; done), by repeat (first | exact Drawn0.refl _ | apply Drawn0.step)⟩
end Go.Proofs.YtiikllgppmmiaaaDoor.OScriptReads
