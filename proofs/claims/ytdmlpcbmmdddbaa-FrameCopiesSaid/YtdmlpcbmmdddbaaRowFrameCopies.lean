/- For all two frames the law FrameCopies answers true: a copy is alike, in new memory. -/
import Derived.Test.YtdmlpcbmmdddbaaRows
import Derived.Test.YtdmlpcbmmdddbaaShapeFrameCopies
import Derived.Test.YtdmlpcbmmdddbaaPureFrameCopies
import Derived.WalkKit
import Derived.ProofKit
import Derived.OpenShut
import Derived.ShutString
import Derived.ChangeOld
import Derived.Below
import Derived.SizedLaws
namespace Go.Proofs.Ytdmlpcbmmdddbaa.frameCopies
open Go.ChangeShapes Go.WideShapes Go.ChangeAt Go.RowKit Go.Proofs.YtdmlpcbmmdddbaaW.PrintWords Go.Proofs.Ytdmlpcbmmdddbaa.Open Go.Proofs.Ytdmlpcbmmdddbaa.PFrameCopies
open Go.ChangeMaps (open_string shut_string)
set_option linter.unusedVariables false
set_option linter.unusedSimpArgs false
theorem own : ownKnob Try.prog.godebug = none := by kernel_rfl
theorem laidOut : laidOutB Try.prog = true := by kernel_rfl
set_option maxRecDepth 100000 in
set_option maxHeartbeats 1000000 in
theorem lifted (os : Os) (started : os.Started) (H : Type) (enc : TypeId × Value → H) :
    ReturnsInHanded {} Try.checked os 5 .any (Rows.frameCopiesSpec.pre6 enc Try.prog Try.f5 Rows.frameCopiesRow.domain false) (Rows.frameCopiesSpec.post enc Try.prog Try.f5 false true false false) := by
  refine returnsInHanded_of_change_sized (C := Try.checked) own started (by kernel_rfl) Try.func5
    (ChangeSpec.witness6 (enc := enc) (C := Try.checked) false ⟨#[], #[.agg #[.int .u64 0, .int .u64 0, .int .u16 0, .slice none 0 0], .agg #[.int .u64 0, .int .u64 0, .int .u16 0, .slice none 0 0]], []⟩ 8 (by kernel_rfl) (by kernel_rfl) (by kernel_rfl) (by kernel_rfl)) ?_
  intro W base args ds gs before hval0 hW hcnd hsz0 _
  have hval : ∀ (j : Nat) t v, Try.f5.params[j]? = some t → args[j]? = some v → Value.okWide Try.prog W .any base t v := hval0
  have hW' := hW
  obtain ⟨p, q, hA0, hV, rfl, hfz, hnd⟩ := hW
  have hA : DataW.TrodAll enc Try.prog W 0 (fun _ => true) true Try.f5.params.toList args.toList ds p := hA0
  rw [Try.params5] at hA hval
  obtain ⟨v0, vs0, d0, ds0, p0, q0, hargs, rfl, rfl, h0, r0⟩ := trodAll_cons hA
  obtain ⟨v1, vs1, d1, ds1, p1, q1, rfl, rfl, rfl, h1, r1⟩ := trodAll_cons r0
  obtain ⟨rfl, rfl, rfl⟩ := trodAll_nil r1
  obtain rfl : args = #[v0, v1] := by cases args; simp_all
  obtain ⟨rfl, rfl⟩ := trodVars_none hV
  have k0 := h0
  have lt0 : ∀ x ∈ p0, x.block < W.heap.size := by obtain ⟨m, hm⟩ := k0; exact DataW.trod_lt m _ _ _ hm
  have k1 := h1
  have lt1 : ∀ x ∈ p1, x.block < W.heap.size := by obtain ⟨m, hm⟩ := k1; exact DataW.trod_lt m _ _ _ hm
  obtain ⟨cs0, a0, rfl, K0, w0⟩ := struct_arg Try.underlying27 (opens27 W) (hval 0 27 v0 rfl rfl) h0
  obtain ⟨_, _, e0, rfl, ⟨_, _, rfl, rfl, ⟨_, _, rfl, rfl, ⟨A0_0, c0_0, rfl, hc0_0, hC0_0⟩⟩⟩⟩ := K0
  obtain rfl : cs0 = #[.int .u64 (a0.1), .int .u64 (a0.2.1), .int .u16 (a0.2.2.1), .slice A0_0 (a0.2.2.2).length c0_0] := by cases cs0; simp_all
  obtain ⟨cs1, a1, rfl, K1, w1⟩ := struct_arg Try.underlying27 (opens27 W) (hval 1 27 v1 rfl rfl) h1
  obtain ⟨_, _, e1, rfl, ⟨_, _, rfl, rfl, ⟨_, _, rfl, rfl, ⟨A1_0, c1_0, rfl, hc1_0, hC1_0⟩⟩⟩⟩ := K1
  obtain rfl : cs1 = #[.int .u64 (a1.1), .int .u64 (a1.2.1), .int .u16 (a1.2.2.1), .slice A1_0 (a1.2.2.2).length c1_0] := by cases cs1; simp_all
  clear hA0 hval0
  obtain ⟨k, hk⟩ := Pure.FrameCopies a0 a1 w0 w1
  refine Calls.mono (R := fun e W' => e = .returned (.bool true) ∧ Below W.heap.size W W') ?_ (fun e W' h => ?_)
  · apply treelinelaw04_FrameCopies.calls <;> first | exact hk | exact ⟨rfl⟩ | assumption
  · obtain ⟨he, bel⟩ := h
    subst he
    exact ⟨_, rfl, _, _, _, [], _, [], hW', trodAll_mk1 (shut_bool Try.underlying4 _), trodAll_cons_mk (Below.trod laidOut (by kernel_rfl) (of_decide_eq_true (by kernel_rfl)) k0 bel lt0) (trodAll_cons_mk (Below.trod laidOut (by kernel_rfl) (of_decide_eq_true (by kernel_rfl)) k1 bel lt1) trodAll_mk0), rfl, bel.frame _, fun h => by cases h⟩
theorem over : Rows.frameCopiesRow.holds Try.pinned (OpenSpec.ofChange Rows.frameCopiesSpec) :=
  OpenClaim.holds_of_wide 5 Try.f5 rfl rfl rfl rfl rfl rfl rfl ⟨rfl, rfl, rfl, rfl, rfl⟩ rfl rfl rfl rfl rfl (by kernel_rfl) Try.func5 (by kernel_rfl)
    (of_decide_eq_true (by kernel_rfl)) (by unfold Func.isWrapper; first | (rw [if_pos (by decide +kernel)]; kernel_rfl) | (rw [if_neg (by decide +kernel)]; exact ⟨rfl, rfl⟩))
    (fun os started H enc _ => lifted os started H enc)
theorem proved : Rows.FrameCopiesSaid := over
#print axioms proved
end Go.Proofs.Ytdmlpcbmmdddbaa.frameCopies
namespace Go.Proofs.Ytdmlpcbmmdddbaa
/-- The row, under a short name, for the claim. -/
theorem frameCopies_holds : Rows.FrameCopiesSaid := frameCopies.proved
end Go.Proofs.Ytdmlpcbmmdddbaa
