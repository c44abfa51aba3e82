/- Who may be has unlike numbers of bridges; a copy is alike, in new memory. -/
import Derived.Test.YtkgfpagfmdefgaaRows
import Derived.Test.YtkgfpagfmdefgaaShapeTopoRight
import Derived.Test.YtkgfpagfmdefgaaPureTopoRight
import Derived.WalkKit
import Derived.ProofKit
import Derived.OpenShut
import Derived.ShutString
import Derived.ChangeOld
import Derived.Below
import Derived.SizedLaws
namespace Go.Proofs.Ytkgfpagfmdefgaa.topoRight
open Go.ChangeShapes Go.WideShapes Go.ChangeAt Go.RowKit Go.Proofs.YtkgfpagfmdefgaaW.PrintWords Go.Proofs.Ytkgfpagfmdefgaa.Open Go.Proofs.Ytkgfpagfmdefgaa.OTopoRight
open Go.ChangeMaps (open_string shut_string)
set_option linter.unusedVariables false
set_option linter.unusedSimpArgs false
theorem own : ownKnob Try.prog.godebug = none := by kernel_rfl
theorem laidOut : laidOutB Try.prog = true := by kernel_rfl
set_option maxRecDepth 100000 in
set_option maxHeartbeats 1000000 in
theorem lifted (os : Os) (started : os.Started) (H : Type) (enc : TypeId × Value → H) :
    ReturnsInHanded {} Try.checked os 6 .any (Rows.topoRightSpec.pre6 enc Try.prog Try.f6 Rows.topoRightRow.domain false) (Rows.topoRightSpec.post enc Try.prog Try.f6 false true false false) := by
  refine returnsInHanded_of_change_sized (C := Try.checked) own started (by kernel_rfl) Try.func6
    (ChangeSpec.witness6 (enc := enc) (C := Try.checked) false ⟨#[], #[.agg #[.int .i64 0, .slice none 0 0, .slice none 0 0, .slice none 0 0]], []⟩ 8 (by kernel_rfl) (by kernel_rfl) (by kernel_rfl) (by kernel_rfl)) ?_
  intro W base args ds gs before hval0 hW hcnd hsz0 _
  have hval : ∀ (j : Nat) t v, Try.f6.params[j]? = some t → args[j]? = some v → Value.okWide Try.prog W .any base t v := hval0
  have hW' := hW
  obtain ⟨p, q, hA0, hV, rfl, hfz, hnd⟩ := hW
  have hA : DataW.TrodAll enc Try.prog W 0 (fun _ => true) true Try.f6.params.toList args.toList ds p := hA0
  rw [Try.params6] at hA hval
  obtain ⟨v0, vs0, d0, ds0, p0, q0, hargs, rfl, rfl, h0, r0⟩ := trodAll_cons hA
  obtain ⟨rfl, rfl, rfl⟩ := trodAll_nil r0
  obtain rfl : args = #[v0] := by cases args; simp_all
  obtain ⟨rfl, rfl⟩ := trodVars_none hV
  have k0 := h0
  have lt0 : ∀ x ∈ p0, x.block < W.heap.size := by obtain ⟨m, hm⟩ := k0; exact DataW.trod_lt m _ _ _ hm
  obtain ⟨cs0, a0, rfl, K0, w0⟩ := struct_arg Try.underlying26 (opens26 W) (hval 0 26 v0 rfl rfl) h0
  obtain ⟨_, _, e0, rfl, ⟨_, _, rfl, ⟨A0_0, c0_0, rfl, hc0_0, hC0_0⟩, ⟨_, _, rfl, ⟨A0_1, c0_1, rfl, hc0_1, hC0_1⟩, ⟨A0_2, c0_2, rfl, hc0_2, hC0_2⟩⟩⟩⟩ := K0
  obtain rfl : cs0 = #[.int .i64 (a0.1), .slice A0_0 (a0.2.1).length c0_0, .slice A0_1 (a0.2.2.1).length c0_1, .slice A0_2 (a0.2.2.2).length c0_2] := by cases cs0; simp_all
  clear hA0 hval0
  refine Calls.mono (R := fun e W' => e = .returned (.bool true) ∧ Below W.heap.size W W') ?_ (fun e W' h => ?_)
  · exact Pure.TopoRight W a0 ⟨fun y h => ⟨(w0.2.1 y h).1, (w0.2.1 y h).2.1⟩, fun y h => (w0.2.2.2 y h).1⟩ hC0_0 hc0_0 hC0_1 hc0_1 hC0_2 hc0_2
  · obtain ⟨he, bel⟩ := h
    subst he
    exact ⟨_, rfl, _, _, _, [], _, [], hW', trodAll_mk1 (shut_bool Try.underlying4 _), trodAll_cons_mk (Below.trod laidOut (by kernel_rfl) (of_decide_eq_true (by kernel_rfl)) k0 bel lt0) trodAll_mk0, rfl, bel.frame _, fun h => by cases h⟩
theorem over : Rows.topoRightRow.holds Try.pinned (OpenSpec.ofChange Rows.topoRightSpec) :=
  OpenClaim.holds_of_wide 6 Try.f6 rfl rfl rfl rfl rfl rfl rfl ⟨rfl, rfl, rfl, rfl, rfl⟩ rfl rfl rfl rfl rfl (by kernel_rfl) Try.func6 (by kernel_rfl)
    (of_decide_eq_true (by kernel_rfl)) (by unfold Func.isWrapper; first | (rw [if_pos (by decide +kernel)]; kernel_rfl) | (rw [if_neg (by decide +kernel)]; exact ⟨rfl, rfl⟩))
    (fun os started H enc _ => lifted os started H enc)
theorem proved : Rows.TopoRightSaid := over
#print axioms proved
end Go.Proofs.Ytkgfpagfmdefgaa.topoRight
namespace Go.Proofs.Ytkgfpagfmdefgaa
/-- The row, under a short name, for the claim. -/
theorem topoRight_holds : Rows.TopoRightSaid := topoRight.proved
end Go.Proofs.Ytkgfpagfmdefgaa
