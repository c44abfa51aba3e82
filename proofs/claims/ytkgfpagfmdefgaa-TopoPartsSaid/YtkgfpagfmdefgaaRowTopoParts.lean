/- Which LANs are joined, by whatever ports that are on, is the document's. -/
import Derived.Test.YtkgfpagfmdefgaaRows
import Derived.Test.YtkgfpagfmdefgaaShapeTopoParts
import Derived.Test.YtkgfpagfmdefgaaPureTopoParts
import Derived.WalkKit
import Derived.ProofKit
import Derived.OpenShut
import Derived.ShutString
import Derived.ChangeOld
import Derived.Below
import Derived.SizedLaws
namespace Go.Proofs.Ytkgfpagfmdefgaa.topoParts
open Go.ChangeShapes Go.WideShapes Go.ChangeAt Go.RowKit Go.Proofs.YtkgfpagfmdefgaaW.PrintWords Go.Proofs.Ytkgfpagfmdefgaa.Open Go.Proofs.Ytkgfpagfmdefgaa.OTopoParts
open Go.ChangeMaps (open_string shut_string)
set_option linter.unusedVariables false
set_option linter.unusedSimpArgs false
theorem own : ownKnob Try.prog.godebug = none := by kernel_rfl
theorem laidOut : laidOutB Try.prog = true := by kernel_rfl
set_option maxRecDepth 100000 in
set_option maxHeartbeats 1000000 in
theorem lifted (os : Os) (started : os.Started) (H : Type) (enc : TypeId × Value → H) :
    ReturnsInHanded {} Try.checked os 4 .any (Rows.topoPartsSpec.pre6 enc Try.prog Try.f4 Rows.topoPartsRow.domain false) (Rows.topoPartsSpec.post enc Try.prog Try.f4 false true false false) := by
  refine returnsInHanded_of_change_sized (C := Try.checked) own started (by kernel_rfl) Try.func4
    (ChangeSpec.witness6 (enc := enc) (C := Try.checked) false ⟨#[], #[.agg #[.int .i64 0, .slice none 0 0, .slice none 0 0, .slice none 0 0], .slice none 0 0], []⟩ 8 (by kernel_rfl) (by kernel_rfl) (by kernel_rfl) (by kernel_rfl)) ?_
  intro W base args ds gs before hval0 hW hcnd hsz0 _
  have hval : ∀ (j : Nat) t v, Try.f4.params[j]? = some t → args[j]? = some v → Value.okWide Try.prog W .any base t v := hval0
  have hW' := hW
  obtain ⟨p, q, hA0, hV, rfl, hfz, hnd⟩ := hW
  have hA : DataW.TrodAll enc Try.prog W 0 (fun _ => true) true Try.f4.params.toList args.toList ds p := hA0
  rw [Try.params4] at hA hval
  obtain ⟨v0, vs0, d0, ds0, p0, q0, hargs, rfl, rfl, h0, r0⟩ := trodAll_cons hA
  obtain ⟨v1, vs1, d1, ds1, p1, q1, rfl, rfl, rfl, h1, r1⟩ := trodAll_cons r0
  obtain ⟨rfl, rfl, rfl⟩ := trodAll_nil r1
  obtain rfl : args = #[v0, v1] := by cases args; simp_all
  obtain ⟨rfl, rfl⟩ := trodVars_none hV
  have k0 := h0
  have lt0 : ∀ x ∈ p0, x.block < W.heap.size := by obtain ⟨m, hm⟩ := k0; exact DataW.trod_lt m _ _ _ hm
  have k1 := h1
  have lt1 : ∀ x ∈ p1, x.block < W.heap.size := by obtain ⟨m, hm⟩ := k1; exact DataW.trod_lt m _ _ _ hm
  obtain ⟨cs0, a0, rfl, K0, w0⟩ := struct_arg Try.underlying26 (opens26 W) (hval 0 26 v0 rfl rfl) h0
  obtain ⟨_, _, e0, rfl, ⟨_, _, rfl, ⟨A0_0, c0_0, rfl, hc0_0, hC0_0⟩, ⟨_, _, rfl, ⟨A0_1, c0_1, rfl, hc0_1, hC0_1⟩, ⟨A0_2, c0_2, rfl, hc0_2, hC0_2⟩⟩⟩⟩ := K0
  obtain rfl : cs0 = #[.int .i64 (a0.1), .slice A0_0 (a0.2.1).length c0_0, .slice A0_1 (a0.2.2.1).length c0_1, .slice A0_2 (a0.2.2.2).length c0_2] := by cases cs0; simp_all
  obtain ⟨A1, c1, l1, rfl, hc1, hC1, w1⟩ := slice_arg Try.underlying32 (opens_slice Try.underlying32 (by kernel_rfl) (opens_slice Try.underlying36 (by kernel_rfl) (opens_bool Try.underlying4))) (hval 1 32 v1 rfl rfl) h1
  clear hA0 hval0
  refine Calls.mono (R := fun e W' => e = .returned (.bool true) ∧ Below W.heap.size W W') ?_ (fun e W' h => ?_)
  · exact Pure.TopoParts W a0 l1 hC0_0 hc0_0 hC0_1 hc0_1 hC0_2 hc0_2 hC1 hc1
  · obtain ⟨he, bel⟩ := h
    subst he
    exact ⟨_, rfl, _, _, _, [], _, [], hW', trodAll_mk1 (shut_bool Try.underlying4 _), trodAll_cons_mk (Below.trod laidOut (by kernel_rfl) (of_decide_eq_true (by kernel_rfl)) k0 bel lt0) (trodAll_cons_mk (Below.trod laidOut (by kernel_rfl) (of_decide_eq_true (by kernel_rfl)) k1 bel lt1) trodAll_mk0), rfl, bel.frame _, fun h => by cases h⟩
theorem over : Rows.topoPartsRow.holds Try.pinned (OpenSpec.ofChange Rows.topoPartsSpec) :=
  OpenClaim.holds_of_wide 4 Try.f4 rfl rfl rfl rfl rfl rfl rfl ⟨rfl, rfl, rfl, rfl, rfl⟩ rfl rfl rfl rfl rfl (by kernel_rfl) Try.func4 (by kernel_rfl)
    (of_decide_eq_true (by kernel_rfl)) (by unfold Func.isWrapper; first | (rw [if_pos (by decide +kernel)]; kernel_rfl) | (rw [if_neg (by decide +kernel)]; exact ⟨rfl, rfl⟩))
    (fun os started H enc _ => lifted os started H enc)
theorem proved : Rows.TopoPartsSaid := over
#print axioms proved
end Go.Proofs.Ytkgfpagfmdefgaa.topoParts
namespace Go.Proofs.Ytkgfpagfmdefgaa
/-- The row, under a short name, for the claim. -/
theorem topoParts_holds : Rows.TopoPartsSaid := topoParts.proved
end Go.Proofs.Ytkgfpagfmdefgaa
