/- For all arguments the law RankPlays answers true: which one is the better one, costs, and what takes the place of what, are the document's. -/
import Derived.Test.YtnoejdogickplaaRows
import Derived.Test.YtnoejdogickplaaShapeRankPlays
import Derived.Test.YtnoejdogickplaaPureRankPlays
import Derived.WalkKit
import Derived.ProofKit
import Derived.OpenShut
import Derived.ShutString
import Derived.ChangeOld
import Derived.Below
import Derived.SizedLaws
namespace Go.Proofs.Ytnoejdogickplaa.rankPlays
open Go.ChangeShapes Go.WideShapes Go.ChangeAt Go.RowKit Go.Proofs.YtnoejdogickplaaW.PrintWords Go.Proofs.Ytnoejdogickplaa.Open Go.Proofs.Ytnoejdogickplaa.PRankPlays
open Go.ChangeMaps (open_string shut_string)
set_option linter.unusedVariables false
set_option linter.unusedSimpArgs false
theorem own : ownKnob Try.prog.godebug = none := by kernel_rfl
theorem laidOut : laidOutB Try.prog = true := by kernel_rfl
set_option maxRecDepth 100000 in
set_option maxHeartbeats 1000000 in
theorem lifted (os : Os) (started : os.Started) (H : Type) (enc : TypeId × Value → H) :
    ReturnsInHanded {} Try.checked os 7 .any (Rows.rankPlaysSpec.pre6 enc Try.prog Try.f7 Rows.rankPlaysRow.domain false) (Rows.rankPlaysSpec.post enc Try.prog Try.f7 false true false false) := by
  refine returnsInHanded_of_change_sized (C := Try.checked) own started (by kernel_rfl) Try.func7
    (ChangeSpec.witness6 (enc := enc) (C := Try.checked) false ⟨#[], #[.agg #[.int .u64 0, .int .u32 0, .int .u64 0, .int .u16 0], .agg #[.int .u64 0, .int .u32 0, .int .u64 0, .int .u16 0], .int .u64 0, .int .u32 0], []⟩ 8 (by kernel_rfl) (by kernel_rfl) (by kernel_rfl) (by kernel_rfl)) ?_
  intro W base args ds gs before hval0 hW hcnd hsz0 _
  have hval : ∀ (j : Nat) t v, Try.f7.params[j]? = some t → args[j]? = some v → Value.okWide Try.prog W .any base t v := hval0
  have hW' := hW
  obtain ⟨p, q, hA0, hV, rfl, hfz, hnd⟩ := hW
  have hA : DataW.TrodAll enc Try.prog W 0 (fun _ => true) true Try.f7.params.toList args.toList ds p := hA0
  rw [Try.params7] at hA hval
  obtain ⟨v0, vs0, d0, ds0, p0, q0, hargs, rfl, rfl, h0, r0⟩ := trodAll_cons hA
  obtain ⟨v1, vs1, d1, ds1, p1, q1, rfl, rfl, rfl, h1, r1⟩ := trodAll_cons r0
  obtain ⟨v2, vs2, d2, ds2, p2, q2, rfl, rfl, rfl, h2, r2⟩ := trodAll_cons r1
  obtain ⟨v3, vs3, d3, ds3, p3, q3, rfl, rfl, rfl, h3, r3⟩ := trodAll_cons r2
  obtain ⟨rfl, rfl, rfl⟩ := trodAll_nil r3
  obtain rfl : args = #[v0, v1, v2, v3] := by cases args; simp_all
  obtain ⟨rfl, rfl⟩ := trodVars_none hV
  have k0 := h0
  have lt0 : ∀ x ∈ p0, x.block < W.heap.size := by obtain ⟨m, hm⟩ := k0; exact DataW.trod_lt m _ _ _ hm
  have k1 := h1
  have lt1 : ∀ x ∈ p1, x.block < W.heap.size := by obtain ⟨m, hm⟩ := k1; exact DataW.trod_lt m _ _ _ hm
  have k2 := h2
  have lt2 : ∀ x ∈ p2, x.block < W.heap.size := by obtain ⟨m, hm⟩ := k2; exact DataW.trod_lt m _ _ _ hm
  have k3 := h3
  have lt3 : ∀ x ∈ p3, x.block < W.heap.size := by obtain ⟨m, hm⟩ := k3; exact DataW.trod_lt m _ _ _ hm
  obtain ⟨cs0, a0, rfl, K0, w0⟩ := struct_arg Try.underlying31 (opens31 W) (hval 0 31 v0 rfl rfl) h0
  obtain ⟨_, _, e0, rfl, ⟨_, _, rfl, rfl, ⟨_, _, rfl, rfl, rfl⟩⟩⟩ := K0
  obtain rfl : cs0 = #[.int .u64 (a0.1), .int .u32 (a0.2.1), .int .u64 (a0.2.2.1), .int .u16 (a0.2.2.2)] := by cases cs0; simp_all
  obtain ⟨cs1, a1, rfl, K1, w1⟩ := struct_arg Try.underlying31 (opens31 W) (hval 1 31 v1 rfl rfl) h1
  obtain ⟨_, _, e1, rfl, ⟨_, _, rfl, rfl, ⟨_, _, rfl, rfl, rfl⟩⟩⟩ := K1
  obtain rfl : cs1 = #[.int .u64 (a1.1), .int .u32 (a1.2.1), .int .u64 (a1.2.2.1), .int .u16 (a1.2.2.2)] := by cases cs1; simp_all
  obtain ⟨a2, rfl, -, -, w2⟩ := open_int Try.underlying22 (hval 2 22 v2 rfl rfl) h2
  obtain ⟨a3, rfl, -, -, w3⟩ := open_int Try.underlying24 (hval 3 24 v3 rfl rfl) h3
  clear hA0 hval0
  obtain ⟨k, hk⟩ := Pure.RankPlays a0 a1 a2 a3 w0 w1 w2 w3
  refine Calls.mono (R := fun e W' => e = .returned (.bool true) ∧ Below W.heap.size W W') ?_ (fun e W' h => ?_)
  · apply treelinelaw10_RankPlays.calls <;> first | exact hk | exact ⟨rfl⟩ | assumption
  · obtain ⟨he, bel⟩ := h
    subst he
    exact ⟨_, rfl, _, _, _, [], _, [], hW', trodAll_mk1 (shut_bool Try.underlying4 _), trodAll_cons_mk (Below.trod laidOut (by kernel_rfl) (of_decide_eq_true (by kernel_rfl)) k0 bel lt0) (trodAll_cons_mk (Below.trod laidOut (by kernel_rfl) (of_decide_eq_true (by kernel_rfl)) k1 bel lt1) (trodAll_cons_mk (Below.trod laidOut (by kernel_rfl) (of_decide_eq_true (by kernel_rfl)) k2 bel lt2) (trodAll_cons_mk (Below.trod laidOut (by kernel_rfl) (of_decide_eq_true (by kernel_rfl)) k3 bel lt3) trodAll_mk0))), rfl, bel.frame _, fun h => by cases h⟩
theorem over : Rows.rankPlaysRow.holds Try.pinned (OpenSpec.ofChange Rows.rankPlaysSpec) :=
  OpenClaim.holds_of_wide 7 Try.f7 rfl rfl rfl rfl rfl rfl rfl ⟨rfl, rfl, rfl, rfl, rfl⟩ rfl rfl rfl rfl rfl (by kernel_rfl) Try.func7 (by kernel_rfl)
    (of_decide_eq_true (by kernel_rfl)) (by unfold Func.isWrapper; first | (rw [if_pos (by decide +kernel)]; kernel_rfl) | (rw [if_neg (by decide +kernel)]; exact ⟨rfl, rfl⟩))
    (fun os started H enc _ => lifted os started H enc)
theorem proved : Rows.RankPlaysSaid := over
#print axioms proved
end Go.Proofs.Ytnoejdogickplaa.rankPlays
namespace Go.Proofs.Ytnoejdogickplaa
/-- The row, under a short name, for the claim. -/
theorem rankPlays_holds : Rows.RankPlaysSaid := rankPlays.proved
end Go.Proofs.Ytnoejdogickplaa
