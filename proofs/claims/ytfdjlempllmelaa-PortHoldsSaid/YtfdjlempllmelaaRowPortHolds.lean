/- x -/
import Derived.Test.YtfdjlempllmelaaRows
import Derived.Test.YtfdjlempllmelaaShapePortHolds
import Derived.Test.YtfdjlempllmelaaPurePortHolds
import Derived.WalkKit
import Derived.ProofKit
import Derived.OpenShut
import Derived.ShutString
import Derived.ChangeOld
import Derived.Below
import Derived.SizedLaws
namespace Go.Proofs.Ytfdjlempllmelaa.portHolds
open Go.ChangeShapes Go.WideShapes Go.ChangeAt Go.RowKit Go.Proofs.YtfdjlempllmelaaW.PrintWords Go.Proofs.Ytfdjlempllmelaa.Open Go.Proofs.Ytfdjlempllmelaa.PPortHolds
open Go.ChangeMaps (open_string shut_string)
set_option linter.unusedVariables false
set_option linter.unusedSimpArgs false
theorem own : ownKnob Try.prog.godebug = none := by kernel_rfl
theorem laidOut : laidOutB Try.prog = true := by kernel_rfl
set_option maxRecDepth 100000 in
set_option maxHeartbeats 1000000 in
theorem lifted (os : Os) (started : os.Started) (H : Type) (enc : TypeId × Value → H) :
    ReturnsInHanded {} Try.checked os 11 .any (Rows.portHoldsSpec.pre6 enc Try.prog Try.f11 Rows.portHoldsRow.domain false) (Rows.portHoldsSpec.post enc Try.prog Try.f11 false true false false) := by
  refine returnsInHanded_of_change_sized (C := Try.checked) own started (by kernel_rfl) Try.func11
    (ChangeSpec.witness6 (enc := enc) (C := Try.checked) false ⟨#[], #[.int .u16 0, .int .u32 0, .bool false, .agg #[.int .u64 0, .int .u32 0, .int .u64 0, .int .u16 0], .agg #[.int .u16 0, .int .i64 0, .int .u32 0, .int .u64 0, .int .u32 0, .int .u64 0, .int .u16 0, .bool false, .bool false, .bool false, .int .i64 0, .bool false, .int .i64 0, .bool false, .int .i64 0], .int .u64 0], []⟩ 8 (by kernel_rfl) (by kernel_rfl) (by kernel_rfl) (by kernel_rfl)) ?_
  intro W base args ds gs before hval0 hW hcnd hsz0 _
  have hval : ∀ (j : Nat) t v, Try.f11.params[j]? = some t → args[j]? = some v → Value.okWide Try.prog W .any base t v := hval0
  have hW' := hW
  obtain ⟨p, q, hA0, hV, rfl, hfz, hnd⟩ := hW
  have hA : DataW.TrodAll enc Try.prog W 0 (fun _ => true) true Try.f11.params.toList args.toList ds p := hA0
  rw [Try.params11] at hA hval
  obtain ⟨v0, vs0, d0, ds0, p0, q0, hargs, rfl, rfl, h0, r0⟩ := trodAll_cons hA
  obtain ⟨v1, vs1, d1, ds1, p1, q1, rfl, rfl, rfl, h1, r1⟩ := trodAll_cons r0
  obtain ⟨v2, vs2, d2, ds2, p2, q2, rfl, rfl, rfl, h2, r2⟩ := trodAll_cons r1
  obtain ⟨v3, vs3, d3, ds3, p3, q3, rfl, rfl, rfl, h3, r3⟩ := trodAll_cons r2
  obtain ⟨v4, vs4, d4, ds4, p4, q4, rfl, rfl, rfl, h4, r4⟩ := trodAll_cons r3
  obtain ⟨v5, vs5, d5, ds5, p5, q5, rfl, rfl, rfl, h5, r5⟩ := trodAll_cons r4
  obtain ⟨rfl, rfl, rfl⟩ := trodAll_nil r5
  obtain rfl : args = #[v0, v1, v2, v3, v4, v5] := by cases args; simp_all
  obtain ⟨rfl, rfl⟩ := trodVars_none hV
  have k0 := h0
  have lt0 : ∀ x ∈ p0, x.block < W.heap.size := by obtain ⟨m, hm⟩ := k0; exact DataW.trod_lt m _ _ _ hm
  have k1 := h1
  have lt1 : ∀ x ∈ p1, x.block < W.heap.size := by obtain ⟨m, hm⟩ := k1; exact DataW.trod_lt m _ _ _ hm
  have k2 := h2
  have lt2 : ∀ x ∈ p2, x.block < W.heap.size := by obtain ⟨m, hm⟩ := k2; exact DataW.trod_lt m _ _ _ hm
  have k3 := h3
  have lt3 : ∀ x ∈ p3, x.block < W.heap.size := by obtain ⟨m, hm⟩ := k3; exact DataW.trod_lt m _ _ _ hm
  have k4 := h4
  have lt4 : ∀ x ∈ p4, x.block < W.heap.size := by obtain ⟨m, hm⟩ := k4; exact DataW.trod_lt m _ _ _ hm
  have k5 := h5
  have lt5 : ∀ x ∈ p5, x.block < W.heap.size := by obtain ⟨m, hm⟩ := k5; exact DataW.trod_lt m _ _ _ hm
  obtain ⟨a0, rfl, -, -, w0⟩ := open_int Try.underlying22 (hval 0 22 v0 rfl rfl) h0
  obtain ⟨a1, rfl, -, -, w1⟩ := open_int Try.underlying31 (hval 1 31 v1 rfl rfl) h1
  obtain ⟨a2, rfl, -, -⟩ := open_bool Try.underlying4 (hval 2 4 v2 rfl rfl) h2
  obtain ⟨cs3, a3, rfl, K3, w3⟩ := struct_arg Try.underlying56 (opens56 W) (hval 3 56 v3 rfl rfl) h3
  obtain ⟨_, _, e3, rfl, ⟨_, _, rfl, rfl, ⟨_, _, rfl, rfl, rfl⟩⟩⟩ := K3
  obtain rfl : cs3 = #[.int .u64 (a3.1), .int .u32 (a3.2.1), .int .u64 (a3.2.2.1), .int .u16 (a3.2.2.2)] := by cases cs3; simp_all
  obtain ⟨cs4, a4, rfl, K4, w4⟩ := struct_arg Try.underlying58 (opens58 W) (hval 4 58 v4 rfl rfl) h4
  obtain ⟨_, _, e4, rfl, ⟨_, _, rfl, rfl, ⟨_, _, rfl, rfl, ⟨_, _, rfl, ⟨_, _, rfl, rfl, ⟨_, _, rfl, rfl, ⟨_, _, rfl, rfl, rfl⟩⟩⟩, ⟨_, _, rfl, rfl, ⟨_, _, rfl, rfl, ⟨_, _, rfl, ⟨_, _, rfl, rfl, rfl⟩, ⟨_, _, rfl, ⟨_, _, rfl, rfl, rfl⟩, ⟨_, _, rfl, rfl, rfl⟩⟩⟩⟩⟩⟩⟩⟩⟩ := K4
  obtain rfl : cs4 = #[.int .u16 (a4.1), .int .i64 (a4.2.1), .int .u32 (a4.2.2.1), .int .u64 (a4.2.2.2.1.1), .int .u32 (a4.2.2.2.1.2.1), .int .u64 (a4.2.2.2.1.2.2.1), .int .u16 (a4.2.2.2.1.2.2.2), .bool (a4.2.2.2.2.1), .bool (a4.2.2.2.2.2.1), .bool (a4.2.2.2.2.2.2.1.f0), .int .i64 (a4.2.2.2.2.2.2.1.f1), .bool (a4.2.2.2.2.2.2.2.1.f0), .int .i64 (a4.2.2.2.2.2.2.2.1.f1), .bool (a4.2.2.2.2.2.2.2.2.f0), .int .i64 (a4.2.2.2.2.2.2.2.2.f1)] := by cases cs4; simp_all
  obtain ⟨a5, rfl, -, -, w5⟩ := open_int Try.underlying30 (hval 5 30 v5 rfl rfl) h5
  clear hA0 hval0
  refine Calls.mono (R := fun e W' => e = .returned (.bool true) ∧ Below W.heap.size W W') ?_ (fun e W' h => ?_)
  · exact Pure.PortHolds W a0 a1 a2 a3 a4 a5 w0 w1 w3 w4 w5 
  · obtain ⟨he, bel⟩ := h
    subst he
    exact ⟨_, rfl, _, _, _, [], _, [], hW', trodAll_mk1 (shut_bool Try.underlying4 _), trodAll_cons_mk (Below.trod laidOut (by kernel_rfl) (of_decide_eq_true (by kernel_rfl)) k0 bel lt0) (trodAll_cons_mk (Below.trod laidOut (by kernel_rfl) (of_decide_eq_true (by kernel_rfl)) k1 bel lt1) (trodAll_cons_mk (Below.trod laidOut (by kernel_rfl) (of_decide_eq_true (by kernel_rfl)) k2 bel lt2) (trodAll_cons_mk (Below.trod laidOut (by kernel_rfl) (of_decide_eq_true (by kernel_rfl)) k3 bel lt3) (trodAll_cons_mk (Below.trod laidOut (by kernel_rfl) (of_decide_eq_true (by kernel_rfl)) k4 bel lt4) (trodAll_cons_mk (Below.trod laidOut (by kernel_rfl) (of_decide_eq_true (by kernel_rfl)) k5 bel lt5) trodAll_mk0))))), rfl, bel.frame _, fun h => by cases h⟩
theorem over : Rows.portHoldsRow.holds Try.pinned (OpenSpec.ofChange Rows.portHoldsSpec) :=
  OpenClaim.holds_of_wide 11 Try.f11 rfl rfl rfl rfl rfl rfl rfl ⟨rfl, rfl, rfl, rfl, rfl⟩ rfl rfl rfl rfl rfl (by kernel_rfl) Try.func11 (by kernel_rfl)
    (of_decide_eq_true (by kernel_rfl)) (by unfold Func.isWrapper; first | (rw [if_pos (by decide +kernel)]; kernel_rfl) | (rw [if_neg (by decide +kernel)]; exact ⟨rfl, rfl⟩))
    (fun os started H enc _ => lifted os started H enc)
theorem proved : Rows.PortHoldsSaid := over
#print axioms proved
end Go.Proofs.Ytfdjlempllmelaa.portHolds
namespace Go.Proofs.Ytfdjlempllmelaa
/-- The row, under a short name, for the claim. -/
theorem portHolds_holds : Rows.PortHoldsSaid := portHolds.proved
end Go.Proofs.Ytfdjlempllmelaa
