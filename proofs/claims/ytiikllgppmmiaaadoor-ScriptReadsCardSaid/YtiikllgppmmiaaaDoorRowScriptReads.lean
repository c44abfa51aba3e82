/- What is proved: any bytes tell the document's network and ops (ScriptReads). For every byte slice; no further condition. -/
import Derived.Test.YtiikllgppmmiaaaDoorRows
import Derived.Test.YtiikllgppmmiaaaDoorShapeScriptReads
import Derived.Test.YtiikllgppmmiaaaDoorPureScriptReads
import Derived.WalkKit
import Derived.ProofKit
import Derived.OpenShut
import Derived.ShutString
import Derived.ChangeOld
import Derived.Below
import Derived.SizedLaws
import Derived.LaidMore
import Derived.Stop.Joined
import Derived.SevenTiedAt
import Derived.Test.YtiikllgppmmiaaaDoorCards
import Derived.Test.YtiikllgppmmiaaaDoorTie
import Derived.Test.YtiikllgppmmiaaaDoorLlcG
namespace Go.Proofs.YtiikllgppmmiaaaDoor.scriptReads
open Go.ChangeShapes Go.WideShapes Go.ChangeAt Go.RowKit Go.Proofs.YtiikllgppmmiaaaDoorW.PrintWords Go.Proofs.YtiikllgppmmiaaaDoor.Open Go.Proofs.YtiikllgppmmiaaaDoor.OScriptReads
open Go.ChangeMaps (open_string shut_string)
set_option linter.unusedVariables false
set_option linter.unusedSimpArgs false
theorem own : ownKnob Tryd.prog.godebug = none := by kernel_rfl
theorem laidOut : laidOutB Tryd.prog = true := by kernel_rfl
def laidL : List (String × DataW Unit) := [("treeline/frame.llc", Rows.laid_treeline_frame_llc)]
theorem gLlc : Tryd.prog.globalNamed "treeline/frame.llc" = some 0 := by kernel_rfl
theorem tLlc : (Tryd.prog.globals[0]?).map (·.type) = some 76 := by kernel_rfl
/-- The door's own heap meets the condition. -/
theorem door_met (os : Os) (args : Array Value) : laidMetH Tryd.prog laidL ((World.doorLaid Tryd.prog 400 os).forCall (fun _ _ => 0) ⟨#[], args, []⟩).memory :=
  laidMetH_of_parts3 (fuel := 8) (laidMet_of_run' 8 (by kernel_rfl) (by kernel_rfl)) (by kernel_rfl) (by kernel_rfl)
/-- What the condition gives the walks: the table's three cells. -/
theorem of_laid {W : World} (h : laidMetH Tryd.prog laidL W) : Llc.Glob W := by
  rw [MakeChecks.laidMetH_plain _ _ _ (by kernel_rfl)] at h
  obtain ⟨ps, ⟨g0, t0, cs0, f0, p0, q0, hg0, ht0, hv0, hd0, _, _⟩, _, _⟩ := h
  obtain rfl := Option.some.inj (gLlc.symm.trans hg0)
  obtain rfl := Option.some.inj (tLlc.symm.trans ht0)
  obtain ⟨xs, m1, rfl, hx1, hlen, hn3, hel⟩ := DataW.trod_array Llc.undArr hd0
  have c3 : Tryd.prog.cellsOf 5 = 1 := by kernel_rfl
  have c24 : Tryd.prog.cellsOf 76 = 3 := by kernel_rfl
  have h0 := hel 0 (by decide)
  have h1 := hel 1 (by decide)
  have h2 := hel 2 (by decide)
  simp only [Prod.mk.injEq, Rows.laid_treeline_frame_llc, DataW.agg.injEq] at hx1
  match xs, hn3, hx1, h0, h1, h2 with
  | [x0, x1, x2], _, hx1, h0, h1, h2 =>
    simp only [List.map_cons, List.map_nil, List.cons.injEq] at hx1
    obtain ⟨k0, e0, a0, _⟩ := DataW.trod_int Tryd.underlying5 (show DataW.trod _ Tryd.prog W 0 _ false m1 5 _ = some x0 from h0)
    obtain ⟨k1, e1, a1, _⟩ := DataW.trod_int Tryd.underlying5 (show DataW.trod _ Tryd.prog W 0 _ false m1 5 _ = some x1 from h1)
    obtain ⟨k2, e2, a2, _⟩ := DataW.trod_int Tryd.underlying5 (show DataW.trod _ Tryd.prog W 0 _ false m1 5 _ = some x2 from h2)
    have hk0 : k0 = 66 := by rw [a0] at hx1; simpa using hx1.1.1.symm
    have hk1 : k1 = 66 := by rw [a1] at hx1; simpa using hx1.1.2.1.symm
    have hk2 : k2 = 3 := by rw [a2] at hx1; simpa using hx1.1.2.2.1.symm
    subst hk0; subst hk1; subst hk2
    have w0 := World.var?_cell hg0 hv0 0
    have w1 := World.var?_cell hg0 hv0 1
    have w2 := World.var?_cell hg0 hv0 2
    obtain ⟨l1⟩ := cs0
    rw [c3] at e0 e1 e2
    match l1, hlen, e0, e1, e2 with
    | c0 :: c1 :: c2 :: r, _, e0, e1, e2 =>
      simp at e0 e1 e2
      subst e0; subst e1; subst e2
      exact ⟨by simpa using w0, by simpa using w1, by simpa using w2⟩
    | [], _, e0, _, _ => simp at e0
    | [_], _, _, e1, _ => simp at e1
    | [_, _], _, _, _, e2 => simp at e2
set_option maxRecDepth 100000 in
set_option maxHeartbeats 1000000 in
theorem lifted (os : Os) (started : os.Started) (H : Type) (enc : TypeId × Value → H) :
    ReturnsInHanded {} Tryd.checked os 3 .any (fun w args => (Rows.scriptReadsSpec.pre enc Tryd.prog Tryd.f3 [] false w args ∧ laidMetH Tryd.prog laidL w) ∧ sizedMet enc Tryd.prog Tryd.f3 (OpenSpec.ofChange Rows.scriptReadsSpec) false w args)
      (Rows.scriptReadsSpec.post enc Tryd.prog Tryd.f3 false true false false) := by
  refine returnsInHanded_of_change_and (C := Tryd.checked) (X := fun w _ => laidMetH Tryd.prog laidL w) (fun _ _ _ hh h => h.of_heap hh) own started (by kernel_rfl) Tryd.func3
    (ChangeSpec.witness_shaped (enc := enc) (C := Tryd.checked) (os := os) (X := fun w _ => laidMetH Tryd.prog laidL w) false (World.doorLaid Tryd.prog 400 os) #[.slice none 0 0] 8 rfl (World.shaped_of_RefB (by kernel_rfl) (by kernel_rfl)) (by kernel_rfl) (by kernel_rfl) (by kernel_rfl) (door_met os _)) ?_
  intro W base args ds gs before hval0 hW _ _ hL _
  have hval : ∀ (j : Nat) t v, Tryd.f3.params[j]? = some t → args[j]? = some v → Value.okWide Tryd.prog W .any base t v := hval0
  have hW' := hW
  obtain ⟨p, q, hA0, hV, rfl, hfz, hnd⟩ := hW
  have hA : DataW.TrodAll enc Tryd.prog W 0 (fun _ => true) true Tryd.f3.params.toList args.toList ds p := hA0
  rw [Tryd.params3] at hA hval
  obtain ⟨v0, vs0, d0, ds0, p0, q0, hargs, rfl, rfl, h0, r0⟩ := trodAll_cons hA
  obtain ⟨rfl, rfl, rfl⟩ := trodAll_nil r0
  obtain rfl : args = #[v0] := by cases args; simp_all
  obtain ⟨rfl, rfl⟩ := trodVars_none hV
  have k0 := h0
  have lt0 : ∀ x ∈ p0, x.block < W.heap.size := by obtain ⟨m, hm⟩ := k0; exact DataW.trod_lt m _ _ _ hm
  obtain ⟨A0, c0, l0, rfl, hc0, hC0, w0⟩ := slice_arg Tryd.underlying22 (opens_slice Tryd.underlying22 (by kernel_rfl) (opens_int Tryd.underlying5)) (hval 0 22 v0 rfl rfl) h0
  clear hA0 hval0
  have hG := of_laid hL
  refine Calls.mono (R := fun e W' => e = .returned (.bool true) ∧ Below W.heap.size W W') ?_ (fun e W' h => ?_)
  · exact Pure.ScriptReads W l0 w0 hG hC0 hc0
  · obtain ⟨he, bel⟩ := h
    subst he
    exact ⟨_, rfl, _, _, _, [], _, [], hW', trodAll_mk1 (shut_bool Tryd.underlying4 _), trodAll_cons_mk (Below.trod laidOut (by kernel_rfl) (of_decide_eq_true (by kernel_rfl)) k0 bel lt0) trodAll_mk0, rfl, bel.frame _, fun h => by cases h⟩
theorem over : Rows.scriptReadsRow.holds Tryd.pinned (OpenSpec.ofChange Rows.scriptReadsSpec) :=
  OpenClaim.holds_of_wide 3 Tryd.f3 rfl rfl rfl rfl rfl rfl rfl ⟨rfl, rfl, rfl, rfl, rfl⟩ rfl rfl rfl rfl rfl (by kernel_rfl) Tryd.func3 (by kernel_rfl)
    (of_decide_eq_true (by kernel_rfl)) (by unfold Func.isWrapper; first | (rw [if_pos (by decide +kernel)]; kernel_rfl) | (rw [if_neg (by decide +kernel)]; exact ⟨rfl, rfl⟩))
    (fun os started H enc _ => lifted os started H enc)
theorem proved : Rows.ScriptReadsSaid := over
theorem card_holds : Rows.ScriptReadsCardSaid :=
  Claim7.holds_tied_plain_at .later [] [.widerDeep] true (true, "9bbda62ded07f5d0c6a3b55085a18f5a2ae71336a7bd81d26a9d13717f8e6727") false
    proved (fun _ h => by cases h) (by kernel_rfl) (fun _ h => by cases h) scriptReads_row_tie rfl ⟨rfl, rfl⟩ (by kernel_rfl) rfl
    (fun f fn hf hfn => by
      obtain rfl : f = 3 := Option.some.inj ((show Tryd.prog.funcNamed "treeline/treelinelaw24.ScriptReads" = some 3 by kernel_rfl).symm.trans hf) |>.symm
      obtain rfl : fn = Tryd.f3 := (Option.some.inj (Tryd.func3.symm.trans hfn)).symm
      exact ⟨by kernel_rfl, fun j t ht => by
        rw [Tryd.params3] at ht
        have hm : t ∈ [22] := by simpa using Array.mem_of_getElem? ht
        have hall : ([22].all fun u => !Tryd.prog.wantsStandIn u) = true := by kernel_rfl
        exact (show Tryd.prog.wantsStandIn t = false by simpa using List.all_eq_true.1 hall t hm)⟩)
    (by kernel_rfl)
#print axioms card_holds
end Go.Proofs.YtiikllgppmmiaaaDoor.scriptReads
namespace Go.Proofs.YtiikllgppmmiaaaDoor
/-- The row, under a short name, for the claim. -/
theorem scriptReads_holds : Rows.ScriptReadsCardSaid := scriptReads.card_holds
end Go.Proofs.YtiikllgppmmiaaaDoor
