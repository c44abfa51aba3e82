/- What Go functions that the law ScriptTells uses come to, and why: part 14. Made out of the kit's print by a program of this session (wip/tools/stub.py, splice.py), functions that it does not take told by hand. -/
import Derived.Test.YtiikllgppmmiaaaDoorOScriptTellsx13
namespace Go.Proofs.YtiikllgppmmiaaaDoor.OScriptTells
open Go.RowKit Go.Proofs.YtiikllgppmmiaaaDoorW.PrintWords Go.Proofs.YtiikllgppmmiaaaDoorW.PrintLast Go.Proofs.YtiikllgppmmiaaaDoorW.PrintMore
attribute [local go_sem] max2_int min2_int max_two min_two max_three min_three max_four min_four   -- for this text's walks alone
set_option linter.unusedVariables false
set_option linter.unusedSimpArgs false

/-! ### frame_Get: function 14; my own -/
def frame_Get.f (l0 : List Int) : Option (Int × Int × Int × List Int × Int) :=
  if l0.length ≤ 100000 ∧ (∀ y ∈ l0, 0 ≤ y ∧ y ≤ 255) ∧ 14 ≤ l0.length ∧ FrameG.kindL l0 ≤ 1500 ∧ 14 + (FrameG.kindL l0).toNat ≤ l0.length then some (FrameG.getF l0) else none
set_option maxHeartbeats 1000000 in
set_option maxRecDepth 100000 in
theorem frame_Get.calls (A0 : Option Addr) (c0 : Nat) (l0 : List Int) (r1 : Int) (r2 : Int) (r3 : Int) (r4 : List Int) (r5 : Int) (w : World) (hr0 : Kd.C (Kd.int .u8) w A0 l0.length l0) (hc0 : l0.length ≤ c0) (h : frame_Get.f l0 = some (r1, r2, r3, r4, r5)) :
  Calls Tryd.prog 14 #[.slice A0 l0.length c0] w fun e w' => ∃ v3_ : Value, e = .returned (.tuple #[.agg #[.int .u64 r1, .int .u64 r2, .int .u16 r3, v3_], .int .i64 r5]) ∧ Kd.R (Kd.int .u8) 5 w' w.heap.size (fun _ => True) v3_ r4 ∧ Below w.heap.size w w' := by
 unfold frame_Get.f at h
 split at h
 ·rename_i hr
  have he := Option.some.inj h
  have hk := (Wire.numR_lt ((l0.drop 12).take 2) (Wire.bytes_part hr.2.1 12 2) 2 (by simp; omega) (by decide)).1
  have hq : FrameG.kindL l0 = ((FrameG.kindL l0).toNat : Int) := (Int.toNat_of_nonneg hk).symm
  have hc := FrameG.Get_fit w A0 l0.length c0 l0 hr0 hc0 hr.1 hr.2.1 hr.2.2.1 _ _ (FrameG.kindL l0).toNat rfl rfl hq (by have := hr.2.2.2.1; omega) hr.2.2.2.2
  rw [he] at hc
  refine hc.mono ?_
  rintro e w' ⟨v, l, rfl, ⟨dv, rfl, rfl⟩, H⟩
  obtain ⟨v2, hv2, hR2, hB2⟩ := Sep.row_out (h1 := fun _ => rfl) (enc := fun n => Value.int .u8 n) (t := 5) (xs := r4) (w := w) (w' := w') (e := .returned dv) ⟨_, _, rfl, rfl, H⟩
  cases hv2
  exact ⟨_, rfl, hR2, H.below⟩
 cases h
/-! ### frame_Open: function 15; my own -/
def frame_Open.f (a0_0 : Int) (a0_1 : Int) (a0_2 : Int) (l0_3 : List Int) : Option (List Int × Bool) :=
  if l0_3.length ≤ 100000 ∧ a0_0 = 1652522221568 ∧ a0_2 ≤ 1500 ∧ 3 ≤ l0_3.length ∧ (l0_3.take 3 == [66, 66, 3]) = true then some (l0_3.drop 3, true) else none
set_option maxHeartbeats 1000000 in
set_option maxRecDepth 100000 in
theorem frame_Open.calls (a0_0 : Int) (a0_1 : Int) (a0_2 : Int) (A0_3 : Option Addr) (c0_3 : Nat) (l0_3 : List Int) (r1 : List Int) (r2 : Bool) (w : World) (hr0_3 : Kd.C (Kd.int .u8) w A0_3 l0_3.length l0_3) (hc0_3 : l0_3.length ≤ c0_3) (h : frame_Open.f a0_0 a0_1 a0_2 l0_3 = some (r1, r2)) (HG : Aside0 (Llc.Glob w)) :
  Calls Tryd.prog 15 #[.agg #[.int .u64 a0_0, .int .u64 a0_1, .int .u16 a0_2, .slice A0_3 l0_3.length c0_3]] w fun e w' => ∃ v0_ : Value, e = .returned (.tuple #[v0_, .bool r2]) ∧ Kd.R (Kd.int .u8) 5 w' w.heap.size (fun _ => True) v0_ r1 ∧ Below w.heap.size w w' := by
 unfold frame_Open.f at h
 split at h
 ·rename_i hr
  have he := Option.some.inj h
  simp only [Prod.mk.injEq] at he
  obtain ⟨rfl, rfl⟩ := he
  have hB : Llc.isB a0_0 a0_2 l0_3 = true := by
   unfold Llc.isB
   rw [decide_eq_true hr.2.1, decide_eq_true hr.2.2.1, hr.2.2.2.2]
   rfl
  have hL : Llc.openL a0_0 a0_2 l0_3 = l0_3.drop 3 := by unfold Llc.openL; rw [if_pos hB]
  refine (Llc.Open_yes w a0_0 a0_1 a0_2 A0_3 l0_3.length c0_3 l0_3 HG.out hr0_3 hc0_3 hr.1 hr.2.1 hr.2.2.1 hr.2.2.2.1 hr.2.2.2.2).mono ?_
  rintro e w' ⟨v, l, rfl, ⟨bv, rfl, rfl⟩, H⟩
  rw [hB, hL] at *
  obtain ⟨v2, hv2, hR2, hB2⟩ := Sep.row_out (h1 := fun _ => rfl) (enc := fun n => Value.int .u8 n) (t := 5) (xs := l0_3.drop 3) (w := w) (w' := w') (e := .returned bv) ⟨_, _, rfl, rfl, H⟩
  cases hv2
  exact ⟨_, rfl, hR2, H.below⟩
 cases h
end Go.Proofs.YtiikllgppmmiaaaDoor.OScriptTells
