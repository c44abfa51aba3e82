/- What Go functions that the law RelayPlays uses come to, and why: part 2. Made out of the kit's print by a program of this session (wip/tools/stub.py, splice.py), functions that it does not take told by hand. -/
import Derived.Test.YtkgfpagfmdefgaaDoorORelayPlaysx1
namespace Go.Proofs.YtkgfpagfmdefgaaDoor.ORelayPlays
open Go.RowKit Go.Proofs.YtkgfpagfmdefgaaDoorW.PrintWords Go.Proofs.YtkgfpagfmdefgaaDoorW.PrintLast Go.Proofs.YtkgfpagfmdefgaaDoorW.PrintMore
attribute [local go_sem] max2_int min2_int max_two min_two max_three min_three max_four min_four   -- for this text's walks alone
set_option linter.unusedVariables false
set_option linter.unusedSimpArgs false

/-! ### treelineref18_Class: function 11; my own -/
def treelineref18_Class.f (a b q : Int) (l : List Int) : Option Int := if l.length ≤ 100000 ∧ 0 ≤ a ∧ a < 18446744073709551616 then some (Llc.clsOf a q l) else none
set_option maxHeartbeats 1000000 in
set_option maxRecDepth 100000 in
theorem treelineref18_Class.calls (a0_0 : Int) (a0_1 : Int) (a0_2 : Int) (A0_3 : Option Addr) (c0_3 : Nat) (l0_3 : List Int) (r : Int) (w : World) (hr0_3 : Kd.C (Kd.int .u8) w A0_3 l0_3.length l0_3) (hc0_3 : l0_3.length ≤ c0_3) (h : treelineref18_Class.f a0_0 a0_1 a0_2 l0_3 = some r) (HG : Aside0 (Llc.Glob w)) :
    Calls Tryd.prog 11 #[.agg #[.int .u64 a0_0, .int .u64 a0_1, .int .u16 a0_2, .slice A0_3 l0_3.length c0_3]] w fun e w' => e = .returned (.int .i64 r) ∧ Below w.heap.size w w' := by
  unfold treelineref18_Class.f at h
  split at h
  · rename_i hr
    obtain rfl := Option.some.inj h
    refine (Llc.RefClass_all w a0_0 a0_1 a0_2 A0_3 _ c0_3 l0_3 hr.2.1 hr.2.2 HG.out hr0_3 hc0_3 hr.1).mono ?_
    rintro e w' ⟨v, l, rfl, ⟨rfl, rfl⟩, H⟩
    exact ⟨rfl, H.below⟩
  · cases h


end Go.Proofs.YtkgfpagfmdefgaaDoor.ORelayPlays
