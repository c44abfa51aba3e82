/- What Go functions that the law RelayPlays uses come to, and why: part 0. Made out of the kit's print by a program of this session (wip/tools/stub.py, splice.py), functions that it does not take told by hand. -/
import Derived.Test.YtkgfpagfmdefgaaDoorProg
import Derived.Below
import Derived.Deep.Draws
import Derived.Deep.AppendLies
import Derived.Maps.AppendAt
import Derived.OwnWalk
import Derived.Laws.BytesArg
import Derived.Laws.MakeOwn
import Derived.Laws.OwnMore
import Derived.Deep.OwnRows
import Derived.Tactics
import Derived.Lib.ConvBytes
import Derived.Laws.Slices
import Derived.WalkKit
import Derived.KernelRfl
import Derived.RowKit3
import Derived.Deep.LoopGhost
import Derived.Deep.QuietTactic
import Derived.BigQuiet
import Derived.WideLaws
import Derived.Deep.DeepCutAuto
import Derived.Deep.CutBlock
import Derived.Deep.RegionHeld3
import Derived.Laws.Rows
import Derived.Lib.AppendStr
import Derived.ArgAppend
import Derived.Laws.IdiomCopy
import Derived.OrdersHeld
import Derived.Laws.BitsLemmas
import Derived.RowKit
import Derived.Test.YtkgfpagfmdefgaaDoorWWords
import Derived.Test.YtkgfpagfmdefgaaDoorWLast
import Derived.Test.YtkgfpagfmdefgaaDoorWTab
import Derived.Test.YtkgfpagfmdefgaaDoorWFour
import Derived.Test.YtkgfpagfmdefgaaDoorWQPut
import Derived.Test.YtkgfpagfmdefgaaDoorWApart
import Derived.Test.YtkgfpagfmdefgaaDoorWArr
import Derived.Test.YtkgfpagfmdefgaaDoorWZeros
import Derived.Test.YtkgfpagfmdefgaaDoorWFoot
import Derived.Test.YtkgfpagfmdefgaaDoorWKept
import Derived.Test.YtkgfpagfmdefgaaDoorWShare
import Derived.Test.YtkgfpagfmdefgaaDoorWN
import Derived.Test.YtkgfpagfmdefgaaDoorWFootNe
import Derived.Test.YtkgfpagfmdefgaaDoorWAt
import Derived.Test.YtkgfpagfmdefgaaDoorWEqStruct
import Derived.Test.YtkgfpagfmdefgaaDoorWRepsOne
import Derived.Test.YtkgfpagfmdefgaaDoorWInv
import Derived.Test.YtkgfpagfmdefgaaDoorWInvWords
import Derived.Test.YtkgfpagfmdefgaaDoorWGuard
import Derived.Test.YtkgfpagfmdefgaaDoorWNEv
import Derived.Test.YtkgfpagfmdefgaaDoorWMore
import Derived.Test.YtkgfpagfmdefgaaDoorPortsA
namespace Go.Proofs.YtkgfpagfmdefgaaDoor.ORelayPlays
open Go.RowKit Go.Proofs.YtkgfpagfmdefgaaDoorW.PrintWords Go.Proofs.YtkgfpagfmdefgaaDoorW.PrintLast Go.Proofs.YtkgfpagfmdefgaaDoorW.PrintMore
attribute [local go_sem] max2_int min2_int max_two min_two max_three min_three max_four min_four   -- for this text's walks alone
set_option linter.unusedVariables false
set_option linter.unusedSimpArgs false




def errW : Option Int → Value
  | none => .nilIface
  | some c => .iface 0 (.int .i64 c)
theorem errW_none : errW none = .nilIface := rfl
theorem errW_some (c : Int) : errW (some c) = .iface 0 (.int .i64 c) := rfl

theorem info3 : (Tryd.prog.info? 3).map (fun i => (i.zero, i.size, i.bytes)) = some (some (.int .i64 0), 1, 8) := by kernel_rfl
theorem info5 : (Tryd.prog.info? 5).map (fun i => (i.zero, i.size, i.bytes)) = some (some (.int .u8 0), 1, 1) := by kernel_rfl
-- the values' own types

/-! ### relay_Class: function 9; my own -/
def relay_Class.f (a b q : Int) (l : List Int) : Option Int := if l.length ≤ 100000 ∧ 0 ≤ a ∧ a < 18446744073709551616 then some (Llc.clsOf a q l) else none
set_option maxHeartbeats 1000000 in
set_option maxRecDepth 100000 in
theorem relay_Class.calls (a0_0 : Int) (a0_1 : Int) (a0_2 : Int) (A0_3 : Option Addr) (c0_3 : Nat) (l0_3 : List Int) (r : Int) (w : World) (hr0_3 : Kd.C (Kd.int .u8) w A0_3 l0_3.length l0_3) (hc0_3 : l0_3.length ≤ c0_3) (h : relay_Class.f a0_0 a0_1 a0_2 l0_3 = some r) (HG : Aside0 (Llc.Glob w)) :
    Calls Tryd.prog 9 #[.agg #[.int .u64 a0_0, .int .u64 a0_1, .int .u16 a0_2, .slice A0_3 l0_3.length c0_3]] w fun e w' => e = .returned (.int .i64 r) ∧ Below w.heap.size w w' := by
  unfold relay_Class.f at h
  split at h
  · rename_i hr
    obtain rfl := Option.some.inj h
    refine (Llc.Class_all w a0_0 a0_1 a0_2 A0_3 _ c0_3 l0_3 hr.2.1 hr.2.2 HG.out hr0_3 hc0_3 hr.1).mono ?_
    rintro e w' ⟨v, l, rfl, ⟨rfl, rfl⟩, H⟩
    exact ⟨rfl, H.below⟩
  · cases h

/-! ### ids_Group: function 16 -/
def ids_Group.f (a0 : Int) : Option (Bool) := some ((Go.bits .and .u64 (a0 / 1099511627776) 1) == 1)
set_option maxHeartbeats 8000000 in
set_option maxRecDepth 100000 in
theorem ids_Group.calls (a0 : Int) (r : Bool) (w : World) (h : ids_Group.f a0 = some r) :
    Calls Tryd.prog 16 #[.int .u64 a0] w fun e w' => e = .returned (.bool r) ∧ Drawn0 w w' := by
  have H : (some ((Go.bits .and .u64 (a0 / 1099511627776) 1) == 1)) = some r := h
  clear h
  obtain rfl := Option.some.inj H
  go_enter Tryd.func16, Tryd.ntmps16
  go_wp2
  go_ret
  exact ⟨by first | rfl | (simp; done) | (simp [*]; done), by repeat (first | exact Drawn0.refl _ | apply Drawn0.step)⟩

/-! ### relay_Ports: function 8; my own -/
def relay_Ports.f (a b q : Int) (l : List Int) (inn : Int) (st : List Int) (wh : Int) (kn : Bool) : Option (List Int) := if l.length ≤ 100000 ∧ 0 ≤ a ∧ a < 18446744073709551616 ∧ st.length ≤ 100000 then some (Llc.portsOf a q l inn st wh kn) else none
set_option maxHeartbeats 1000000 in
set_option maxRecDepth 100000 in
theorem relay_Ports.calls (a0_0 : Int) (a0_1 : Int) (a0_2 : Int) (A0_3 : Option Addr) (c0_3 : Nat) (l0_3 : List Int) (a1 : Int) (A2 : Option Addr) (c2 : Nat) (l2 : List Int) (a3 : Int) (a4 : Bool) (r : List Int) (w : World) (hr0_3 : Kd.C (Kd.int .u8) w A0_3 l0_3.length l0_3) (hc0_3 : l0_3.length ≤ c0_3) (hr2 : Kd.C (Kd.int .i64) w A2 l2.length l2) (hc2 : l2.length ≤ c2) (h : relay_Ports.f a0_0 a0_1 a0_2 l0_3 a1 l2 a3 a4 = some r) (HG : Aside0 (Llc.Glob w)) :
    Calls Tryd.prog 8 #[.agg #[.int .u64 a0_0, .int .u64 a0_1, .int .u16 a0_2, .slice A0_3 l0_3.length c0_3], .int .i64 a1, .slice A2 l2.length c2, .int .i64 a3, .bool a4] w fun e w' => ∃ v0_ : Value, e = .returned (v0_) ∧ Kd.R (Kd.int .i64) 3 w' w.heap.size (fun _ => True) v0_ r ∧ Below w.heap.size w w' := by
  unfold relay_Ports.f at h
  split at h
  · rename_i hr
    obtain rfl := Option.some.inj h
    exact Llc.Ports_all w a0_0 a0_1 a0_2 A0_3 _ c0_3 l0_3 a1 a3 a4 A2 _ c2 l2 hr2 hr.2.2.2 hr.2.1 hr.2.2.1 HG.out hr0_3 hc0_3 hr.1
  · cases h


end Go.Proofs.YtkgfpagfmdefgaaDoor.ORelayPlays
