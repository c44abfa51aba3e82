/- What Go functions that the law ScriptReads uses come to, and why: part 0. Made out of the kit's print by a program of this session (wip/tools/stub.py, splice.py), functions that it does not take told by hand. -/
import Derived.Test.YtiikllgppmmiaaaDoorProg
import Derived.Below
import Derived.Deep.Draws
import Derived.Deep.AppendLies
import Derived.Maps.AppendAt
import Derived.OwnWalk
import Derived.Laws.BytesArg
import Derived.Laws.MakeOwn
import Derived.Laws.OwnMore
import Derived.Deep.OwnRows
import Derived.Tactics
import Derived.Lib.ConvBytes
import Derived.Laws.Slices
import Derived.WalkKit
import Derived.KernelRfl
import Derived.RowKit3
import Derived.Deep.LoopGhost
import Derived.Deep.QuietTactic
import Derived.BigQuiet
import Derived.WideLaws
import Derived.Deep.DeepCutAuto
import Derived.Deep.CutBlock
import Derived.Deep.RegionHeld3
import Derived.Laws.Rows
import Derived.Lib.AppendStr
import Derived.ArgAppend
import Derived.Laws.IdiomCopy
import Derived.OrdersHeld
import Derived.Laws.BitsLemmas
import Derived.RowKit
import Derived.Test.YtiikllgppmmiaaaDoorWWords
import Derived.Test.YtiikllgppmmiaaaDoorWLast
import Derived.Test.YtiikllgppmmiaaaDoorWTab
import Derived.Test.YtiikllgppmmiaaaDoorWFour
import Derived.Test.YtiikllgppmmiaaaDoorWQPut
import Derived.Test.YtiikllgppmmiaaaDoorWApart
import Derived.Test.YtiikllgppmmiaaaDoorWArr
import Derived.Test.YtiikllgppmmiaaaDoorWZeros
import Derived.Test.YtiikllgppmmiaaaDoorWFoot
import Derived.Test.YtiikllgppmmiaaaDoorWKept
import Derived.Test.YtiikllgppmmiaaaDoorWShare
import Derived.Test.YtiikllgppmmiaaaDoorWN
import Derived.Test.YtiikllgppmmiaaaDoorWFootNe
import Derived.Test.YtiikllgppmmiaaaDoorWAt
import Derived.Test.YtiikllgppmmiaaaDoorWEqStruct
import Derived.Test.YtiikllgppmmiaaaDoorWRepsOne
import Derived.Test.YtiikllgppmmiaaaDoorWInv
import Derived.Test.YtiikllgppmmiaaaDoorWInvWords
import Derived.Test.YtiikllgppmmiaaaDoorWGuard
import Derived.Test.YtiikllgppmmiaaaDoorWNEv
import Derived.Test.YtiikllgppmmiaaaDoorWMore
import Derived.Test.YtiikllgppmmiaaaDoorLlcG
namespace Go.Proofs.YtiikllgppmmiaaaDoor.OScriptReads
open Go.RowKit Go.Proofs.YtiikllgppmmiaaaDoorW.PrintWords Go.Proofs.YtiikllgppmmiaaaDoorW.PrintLast Go.Proofs.YtiikllgppmmiaaaDoorW.PrintMore
attribute [local go_sem] max2_int min2_int max_two min_two max_three min_three max_four min_four   -- for this text's walks alone
set_option linter.unusedVariables false
set_option linter.unusedSimpArgs false




def errW : Option Int → Value
  | none => .nilIface
  | some c => .iface 0 (.int .i64 c)
theorem errW_none : errW none = .nilIface := rfl
theorem errW_some (c : Int) : errW (some c) = .iface 0 (.int .i64 c) := rfl

theorem info3 : (Tryd.prog.info? 3).map (fun i => (i.zero, i.size, i.bytes)) = some (some (.int .i64 0), 1, 8) := by kernel_rfl
theorem info5 : (Tryd.prog.info? 5).map (fun i => (i.zero, i.size, i.bytes)) = some (some (.int .u8 0), 1, 1) := by kernel_rfl
theorem info39 : (Tryd.prog.info? 39).map (fun i => (i.zero, i.size, i.bytes)) = some (some (.agg #[(.int .i64 0), (.int .i64 0), (.int .i64 0), (.bool false), (.int .u64 0), (.slice none 0 0)]), 6, 64) := by kernel_rfl
theorem info51 : (Tryd.prog.info? 51).map (fun i => (i.zero, i.size, i.bytes)) = some (some (.agg #[(.int .u64 0), (.int .u16 0), (.int .i64 0), (.int .i64 0), (.int .i64 0), (.int .i64 0), (.int .i64 0), (.slice none 0 0)]), 8, 80) := by kernel_rfl
theorem info63 : (Tryd.prog.info? 63).map (fun i => (i.zero, i.size, i.bytes)) = some (some (.agg #[(.int .u8 0), (.int .u32 0), (.bool false)]), 3, 12) := by kernel_rfl
theorem info64 : (Tryd.prog.info? 64).map (fun i => (i.zero, i.size, i.bytes)) = some (some (.slice none 0 0), 1, 24) := by kernel_rfl
theorem info66 : (Tryd.prog.info? 66).map (fun i => (i.zero, i.size, i.bytes)) = some (some (.agg #[(.int .u64 0), (.int .i64 0)]), 2, 16) := by kernel_rfl
-- the values' own types
/-! #### struct type 63 -/
structure S63 where
  f0 : Int
  f1 : Int
  f2 : Bool
def z63 : S63 := ⟨(0 : Int), (0 : Int), false⟩
def k63 : Kd S63 := Kd.iso (Kd.pair (Kd.int .u8) (Kd.pair (Kd.int .u32) Kd.bool)) (fun x : S63 => (x.f0, x.f1, x.f2))
theorem k63_open {w : World} {x : S63} {cs : List Value} (h : k63.K w x cs) : cs = [.int .u8 x.f0, .int .u32 x.f1, .bool x.f2] := by
  obtain ⟨_, _, rfl, rfl, ⟨_, _, rfl, rfl, rfl⟩⟩ := h
  exact rfl
theorem k63_openM {w : World} {base : Nat} {ok : Nat → Prop} {x : S63} {cs : List Value} (h : k63.M w base ok x cs) : cs = [.int .u8 x.f0, .int .u32 x.f1, .bool x.f2] := by
  obtain ⟨_, _, rfl, rfl, ⟨_, _, rfl, rfl, rfl⟩⟩ := h
  exact rfl
theorem k63_mk (w : World) (x : S63)  : k63.K w x [.int .u8 x.f0, .int .u32 x.f1, .bool x.f2] := ⟨[.int .u8 x.f0], [.int .u32 x.f1, .bool x.f2], rfl, rfl, ⟨[.int .u32 x.f1], [.bool x.f2], rfl, rfl, rfl⟩⟩
theorem k63_mkM (w : World) (base : Nat) (ok : Nat → Prop) (x : S63)  : k63.M w base ok x [.int .u8 x.f0, .int .u32 x.f1, .bool x.f2] := ⟨[.int .u8 x.f0], [.int .u32 x.f1, .bool x.f2], rfl, rfl, ⟨[.int .u32 x.f1], [.bool x.f2], rfl, rfl, rfl⟩⟩
theorem k63_mkF (W : World) (ok : Nat → Prop) (x : S63) : Kd.FK k63 W ok x [.int .u8 x.f0, .int .u32 x.f1, .bool x.f2] := fun W2 _ => k63_mk W2 x
def rd_T63 (xs : List S63) (i : Int) : S63 := xs.getD i.toNat z63
theorem at_T63 {w : World} {A : Option Addr} {n : Nat} {xs : List S63} (h : Kd.C k63 w A n xs) (i : Int) (h0 : 0 ≤ i) (h1 : i < n) : ∃ ad , A = some ad ∧ w.cell? (ad.add (i.toNat * 3)) = some (.int .u8 (rd_T63 xs i).f0) ∧ w.cell? ⟨(ad.add (i.toNat * 3)).block, (ad.add (i.toNat * 3)).off + 1, none⟩ = some (.int .u32 (rd_T63 xs i).f1) ∧ w.cell? ⟨(ad.add (i.toNat * 3)).block, (ad.add (i.toNat * 3)).off + 2, none⟩ = some (.bool (rd_T63 xs i).f2) := by
  obtain ⟨ad, c, e, _, hK, hc0⟩ := Kd.C_get h z63 i h0 h1
  have hc : ∀ j u, c[j]? = some u → w.cell? (ad.add (i.toNat * 3 + j)) = some u := hc0
  obtain rfl := k63_open hK
  exact ⟨ad, e, hc 0 _ rfl, by rw [← add_field _ _ 1 (by omega)]; exact hc 1 _ rfl, by rw [← add_field _ _ 2 (by omega)]; exact hc 2 _ rfl⟩

def rd_L7 (xs : List (List S63)) (i : Int) : (List S63) := xs.getD i.toNat ([] : List S63)
theorem at_L7 {w : World} {A : Option Addr} {n : Nat} {xs : List (List S63)} (h : Kd.C (Kd.slice 63 k63) w A n xs) (i : Int) (h0 : 0 ≤ i) (h1 : i < n) : ∃ ad A0 c0, A = some ad ∧ w.cell? (ad.add i.toNat) = some (.slice A0 (rd_L7 xs i).length c0) ∧ (rd_L7 xs i).length ≤ c0 ∧ k63.C w A0 (rd_L7 xs i).length (rd_L7 xs i) := by
  obtain ⟨ad, c, e, _, hK, hc0⟩ := Kd.C_get h ([] : List S63) i h0 h1
  have hc : ∀ j u, c[j]? = some u → w.cell? (ad.add (i.toNat * 1 + j)) = some u := hc0
  obtain ⟨A0, c0, rfl, l0, g0⟩ := hK
  exact ⟨ad, A0, c0, e, by have hq := hc 0 _ rfl; rwa [Nat.mul_one, Nat.add_zero] at hq, l0, g0⟩

/-! #### struct type 51 -/
structure S51 where
  f0 : Int
  f1 : Int
  f2 : Int
  f3 : Int
  f4 : Int
  f5 : Int
  f6 : Int
  f7 : (List S63)
def z51 : S51 := ⟨(0 : Int), (0 : Int), (0 : Int), (0 : Int), (0 : Int), (0 : Int), (0 : Int), ([] : List S63)⟩
def k51 : Kd S51 := Kd.iso (Kd.pair (Kd.int .u64) (Kd.pair (Kd.int .u16) (Kd.pair (Kd.int .i64) (Kd.pair (Kd.int .i64) (Kd.pair (Kd.int .i64) (Kd.pair (Kd.int .i64) (Kd.pair (Kd.int .i64) (Kd.slice 63 k63)))))))) (fun x : S51 => (x.f0, x.f1, x.f2, x.f3, x.f4, x.f5, x.f6, x.f7))
theorem k51_open {w : World} {x : S51} {cs : List Value} (h : k51.K w x cs) : ∃ A7 c7, cs = [.int .u64 x.f0, .int .u16 x.f1, .int .i64 x.f2, .int .i64 x.f3, .int .i64 x.f4, .int .i64 x.f5, .int .i64 x.f6, .slice A7 x.f7.length c7] ∧ x.f7.length ≤ c7 ∧ k63.C w A7 x.f7.length x.f7 := by
  obtain ⟨_, _, rfl, rfl, ⟨_, _, rfl, rfl, ⟨_, _, rfl, rfl, ⟨_, _, rfl, rfl, ⟨_, _, rfl, rfl, ⟨_, _, rfl, rfl, ⟨_, _, rfl, rfl, ⟨A7, c7, rfl, l7, g7⟩⟩⟩⟩⟩⟩⟩⟩ := h
  exact ⟨A7, c7, rfl, l7, g7⟩
theorem k51_openM {w : World} {base : Nat} {ok : Nat → Prop} {x : S51} {cs : List Value} (h : k51.M w base ok x cs) : ∃ v7, cs = [.int .u64 x.f0, .int .u16 x.f1, .int .i64 x.f2, .int .i64 x.f3, .int .i64 x.f4, .int .i64 x.f5, .int .i64 x.f6, v7] ∧ k63.R 63 w base ok v7 x.f7 := by
  obtain ⟨_, _, rfl, rfl, ⟨_, _, rfl, rfl, ⟨_, _, rfl, rfl, ⟨_, _, rfl, rfl, ⟨_, _, rfl, rfl, ⟨_, _, rfl, rfl, ⟨_, _, rfl, rfl, ⟨v7, rfl, g7⟩⟩⟩⟩⟩⟩⟩⟩ := h
  exact ⟨v7, rfl, g7⟩
theorem k51_mk (w : World) (x : S51) {A7 : Option Addr} {c7 : Nat} (l7 : x.f7.length ≤ c7) (g7 : k63.C w A7 x.f7.length x.f7) : k51.K w x [.int .u64 x.f0, .int .u16 x.f1, .int .i64 x.f2, .int .i64 x.f3, .int .i64 x.f4, .int .i64 x.f5, .int .i64 x.f6, .slice A7 x.f7.length c7] := ⟨[.int .u64 x.f0], [.int .u16 x.f1, .int .i64 x.f2, .int .i64 x.f3, .int .i64 x.f4, .int .i64 x.f5, .int .i64 x.f6, .slice A7 x.f7.length c7], rfl, rfl, ⟨[.int .u16 x.f1], [.int .i64 x.f2, .int .i64 x.f3, .int .i64 x.f4, .int .i64 x.f5, .int .i64 x.f6, .slice A7 x.f7.length c7], rfl, rfl, ⟨[.int .i64 x.f2], [.int .i64 x.f3, .int .i64 x.f4, .int .i64 x.f5, .int .i64 x.f6, .slice A7 x.f7.length c7], rfl, rfl, ⟨[.int .i64 x.f3], [.int .i64 x.f4, .int .i64 x.f5, .int .i64 x.f6, .slice A7 x.f7.length c7], rfl, rfl, ⟨[.int .i64 x.f4], [.int .i64 x.f5, .int .i64 x.f6, .slice A7 x.f7.length c7], rfl, rfl, ⟨[.int .i64 x.f5], [.int .i64 x.f6, .slice A7 x.f7.length c7], rfl, rfl, ⟨[.int .i64 x.f6], [.slice A7 x.f7.length c7], rfl, rfl, ⟨A7, c7, rfl, l7, g7⟩⟩⟩⟩⟩⟩⟩⟩
theorem k51_mkM (w : World) (base : Nat) (ok : Nat → Prop) (x : S51) {v7 : Value} (g7 : k63.R 63 w base ok v7 x.f7) : k51.M w base ok x [.int .u64 x.f0, .int .u16 x.f1, .int .i64 x.f2, .int .i64 x.f3, .int .i64 x.f4, .int .i64 x.f5, .int .i64 x.f6, v7] := ⟨[.int .u64 x.f0], [.int .u16 x.f1, .int .i64 x.f2, .int .i64 x.f3, .int .i64 x.f4, .int .i64 x.f5, .int .i64 x.f6, v7], rfl, rfl, ⟨[.int .u16 x.f1], [.int .i64 x.f2, .int .i64 x.f3, .int .i64 x.f4, .int .i64 x.f5, .int .i64 x.f6, v7], rfl, rfl, ⟨[.int .i64 x.f2], [.int .i64 x.f3, .int .i64 x.f4, .int .i64 x.f5, .int .i64 x.f6, v7], rfl, rfl, ⟨[.int .i64 x.f3], [.int .i64 x.f4, .int .i64 x.f5, .int .i64 x.f6, v7], rfl, rfl, ⟨[.int .i64 x.f4], [.int .i64 x.f5, .int .i64 x.f6, v7], rfl, rfl, ⟨[.int .i64 x.f5], [.int .i64 x.f6, v7], rfl, rfl, ⟨[.int .i64 x.f6], [v7], rfl, rfl, ⟨v7, rfl, g7⟩⟩⟩⟩⟩⟩⟩⟩
theorem k51_openF {W : World} {ok : Nat → Prop} {x : S51} {cs : List Value} (h : Kd.FK k51 W ok x cs) : ∃ A7 c7, cs = [.int .u64 x.f0, .int .u16 x.f1, .int .i64 x.f2, .int .i64 x.f3, .int .i64 x.f4, .int .i64 x.f5, .int .i64 x.f6, .slice A7 x.f7.length c7] ∧ x.f7.length ≤ c7 ∧ Kd.F k63 W ok A7 x.f7.length x.f7 := by
  obtain ⟨A7, c7, rfl, l7, _⟩ := k51_open (Kd.FK_now h)
  exact ⟨A7, c7, rfl, l7, (fun W' hW => by obtain ⟨A7_, c7_, he, l7_, g7_⟩ := k51_open (h W' hW); injection (Option.some.inj (show some (Value.slice A7 x.f7.length c7) = some (Value.slice A7_ x.f7.length c7_) from congrArg (fun l => l[7]?) he)) with ha_ _ _; rw [ha_]; exact g7_)⟩
theorem k51_mkF (W : World) (ok : Nat → Prop) (x : S51) {A7 : Option Addr} {c7 : Nat} (l7 : x.f7.length ≤ c7) (g7 : Kd.F k63 W ok A7 x.f7.length x.f7) : Kd.FK k51 W ok x [.int .u64 x.f0, .int .u16 x.f1, .int .i64 x.f2, .int .i64 x.f3, .int .i64 x.f4, .int .i64 x.f5, .int .i64 x.f6, .slice A7 x.f7.length c7] := fun W2 hW => k51_mk W2 x l7 (g7 W2 hW)
def rd_T51 (xs : List S51) (i : Int) : S51 := xs.getD i.toNat z51
theorem at_T51 {w : World} {A : Option Addr} {n : Nat} {xs : List S51} (h : Kd.C k51 w A n xs) (i : Int) (h0 : 0 ≤ i) (h1 : i < n) : ∃ ad A7 c7, A = some ad ∧ w.cell? (ad.add (i.toNat * 8)) = some (.int .u64 (rd_T51 xs i).f0) ∧ w.cell? ⟨(ad.add (i.toNat * 8)).block, (ad.add (i.toNat * 8)).off + 1, none⟩ = some (.int .u16 (rd_T51 xs i).f1) ∧ w.cell? ⟨(ad.add (i.toNat * 8)).block, (ad.add (i.toNat * 8)).off + 2, none⟩ = some (.int .i64 (rd_T51 xs i).f2) ∧ w.cell? ⟨(ad.add (i.toNat * 8)).block, (ad.add (i.toNat * 8)).off + 3, none⟩ = some (.int .i64 (rd_T51 xs i).f3) ∧ w.cell? ⟨(ad.add (i.toNat * 8)).block, (ad.add (i.toNat * 8)).off + 4, none⟩ = some (.int .i64 (rd_T51 xs i).f4) ∧ w.cell? ⟨(ad.add (i.toNat * 8)).block, (ad.add (i.toNat * 8)).off + 5, none⟩ = some (.int .i64 (rd_T51 xs i).f5) ∧ w.cell? ⟨(ad.add (i.toNat * 8)).block, (ad.add (i.toNat * 8)).off + 6, none⟩ = some (.int .i64 (rd_T51 xs i).f6) ∧ w.cell? ⟨(ad.add (i.toNat * 8)).block, (ad.add (i.toNat * 8)).off + 7, none⟩ = some (.slice A7 (rd_T51 xs i).f7.length c7) ∧ (rd_T51 xs i).f7.length ≤ c7 ∧ k63.C w A7 (rd_T51 xs i).f7.length (rd_T51 xs i).f7 := by
  obtain ⟨ad, c, e, _, hK, hc0⟩ := Kd.C_get h z51 i h0 h1
  have hc : ∀ j u, c[j]? = some u → w.cell? (ad.add (i.toNat * 8 + j)) = some u := hc0
  obtain ⟨A7, c7, rfl, l7, g7⟩ := k51_open hK
  exact ⟨ad, A7, c7, e, hc 0 _ rfl, by rw [← add_field _ _ 1 (by omega)]; exact hc 1 _ rfl, by rw [← add_field _ _ 2 (by omega)]; exact hc 2 _ rfl, by rw [← add_field _ _ 3 (by omega)]; exact hc 3 _ rfl, by rw [← add_field _ _ 4 (by omega)]; exact hc 4 _ rfl, by rw [← add_field _ _ 5 (by omega)]; exact hc 5 _ rfl, by rw [← add_field _ _ 6 (by omega)]; exact hc 6 _ rfl, by rw [← add_field _ _ 7 (by omega)]; exact hc 7 _ rfl, l7, g7⟩

def rd_L9 (xs : List (List Int)) (i : Int) : (List Int) := xs.getD i.toNat ([] : List Int)
theorem at_L9 {w : World} {A : Option Addr} {n : Nat} {xs : List (List Int)} (h : Kd.C (Kd.slice 3 (Kd.int .i64)) w A n xs) (i : Int) (h0 : 0 ≤ i) (h1 : i < n) : ∃ ad A0 c0, A = some ad ∧ w.cell? (ad.add i.toNat) = some (.slice A0 (rd_L9 xs i).length c0) ∧ (rd_L9 xs i).length ≤ c0 ∧ (Kd.int .i64).C w A0 (rd_L9 xs i).length (rd_L9 xs i) := by
  obtain ⟨ad, c, e, _, hK, hc0⟩ := Kd.C_get h ([] : List Int) i h0 h1
  have hc : ∀ j u, c[j]? = some u → w.cell? (ad.add (i.toNat * 1 + j)) = some u := hc0
  obtain ⟨A0, c0, rfl, l0, g0⟩ := hK
  exact ⟨ad, A0, c0, e, by have hq := hc 0 _ rfl; rwa [Nat.mul_one, Nat.add_zero] at hq, l0, g0⟩

/-! #### struct type 66 -/
structure S66 where
  f0 : Int
  f1 : Int
def z66 : S66 := ⟨(0 : Int), (0 : Int)⟩
def k66 : Kd S66 := Kd.iso (Kd.pair (Kd.int .u64) (Kd.int .i64)) (fun x : S66 => (x.f0, x.f1))
theorem k66_open {w : World} {x : S66} {cs : List Value} (h : k66.K w x cs) : cs = [.int .u64 x.f0, .int .i64 x.f1] := by
  obtain ⟨_, _, rfl, rfl, rfl⟩ := h
  exact rfl
theorem k66_openM {w : World} {base : Nat} {ok : Nat → Prop} {x : S66} {cs : List Value} (h : k66.M w base ok x cs) : cs = [.int .u64 x.f0, .int .i64 x.f1] := by
  obtain ⟨_, _, rfl, rfl, rfl⟩ := h
  exact rfl
theorem k66_mk (w : World) (x : S66)  : k66.K w x [.int .u64 x.f0, .int .i64 x.f1] := ⟨[.int .u64 x.f0], [.int .i64 x.f1], rfl, rfl, rfl⟩
theorem k66_mkM (w : World) (base : Nat) (ok : Nat → Prop) (x : S66)  : k66.M w base ok x [.int .u64 x.f0, .int .i64 x.f1] := ⟨[.int .u64 x.f0], [.int .i64 x.f1], rfl, rfl, rfl⟩
theorem k66_mkF (W : World) (ok : Nat → Prop) (x : S66) : Kd.FK k66 W ok x [.int .u64 x.f0, .int .i64 x.f1] := fun W2 _ => k66_mk W2 x
def rd_T66 (xs : List S66) (i : Int) : S66 := xs.getD i.toNat z66
theorem at_T66 {w : World} {A : Option Addr} {n : Nat} {xs : List S66} (h : Kd.C k66 w A n xs) (i : Int) (h0 : 0 ≤ i) (h1 : i < n) : ∃ ad , A = some ad ∧ w.cell? (ad.add (i.toNat * 2)) = some (.int .u64 (rd_T66 xs i).f0) ∧ w.cell? ⟨(ad.add (i.toNat * 2)).block, (ad.add (i.toNat * 2)).off + 1, none⟩ = some (.int .i64 (rd_T66 xs i).f1) := by
  obtain ⟨ad, c, e, _, hK, hc0⟩ := Kd.C_get h z66 i h0 h1
  have hc : ∀ j u, c[j]? = some u → w.cell? (ad.add (i.toNat * 2 + j)) = some u := hc0
  obtain rfl := k66_open hK
  exact ⟨ad, e, hc 0 _ rfl, by rw [← add_field _ _ 1 (by omega)]; exact hc 1 _ rfl⟩

def rd_L11 (xs : List (List Int)) (i : Int) : (List Int) := xs.getD i.toNat ([] : List Int)
theorem at_L11 {w : World} {A : Option Addr} {n : Nat} {xs : List (List Int)} (h : Kd.C (Kd.slice 5 (Kd.int .u8)) w A n xs) (i : Int) (h0 : 0 ≤ i) (h1 : i < n) : ∃ ad A0 c0, A = some ad ∧ w.cell? (ad.add i.toNat) = some (.slice A0 (rd_L11 xs i).length c0) ∧ (rd_L11 xs i).length ≤ c0 ∧ (Kd.int .u8).C w A0 (rd_L11 xs i).length (rd_L11 xs i) := by
  obtain ⟨ad, c, e, _, hK, hc0⟩ := Kd.C_get h ([] : List Int) i h0 h1
  have hc : ∀ j u, c[j]? = some u → w.cell? (ad.add (i.toNat * 1 + j)) = some u := hc0
  obtain ⟨A0, c0, rfl, l0, g0⟩ := hK
  exact ⟨ad, A0, c0, e, by have hq := hc 0 _ rfl; rwa [Nat.mul_one, Nat.add_zero] at hq, l0, g0⟩

/-! #### struct type 39 -/
structure S39 where
  f0 : Int
  f1 : Int
  f2 : Int
  f3 : Bool
  f4 : Int
  f5 : (List Int)
def z39 : S39 := ⟨(0 : Int), (0 : Int), (0 : Int), false, (0 : Int), ([] : List Int)⟩
def k39 : Kd S39 := Kd.iso (Kd.pair (Kd.int .i64) (Kd.pair (Kd.int .i64) (Kd.pair (Kd.int .i64) (Kd.pair Kd.bool (Kd.pair (Kd.int .u64) (Kd.slice 5 (Kd.int .u8))))))) (fun x : S39 => (x.f0, x.f1, x.f2, x.f3, x.f4, x.f5))
theorem k39_open {w : World} {x : S39} {cs : List Value} (h : k39.K w x cs) : ∃ A5 c5, cs = [.int .i64 x.f0, .int .i64 x.f1, .int .i64 x.f2, .bool x.f3, .int .u64 x.f4, .slice A5 x.f5.length c5] ∧ x.f5.length ≤ c5 ∧ (Kd.int .u8).C w A5 x.f5.length x.f5 := by
  obtain ⟨_, _, rfl, rfl, ⟨_, _, rfl, rfl, ⟨_, _, rfl, rfl, ⟨_, _, rfl, rfl, ⟨_, _, rfl, rfl, ⟨A5, c5, rfl, l5, g5⟩⟩⟩⟩⟩⟩ := h
  exact ⟨A5, c5, rfl, l5, g5⟩
theorem k39_openM {w : World} {base : Nat} {ok : Nat → Prop} {x : S39} {cs : List Value} (h : k39.M w base ok x cs) : ∃ v5, cs = [.int .i64 x.f0, .int .i64 x.f1, .int .i64 x.f2, .bool x.f3, .int .u64 x.f4, v5] ∧ (Kd.int .u8).R 5 w base ok v5 x.f5 := by
  obtain ⟨_, _, rfl, rfl, ⟨_, _, rfl, rfl, ⟨_, _, rfl, rfl, ⟨_, _, rfl, rfl, ⟨_, _, rfl, rfl, ⟨v5, rfl, g5⟩⟩⟩⟩⟩⟩ := h
  exact ⟨v5, rfl, g5⟩
theorem k39_mk (w : World) (x : S39) {A5 : Option Addr} {c5 : Nat} (l5 : x.f5.length ≤ c5) (g5 : (Kd.int .u8).C w A5 x.f5.length x.f5) : k39.K w x [.int .i64 x.f0, .int .i64 x.f1, .int .i64 x.f2, .bool x.f3, .int .u64 x.f4, .slice A5 x.f5.length c5] := ⟨[.int .i64 x.f0], [.int .i64 x.f1, .int .i64 x.f2, .bool x.f3, .int .u64 x.f4, .slice A5 x.f5.length c5], rfl, rfl, ⟨[.int .i64 x.f1], [.int .i64 x.f2, .bool x.f3, .int .u64 x.f4, .slice A5 x.f5.length c5], rfl, rfl, ⟨[.int .i64 x.f2], [.bool x.f3, .int .u64 x.f4, .slice A5 x.f5.length c5], rfl, rfl, ⟨[.bool x.f3], [.int .u64 x.f4, .slice A5 x.f5.length c5], rfl, rfl, ⟨[.int .u64 x.f4], [.slice A5 x.f5.length c5], rfl, rfl, ⟨A5, c5, rfl, l5, g5⟩⟩⟩⟩⟩⟩
theorem k39_mkM (w : World) (base : Nat) (ok : Nat → Prop) (x : S39) {v5 : Value} (g5 : (Kd.int .u8).R 5 w base ok v5 x.f5) : k39.M w base ok x [.int .i64 x.f0, .int .i64 x.f1, .int .i64 x.f2, .bool x.f3, .int .u64 x.f4, v5] := ⟨[.int .i64 x.f0], [.int .i64 x.f1, .int .i64 x.f2, .bool x.f3, .int .u64 x.f4, v5], rfl, rfl, ⟨[.int .i64 x.f1], [.int .i64 x.f2, .bool x.f3, .int .u64 x.f4, v5], rfl, rfl, ⟨[.int .i64 x.f2], [.bool x.f3, .int .u64 x.f4, v5], rfl, rfl, ⟨[.bool x.f3], [.int .u64 x.f4, v5], rfl, rfl, ⟨[.int .u64 x.f4], [v5], rfl, rfl, ⟨v5, rfl, g5⟩⟩⟩⟩⟩⟩
theorem k39_openF {W : World} {ok : Nat → Prop} {x : S39} {cs : List Value} (h : Kd.FK k39 W ok x cs) : ∃ A5 c5, cs = [.int .i64 x.f0, .int .i64 x.f1, .int .i64 x.f2, .bool x.f3, .int .u64 x.f4, .slice A5 x.f5.length c5] ∧ x.f5.length ≤ c5 ∧ Kd.F (Kd.int .u8) W ok A5 x.f5.length x.f5 := by
  obtain ⟨A5, c5, rfl, l5, _⟩ := k39_open (Kd.FK_now h)
  exact ⟨A5, c5, rfl, l5, (fun W' hW => by obtain ⟨A5_, c5_, he, l5_, g5_⟩ := k39_open (h W' hW); injection (Option.some.inj (show some (Value.slice A5 x.f5.length c5) = some (Value.slice A5_ x.f5.length c5_) from congrArg (fun l => l[5]?) he)) with ha_ _ _; rw [ha_]; exact g5_)⟩
theorem k39_mkF (W : World) (ok : Nat → Prop) (x : S39) {A5 : Option Addr} {c5 : Nat} (l5 : x.f5.length ≤ c5) (g5 : Kd.F (Kd.int .u8) W ok A5 x.f5.length x.f5) : Kd.FK k39 W ok x [.int .i64 x.f0, .int .i64 x.f1, .int .i64 x.f2, .bool x.f3, .int .u64 x.f4, .slice A5 x.f5.length c5] := fun W2 hW => k39_mk W2 x l5 (g5 W2 hW)
def rd_T39 (xs : List S39) (i : Int) : S39 := xs.getD i.toNat z39
theorem at_T39 {w : World} {A : Option Addr} {n : Nat} {xs : List S39} (h : Kd.C k39 w A n xs) (i : Int) (h0 : 0 ≤ i) (h1 : i < n) : ∃ ad A5 c5, A = some ad ∧ w.cell? (ad.add (i.toNat * 6)) = some (.int .i64 (rd_T39 xs i).f0) ∧ w.cell? ⟨(ad.add (i.toNat * 6)).block, (ad.add (i.toNat * 6)).off + 1, none⟩ = some (.int .i64 (rd_T39 xs i).f1) ∧ w.cell? ⟨(ad.add (i.toNat * 6)).block, (ad.add (i.toNat * 6)).off + 2, none⟩ = some (.int .i64 (rd_T39 xs i).f2) ∧ w.cell? ⟨(ad.add (i.toNat * 6)).block, (ad.add (i.toNat * 6)).off + 3, none⟩ = some (.bool (rd_T39 xs i).f3) ∧ w.cell? ⟨(ad.add (i.toNat * 6)).block, (ad.add (i.toNat * 6)).off + 4, none⟩ = some (.int .u64 (rd_T39 xs i).f4) ∧ w.cell? ⟨(ad.add (i.toNat * 6)).block, (ad.add (i.toNat * 6)).off + 5, none⟩ = some (.slice A5 (rd_T39 xs i).f5.length c5) ∧ (rd_T39 xs i).f5.length ≤ c5 ∧ (Kd.int .u8).C w A5 (rd_T39 xs i).f5.length (rd_T39 xs i).f5 := by
  obtain ⟨ad, c, e, _, hK, hc0⟩ := Kd.C_get h z39 i h0 h1
  have hc : ∀ j u, c[j]? = some u → w.cell? (ad.add (i.toNat * 6 + j)) = some u := hc0
  obtain ⟨A5, c5, rfl, l5, g5⟩ := k39_open hK
  exact ⟨ad, A5, c5, e, hc 0 _ rfl, by rw [← add_field _ _ 1 (by omega)]; exact hc 1 _ rfl, by rw [← add_field _ _ 2 (by omega)]; exact hc 2 _ rfl, by rw [← add_field _ _ 3 (by omega)]; exact hc 3 _ rfl, by rw [← add_field _ _ 4 (by omega)]; exact hc 4 _ rfl, by rw [← add_field _ _ 5 (by omega)]; exact hc 5 _ rfl, l5, g5⟩


theorem eqA63 (d : Nat) (w : World) (x0 y0 : Int) (x1 y1 : Int) (x2 y2 : Bool) :
    (Op.equalIn (d + 2) 63 (.agg #[.int .u8 x0, .int .u32 x1, .bool x2]) (.agg #[.int .u8 y0, .int .u32 y1, .bool y2])).run Tryd.prog w = .ok (x0 == y0 && (x1 == y1 && (x2 == y2))) w := by
  refine eqA_of Tryd.underlying63 (by kernel_rfl) ?_
  refine eqf_cons (by rfl) (by go_simp; rfl) (by go_simp; rfl) (by go_simp) ?_
  refine eqf_cons (by rfl) (by go_simp; rfl) (by go_simp; rfl) (by go_simp) ?_
  exact eqf_last (by rfl) (by go_simp; rfl) (by go_simp; rfl) (by go_simp)

theorem bsB {w W : World} {g j : Nat} {v : Value} (hB1_ : Below w.heap.size w W) (hB2_ : w.heap.size ≤ g) : Below w.heap.size w (W.setCell ⟨g, j, none⟩ v) := below_set hB1_ hB2_
theorem kfB {w W : World} {g : Nat} {row : Option Nat} {p : Addr} {u : Value} (hB1_ : KeepBut w W g row) (hB2_ : w.heap.size ≤ p.block) : KeepBut w (W.setCell p u) g row := keep_far hB1_ hB2_ u
theorem ksB {w W : World} {g j : Nat} {row : Option Nat} {u : Value} (hB1_ : KeepBut w W g row) : KeepBut w (W.setCell ⟨g, j, none⟩ u) g row := KeepBut.set_ hB1_ j u
theorem bB {P : Prop} (h : P := by (repeat (first | (with_reducible first | exact HB.out | apply below_alloc | apply pw_below_drewN | apply below_drew1 | apply bsB) | exact HB.out)); all_goals first | exact Aside0.out (by with_reducible assumption) | exact IsS54.ge (Aside0.out (by with_reducible assumption)) | exact IsS59.ge (Aside0.out (by with_reducible assumption))) : P := h
theorem bK {P : Prop} (h : P := by (repeat (first | (with_reducible first | exact HK.out | apply ksB | apply keep_drewN | apply keep_drew | apply keep_alloc | apply kfB) | exact HK.out)); all_goals exact Aside0.out (by with_reducible assumption)) : P := h
theorem bI {P Q : Prop} (h : Q) (k : Q → P := by intro h_; repeat (first | (with_reducible first | exact h_ | apply IsS54.alloc | apply IsS54.drewN | apply IsS54.drew | apply IsS54.set_1 | refine IsS54.far ?_ (Aside0.out (by with_reducible assumption)) _ | apply IsS59.alloc | apply IsS59.drewN | apply IsS59.drew | apply IsS59.set_1 | refine IsS59.far ?_ (Aside0.out (by with_reducible assumption)) _) | exact h_)) : P := k h
theorem bw {P Q : Prop} (h : Q) (k : Q → P := by intro h_; repeat (first | (with_reducible first | exact h_ | refine blk_drewN ?_ _ | refine blk_drew ?_ | refine blk_alloc ?_ _) | refine blk_far ?_ (Aside0.out (by with_reducible assumption)) _)) : P := k h
theorem bW {P Q : Prop} (h : Q) (k : Q → P := by intro h_; (with_reducible repeat (first | refine blk_drewN ?_ _ | refine blk_drew ?_ | refine blk_alloc ?_ _)); exact h_) : P := k h
theorem bN {P Q : Prop} (h : Q) (k : Q → P := by intro h_; (with_reducible repeat (first | apply Kd.N_alloc | apply Kd.N_drewN | apply Kd.N_drew | apply Kd.R_alloc | apply Kd.R_drewN | apply Kd.R_drew | apply Kd.S_alloc | apply Kd.S_drewN | apply Kd.S_drew)); exact h_) : P := k h
theorem nbL {W : World} {g b : Nat} {o : Obj} (h : W.heap[b]? = some o) (e : g = W.heap.size) : b ≠ g := by rw [e]; exact Nat.ne_of_lt (blk_lt h)
theorem gL {P : Program} {ops : Array Oper} {Q : Exit → Act → World → Prop} {rest : List Oper} {oi : Oper} {a : Act} {w : World} (N : Option Tmp) {f : FuncId} {fn : Func} {az : Array Operand} {ts : Array TypeId} (hL0_ : P.funcs[f]? = some fn) (args : Array Value)
    (hL7_ : Calls P f args w fun e w' => ∃ v, e = .returned v ∧ wpList P ops Q rest (a.put N v) w')
    (hL1_ : oi.dst = N := by rfl) (hL2_ : oi.guard = none := by rfl) (hL3_ : (fn.name == "runtime.NumGoroutine") = false := by kernel_rfl) (hL4_ : fn.body.isSome = true := by rfl)
    (hL5_ : oi.op = .call { callee := .value (.func f), args := az, argTypes := ts } := by rfl) (hL6_ : az.map a.eval = args := by (try simp only [List.map_toArray, List.map_cons, List.map_nil]); first | done | rfl | (simp only [List.length_drop, List.length_take]; rfl)) : wpList P ops Q (oi :: rest) a w :=
  goesL_ N hL1_ hL2_ hL0_ hL3_ hL4_ args hL5_ hL6_ hL7_
theorem cZ2 {W : World} {g t : Nat} {v0 v1 : Value} (h : W.heap[g]? = some (.cells #[v0, v1] t (0, 0))) : W.cell? ⟨g, 0, none⟩ = some v0 ∧ W.cell? ⟨g, 1, none⟩ = some v1 :=
  ⟨(blk_cell h 0).trans rfl, (blk_cell h 1).trans rfl⟩
theorem fZ2 {W : World} {g t : Nat} {cs : Array Value} (h : W.heap[g]? = some (.cells cs t (0, 0))) : W.frozen? ⟨g, 0, none⟩ = false ∧ W.frozen? ⟨g, 1, none⟩ = false :=
  ⟨blk_frozen h 0, blk_frozen h 1⟩
theorem put2 {W : World} {g t : Nat} {v0 v1 u0 u1 : Value} (h : W.heap[g]? = some (.cells #[v0, v1] t (0, 0))) : ((W.setCell ⟨g, 0, none⟩ u0).setCell ⟨g, 1, none⟩ u1).heap[g]? = some (.cells #[u0, u1] t (0, 0)) := by
  refine blk_put (cs := #[u0, v1]) ?_ 1 _ rfl
  refine blk_put (cs := #[v0, v1]) ?_ 0 _ rfl
  exact h
theorem cZ4 {W : World} {g t : Nat} {v0 v1 v2 v3 : Value} (h : W.heap[g]? = some (.cells #[v0, v1, v2, v3] t (0, 0))) : W.cell? ⟨g, 0, none⟩ = some v0 ∧ W.cell? ⟨g, 1, none⟩ = some v1 ∧ W.cell? ⟨g, 2, none⟩ = some v2 ∧ W.cell? ⟨g, 3, none⟩ = some v3 :=
  ⟨(blk_cell h 0).trans rfl, (blk_cell h 1).trans rfl, (blk_cell h 2).trans rfl, (blk_cell h 3).trans rfl⟩
theorem fZ4 {W : World} {g t : Nat} {cs : Array Value} (h : W.heap[g]? = some (.cells cs t (0, 0))) : W.frozen? ⟨g, 0, none⟩ = false ∧ W.frozen? ⟨g, 1, none⟩ = false ∧ W.frozen? ⟨g, 2, none⟩ = false ∧ W.frozen? ⟨g, 3, none⟩ = false :=
  ⟨blk_frozen h 0, blk_frozen h 1, blk_frozen h 2, blk_frozen h 3⟩
theorem put4 {W : World} {g t : Nat} {v0 v1 v2 v3 u0 u1 u2 u3 : Value} (h : W.heap[g]? = some (.cells #[v0, v1, v2, v3] t (0, 0))) : ((((W.setCell ⟨g, 0, none⟩ u0).setCell ⟨g, 1, none⟩ u1).setCell ⟨g, 2, none⟩ u2).setCell ⟨g, 3, none⟩ u3).heap[g]? = some (.cells #[u0, u1, u2, u3] t (0, 0)) := by
  refine blk_put (cs := #[u0, u1, u2, v3]) ?_ 3 _ rfl
  refine blk_put (cs := #[u0, u1, v2, v3]) ?_ 2 _ rfl
  refine blk_put (cs := #[u0, v1, v2, v3]) ?_ 1 _ rfl
  refine blk_put (cs := #[v0, v1, v2, v3]) ?_ 0 _ rfl
  exact h
theorem cZ6 {W : World} {g t : Nat} {v0 v1 v2 v3 v4 v5 : Value} (h : W.heap[g]? = some (.cells #[v0, v1, v2, v3, v4, v5] t (0, 0))) : W.cell? ⟨g, 0, none⟩ = some v0 ∧ W.cell? ⟨g, 1, none⟩ = some v1 ∧ W.cell? ⟨g, 2, none⟩ = some v2 ∧ W.cell? ⟨g, 3, none⟩ = some v3 ∧ W.cell? ⟨g, 4, none⟩ = some v4 ∧ W.cell? ⟨g, 5, none⟩ = some v5 :=
  ⟨(blk_cell h 0).trans rfl, (blk_cell h 1).trans rfl, (blk_cell h 2).trans rfl, (blk_cell h 3).trans rfl, (blk_cell h 4).trans rfl, (blk_cell h 5).trans rfl⟩
theorem fZ6 {W : World} {g t : Nat} {cs : Array Value} (h : W.heap[g]? = some (.cells cs t (0, 0))) : W.frozen? ⟨g, 0, none⟩ = false ∧ W.frozen? ⟨g, 1, none⟩ = false ∧ W.frozen? ⟨g, 2, none⟩ = false ∧ W.frozen? ⟨g, 3, none⟩ = false ∧ W.frozen? ⟨g, 4, none⟩ = false ∧ W.frozen? ⟨g, 5, none⟩ = false :=
  ⟨blk_frozen h 0, blk_frozen h 1, blk_frozen h 2, blk_frozen h 3, blk_frozen h 4, blk_frozen h 5⟩
theorem put6 {W : World} {g t : Nat} {v0 v1 v2 v3 v4 v5 u0 u1 u2 u3 u4 u5 : Value} (h : W.heap[g]? = some (.cells #[v0, v1, v2, v3, v4, v5] t (0, 0))) : ((((((W.setCell ⟨g, 0, none⟩ u0).setCell ⟨g, 1, none⟩ u1).setCell ⟨g, 2, none⟩ u2).setCell ⟨g, 3, none⟩ u3).setCell ⟨g, 4, none⟩ u4).setCell ⟨g, 5, none⟩ u5).heap[g]? = some (.cells #[u0, u1, u2, u3, u4, u5] t (0, 0)) := by
  refine blk_put (cs := #[u0, u1, u2, u3, u4, v5]) ?_ 5 _ rfl
  refine blk_put (cs := #[u0, u1, u2, u3, v4, v5]) ?_ 4 _ rfl
  refine blk_put (cs := #[u0, u1, u2, v3, v4, v5]) ?_ 3 _ rfl
  refine blk_put (cs := #[u0, u1, v2, v3, v4, v5]) ?_ 2 _ rfl
  refine blk_put (cs := #[u0, v1, v2, v3, v4, v5]) ?_ 1 _ rfl
  refine blk_put (cs := #[v0, v1, v2, v3, v4, v5]) ?_ 0 _ rfl
  exact h
theorem cZ8 {W : World} {g t : Nat} {v0 v1 v2 v3 v4 v5 v6 v7 : Value} (h : W.heap[g]? = some (.cells #[v0, v1, v2, v3, v4, v5, v6, v7] t (0, 0))) : W.cell? ⟨g, 0, none⟩ = some v0 ∧ W.cell? ⟨g, 1, none⟩ = some v1 ∧ W.cell? ⟨g, 2, none⟩ = some v2 ∧ W.cell? ⟨g, 3, none⟩ = some v3 ∧ W.cell? ⟨g, 4, none⟩ = some v4 ∧ W.cell? ⟨g, 5, none⟩ = some v5 ∧ W.cell? ⟨g, 6, none⟩ = some v6 ∧ W.cell? ⟨g, 7, none⟩ = some v7 :=
  ⟨(blk_cell h 0).trans rfl, (blk_cell h 1).trans rfl, (blk_cell h 2).trans rfl, (blk_cell h 3).trans rfl, (blk_cell h 4).trans rfl, (blk_cell h 5).trans rfl, (blk_cell h 6).trans rfl, (blk_cell h 7).trans rfl⟩
theorem fZ8 {W : World} {g t : Nat} {cs : Array Value} (h : W.heap[g]? = some (.cells cs t (0, 0))) : W.frozen? ⟨g, 0, none⟩ = false ∧ W.frozen? ⟨g, 1, none⟩ = false ∧ W.frozen? ⟨g, 2, none⟩ = false ∧ W.frozen? ⟨g, 3, none⟩ = false ∧ W.frozen? ⟨g, 4, none⟩ = false ∧ W.frozen? ⟨g, 5, none⟩ = false ∧ W.frozen? ⟨g, 6, none⟩ = false ∧ W.frozen? ⟨g, 7, none⟩ = false :=
  ⟨blk_frozen h 0, blk_frozen h 1, blk_frozen h 2, blk_frozen h 3, blk_frozen h 4, blk_frozen h 5, blk_frozen h 6, blk_frozen h 7⟩
theorem put8 {W : World} {g t : Nat} {v0 v1 v2 v3 v4 v5 v6 v7 u0 u1 u2 u3 u4 u5 u6 u7 : Value} (h : W.heap[g]? = some (.cells #[v0, v1, v2, v3, v4, v5, v6, v7] t (0, 0))) : ((((((((W.setCell ⟨g, 0, none⟩ u0).setCell ⟨g, 1, none⟩ u1).setCell ⟨g, 2, none⟩ u2).setCell ⟨g, 3, none⟩ u3).setCell ⟨g, 4, none⟩ u4).setCell ⟨g, 5, none⟩ u5).setCell ⟨g, 6, none⟩ u6).setCell ⟨g, 7, none⟩ u7).heap[g]? = some (.cells #[u0, u1, u2, u3, u4, u5, u6, u7] t (0, 0)) := by
  refine blk_put (cs := #[u0, u1, u2, u3, u4, u5, u6, v7]) ?_ 7 _ rfl
  refine blk_put (cs := #[u0, u1, u2, u3, u4, u5, v6, v7]) ?_ 6 _ rfl
  refine blk_put (cs := #[u0, u1, u2, u3, u4, v5, v6, v7]) ?_ 5 _ rfl
  refine blk_put (cs := #[u0, u1, u2, u3, v4, v5, v6, v7]) ?_ 4 _ rfl
  refine blk_put (cs := #[u0, u1, u2, v3, v4, v5, v6, v7]) ?_ 3 _ rfl
  refine blk_put (cs := #[u0, u1, v2, v3, v4, v5, v6, v7]) ?_ 2 _ rfl
  refine blk_put (cs := #[u0, v1, v2, v3, v4, v5, v6, v7]) ?_ 1 _ rfl
  refine blk_put (cs := #[v0, v1, v2, v3, v4, v5, v6, v7]) ?_ 0 _ rfl
  exact h
theorem Nfar2 {α : Type} {d : Kd α} {e base g : Nat} {j0 j1 : Nat} {u0 u1 v : Value} {W : World} {ok : Nat → Prop} {xs : List α} (h : Kd.N d e W base ok v xs) (hok : ∀ k, ok k → k ≠ g) : Kd.N d e ((W.setCell ⟨g, j0, none⟩ u0).setCell ⟨g, j1, none⟩ u1) base ok v xs :=
  Kd.N_far (p := ⟨g, _, none⟩) (Kd.N_far (p := ⟨g, _, none⟩) (h) hok _) hok _
theorem Nfar4 {α : Type} {d : Kd α} {e base g : Nat} {j0 j1 j2 j3 : Nat} {u0 u1 u2 u3 v : Value} {W : World} {ok : Nat → Prop} {xs : List α} (h : Kd.N d e W base ok v xs) (hok : ∀ k, ok k → k ≠ g) : Kd.N d e ((((W.setCell ⟨g, j0, none⟩ u0).setCell ⟨g, j1, none⟩ u1).setCell ⟨g, j2, none⟩ u2).setCell ⟨g, j3, none⟩ u3) base ok v xs :=
  Kd.N_far (p := ⟨g, _, none⟩) (Kd.N_far (p := ⟨g, _, none⟩) (Kd.N_far (p := ⟨g, _, none⟩) (Kd.N_far (p := ⟨g, _, none⟩) (h) hok _) hok _) hok _) hok _
theorem Nfar6 {α : Type} {d : Kd α} {e base g : Nat} {j0 j1 j2 j3 j4 j5 : Nat} {u0 u1 u2 u3 u4 u5 v : Value} {W : World} {ok : Nat → Prop} {xs : List α} (h : Kd.N d e W base ok v xs) (hok : ∀ k, ok k → k ≠ g) : Kd.N d e ((((((W.setCell ⟨g, j0, none⟩ u0).setCell ⟨g, j1, none⟩ u1).setCell ⟨g, j2, none⟩ u2).setCell ⟨g, j3, none⟩ u3).setCell ⟨g, j4, none⟩ u4).setCell ⟨g, j5, none⟩ u5) base ok v xs :=
  Kd.N_far (p := ⟨g, _, none⟩) (Kd.N_far (p := ⟨g, _, none⟩) (Kd.N_far (p := ⟨g, _, none⟩) (Kd.N_far (p := ⟨g, _, none⟩) (Kd.N_far (p := ⟨g, _, none⟩) (Kd.N_far (p := ⟨g, _, none⟩) (h) hok _) hok _) hok _) hok _) hok _) hok _
theorem Nfar8 {α : Type} {d : Kd α} {e base g : Nat} {j0 j1 j2 j3 j4 j5 j6 j7 : Nat} {u0 u1 u2 u3 u4 u5 u6 u7 v : Value} {W : World} {ok : Nat → Prop} {xs : List α} (h : Kd.N d e W base ok v xs) (hok : ∀ k, ok k → k ≠ g) : Kd.N d e ((((((((W.setCell ⟨g, j0, none⟩ u0).setCell ⟨g, j1, none⟩ u1).setCell ⟨g, j2, none⟩ u2).setCell ⟨g, j3, none⟩ u3).setCell ⟨g, j4, none⟩ u4).setCell ⟨g, j5, none⟩ u5).setCell ⟨g, j6, none⟩ u6).setCell ⟨g, j7, none⟩ u7) base ok v xs :=
  Kd.N_far (p := ⟨g, _, none⟩) (Kd.N_far (p := ⟨g, _, none⟩) (Kd.N_far (p := ⟨g, _, none⟩) (Kd.N_far (p := ⟨g, _, none⟩) (Kd.N_far (p := ⟨g, _, none⟩) (Kd.N_far (p := ⟨g, _, none⟩) (Kd.N_far (p := ⟨g, _, none⟩) (Kd.N_far (p := ⟨g, _, none⟩) (h) hok _) hok _) hok _) hok _) hok _) hok _) hok _) hok _
theorem Sfar2 {α : Type} {d : Kd α} {e base g : Nat} {j0 j1 : Nat} {u0 u1 v : Value} {W : World} {ok : Nat → Prop} {xs : List α} (h : Kd.S d e W base ok v xs) (hok : ∀ k, ok k → k ≠ g) : Kd.S d e ((W.setCell ⟨g, j0, none⟩ u0).setCell ⟨g, j1, none⟩ u1) base ok v xs :=
  Kd.S_far (p := ⟨g, _, none⟩) (Kd.S_far (p := ⟨g, _, none⟩) (h) hok _) hok _
theorem Sfar4 {α : Type} {d : Kd α} {e base g : Nat} {j0 j1 j2 j3 : Nat} {u0 u1 u2 u3 v : Value} {W : World} {ok : Nat → Prop} {xs : List α} (h : Kd.S d e W base ok v xs) (hok : ∀ k, ok k → k ≠ g) : Kd.S d e ((((W.setCell ⟨g, j0, none⟩ u0).setCell ⟨g, j1, none⟩ u1).setCell ⟨g, j2, none⟩ u2).setCell ⟨g, j3, none⟩ u3) base ok v xs :=
  Kd.S_far (p := ⟨g, _, none⟩) (Kd.S_far (p := ⟨g, _, none⟩) (Kd.S_far (p := ⟨g, _, none⟩) (Kd.S_far (p := ⟨g, _, none⟩) (h) hok _) hok _) hok _) hok _
theorem Sfar6 {α : Type} {d : Kd α} {e base g : Nat} {j0 j1 j2 j3 j4 j5 : Nat} {u0 u1 u2 u3 u4 u5 v : Value} {W : World} {ok : Nat → Prop} {xs : List α} (h : Kd.S d e W base ok v xs) (hok : ∀ k, ok k → k ≠ g) : Kd.S d e ((((((W.setCell ⟨g, j0, none⟩ u0).setCell ⟨g, j1, none⟩ u1).setCell ⟨g, j2, none⟩ u2).setCell ⟨g, j3, none⟩ u3).setCell ⟨g, j4, none⟩ u4).setCell ⟨g, j5, none⟩ u5) base ok v xs :=
  Kd.S_far (p := ⟨g, _, none⟩) (Kd.S_far (p := ⟨g, _, none⟩) (Kd.S_far (p := ⟨g, _, none⟩) (Kd.S_far (p := ⟨g, _, none⟩) (Kd.S_far (p := ⟨g, _, none⟩) (Kd.S_far (p := ⟨g, _, none⟩) (h) hok _) hok _) hok _) hok _) hok _) hok _
theorem Sfar8 {α : Type} {d : Kd α} {e base g : Nat} {j0 j1 j2 j3 j4 j5 j6 j7 : Nat} {u0 u1 u2 u3 u4 u5 u6 u7 v : Value} {W : World} {ok : Nat → Prop} {xs : List α} (h : Kd.S d e W base ok v xs) (hok : ∀ k, ok k → k ≠ g) : Kd.S d e ((((((((W.setCell ⟨g, j0, none⟩ u0).setCell ⟨g, j1, none⟩ u1).setCell ⟨g, j2, none⟩ u2).setCell ⟨g, j3, none⟩ u3).setCell ⟨g, j4, none⟩ u4).setCell ⟨g, j5, none⟩ u5).setCell ⟨g, j6, none⟩ u6).setCell ⟨g, j7, none⟩ u7) base ok v xs :=
  Kd.S_far (p := ⟨g, _, none⟩) (Kd.S_far (p := ⟨g, _, none⟩) (Kd.S_far (p := ⟨g, _, none⟩) (Kd.S_far (p := ⟨g, _, none⟩) (Kd.S_far (p := ⟨g, _, none⟩) (Kd.S_far (p := ⟨g, _, none⟩) (Kd.S_far (p := ⟨g, _, none⟩) (Kd.S_far (p := ⟨g, _, none⟩) (h) hok _) hok _) hok _) hok _) hok _) hok _) hok _) hok _
theorem Rfar2 {α : Type} {d : Kd α} {e base g : Nat} {j0 j1 : Nat} {u0 u1 v : Value} {W : World} {ok : Nat → Prop} {xs : List α} (h : Kd.R d e W base ok v xs) (hok : ∀ k, ok k → k ≠ g) : Kd.R d e ((W.setCell ⟨g, j0, none⟩ u0).setCell ⟨g, j1, none⟩ u1) base ok v xs :=
  Kd.R_far (p := ⟨g, _, none⟩) (Kd.R_far (p := ⟨g, _, none⟩) (h) hok _) hok _
theorem Rfar4 {α : Type} {d : Kd α} {e base g : Nat} {j0 j1 j2 j3 : Nat} {u0 u1 u2 u3 v : Value} {W : World} {ok : Nat → Prop} {xs : List α} (h : Kd.R d e W base ok v xs) (hok : ∀ k, ok k → k ≠ g) : Kd.R d e ((((W.setCell ⟨g, j0, none⟩ u0).setCell ⟨g, j1, none⟩ u1).setCell ⟨g, j2, none⟩ u2).setCell ⟨g, j3, none⟩ u3) base ok v xs :=
  Kd.R_far (p := ⟨g, _, none⟩) (Kd.R_far (p := ⟨g, _, none⟩) (Kd.R_far (p := ⟨g, _, none⟩) (Kd.R_far (p := ⟨g, _, none⟩) (h) hok _) hok _) hok _) hok _
theorem Rfar6 {α : Type} {d : Kd α} {e base g : Nat} {j0 j1 j2 j3 j4 j5 : Nat} {u0 u1 u2 u3 u4 u5 v : Value} {W : World} {ok : Nat → Prop} {xs : List α} (h : Kd.R d e W base ok v xs) (hok : ∀ k, ok k → k ≠ g) : Kd.R d e ((((((W.setCell ⟨g, j0, none⟩ u0).setCell ⟨g, j1, none⟩ u1).setCell ⟨g, j2, none⟩ u2).setCell ⟨g, j3, none⟩ u3).setCell ⟨g, j4, none⟩ u4).setCell ⟨g, j5, none⟩ u5) base ok v xs :=
  Kd.R_far (p := ⟨g, _, none⟩) (Kd.R_far (p := ⟨g, _, none⟩) (Kd.R_far (p := ⟨g, _, none⟩) (Kd.R_far (p := ⟨g, _, none⟩) (Kd.R_far (p := ⟨g, _, none⟩) (Kd.R_far (p := ⟨g, _, none⟩) (h) hok _) hok _) hok _) hok _) hok _) hok _
theorem Rfar8 {α : Type} {d : Kd α} {e base g : Nat} {j0 j1 j2 j3 j4 j5 j6 j7 : Nat} {u0 u1 u2 u3 u4 u5 u6 u7 v : Value} {W : World} {ok : Nat → Prop} {xs : List α} (h : Kd.R d e W base ok v xs) (hok : ∀ k, ok k → k ≠ g) : Kd.R d e ((((((((W.setCell ⟨g, j0, none⟩ u0).setCell ⟨g, j1, none⟩ u1).setCell ⟨g, j2, none⟩ u2).setCell ⟨g, j3, none⟩ u3).setCell ⟨g, j4, none⟩ u4).setCell ⟨g, j5, none⟩ u5).setCell ⟨g, j6, none⟩ u6).setCell ⟨g, j7, none⟩ u7) base ok v xs :=
  Kd.R_far (p := ⟨g, _, none⟩) (Kd.R_far (p := ⟨g, _, none⟩) (Kd.R_far (p := ⟨g, _, none⟩) (Kd.R_far (p := ⟨g, _, none⟩) (Kd.R_far (p := ⟨g, _, none⟩) (Kd.R_far (p := ⟨g, _, none⟩) (Kd.R_far (p := ⟨g, _, none⟩) (Kd.R_far (p := ⟨g, _, none⟩) (h) hok _) hok _) hok _) hok _) hok _) hok _) hok _) hok _
section
variable {P : Program} {ops : Array Oper} {Q : Exit → Act → World → Prop} {md : Region.Mode} {S : World → Prop} {ds : List Nat}
theorem nS (n : Nat) {fuel : Nat} {l : Array Bool} {a a' : Act} {v : Value} {w : World} (h : wpAnyLast P md ops Q S ds fuel l a' w) (ha : Act.put a (some n) v = a' := by simp only [Act.put, List.setIfInBounds_toArray, List.set_cons_zero, List.set_cons_succ, i64_w, i32_w]; rfl) : wpAnyLast P md ops Q S ds fuel l (Act.put a (some n) v) w := norm_ ha h
end
section
variable {P : Program} {ops : Array Oper} {Q : Exit → Act → World → Prop} {md : Region.Mode} {S : World → Prop} {ds : List Nat} {T : Bool × List (List Nat × List Nat)} {B : List Nat}
theorem pS (i n : Nat) {oi : Oper} {v : Value} {fuel : Nat} {l l' : Array Bool} {a a' : Act} {w : World} (hT : Aside0 (rtab md ops = T)) (h : wpAnyLast P md ops Q S ds fuel l' a' w)
    (hl : l.setIfInBounds i true = l' := by simp only [List.setIfInBounds_toArray, List.set_cons_zero, List.set_cons_succ]; rfl)
    (hc : anyT T l.toList l'.toList i = true := by kernel_rfl) (hi : ops[i]? = some oi := by rfl) (hN : oi.dst = some n := by rfl) (hQ : ∀ c a w, Q (.panic c) (a.put oi.dst v) w → Q (.panic c) a w := by exact fun _ _ _ h => h)
    (hw : Region.wanted oi (yielded ops a.tmps) = true := by rfl) (hy : ∀ w', (execOp a.eval oi).run P w' = .ok (.value v) w' := by intro w'; go_simp; with_reducible rfl)
    (ha : a.put (some n) v = a' := by simp only [Act.put, List.setIfInBounds_toArray, List.set_cons_zero, List.set_cons_succ, i64_w, i32_w]; rfl) : wpAnyLast P md ops Q S ds (fuel + 1) l a w := by
  subst hl
  exact pure_ _ hi hN (any_of hT.out hc) hQ (Or.inl ⟨hw, hy⟩) ha h
theorem tS (i n : Nat) {oi : Oper} {v : Value} {fuel : Nat} {l l' : Array Bool} {a a' : Act} {w : World} (hT : Aside0 (rtab md ops = T)) (hB : Aside0 (waitsOk T.2 B = true)) (hS : S w) (h : wpAnyLast P md ops Q S ds fuel l' a' w)
    (hl : l.setIfInBounds i true = l' := by simp only [List.setIfInBounds_toArray, List.set_cons_zero, List.set_cons_succ]; rfl)
    (hc : takeW T B ds l.toList l'.toList i = true := by kernel_rfl) (hi : ops[i]? = some oi := by rfl) (hN : oi.dst = some n := by rfl) (hQ : ∀ c a w, Q (.panic c) (a.put oi.dst v) w → Q (.panic c) a w := by exact fun _ _ _ h => h)
    (hw : Region.wanted oi (yielded ops a.tmps) = true := by rfl) (hy : ∀ w', S w' → (execOp a.eval oi).run P w' = .ok (.value v) w' := by intro w' hS_; (try dsimp only at hS_); go_simp; with_reducible rfl)
    (ha : a.put (some n) v = a' := by simp only [Act.put, List.setIfInBounds_toArray, List.set_cons_zero, List.set_cons_succ, i64_w, i32_w]; rfl) : wpAnyLast P md ops Q S ds (fuel + 1) l a w := by
  subst hl
  exact take_ _ hi hN (take_ofW hT.out hB.out hc) hQ (Or.inl ⟨hw, hy⟩) hS ha h
end

end Go.Proofs.YtiikllgppmmiaaaDoor.OScriptReads
