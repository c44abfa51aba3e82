/- The iterator of relay.Ports: it goes through all ports that relay, but one. Walked by hand. -/
import Derived.RangeFuncNested
import Derived.RangeFuncBound
import Derived.RangeFuncCalls
import Derived.RangeFuncLeaves
import Derived.RangeFuncBox
import Derived.Shelf.Abstract
import Derived.Shelf.RegionOpen
import Derived.WalkKit
import Derived.OwnWalkIn
import Derived.TacticsInMore
import Derived.LoopNIn
import Derived.LoopIn
import Derived.Maps.AppendAt
import Derived.Lib.Hide
import Derived.Test.YtkgfpagfmdefgaaDoorProg
namespace Go.Proofs.YtkgfpagfmdefgaaDoor.Llc
open Go.RowKit Go.Shelf
attribute [local go_sem] Oper.semAt_some
set_option linter.unusedVariables false
set_option linter.unusedSimpArgs false
/-- The ports below k that relay, but one. -/
def thru (inn : Int) (st : List Int) : Nat → List Int
  | 0 => []
  | k + 1 => if (k : Int) ≠ inn ∧ st.getD k 0 = 4 then thru inn st k ++ [(k : Int)] else thru inn st k
theorem thru_hit {inn : Int} {st : List Int} {k : Nat} (h : (k : Int) ≠ inn) (h4 : st.getD k 0 = 4) : thru inn st (k + 1) = thru inn st k ++ [(k : Int)] := by rw [thru, if_pos ⟨h, h4⟩]
theorem thru_miss {inn : Int} {st : List Int} {k : Nat} (h : ¬ ((k : Int) ≠ inn ∧ st.getD k 0 = 4)) : thru inn st (k + 1) = thru inn st k := by rw [thru, if_neg h]
theorem thru_length (inn : Int) (st : List Int) : ∀ k, (thru inn st k).length ≤ k
  | 0 => Nat.le_refl _
  | k + 1 => by
    have := thru_length inn st k
    rw [thru]
    split
    · simp; omega
    · omega
theorem thru_prefix (inn : Int) (st : List Int) : ∀ (k m : Nat), k ≤ m → thru inn st k <+: thru inn st m
  | k, 0, h => by obtain rfl : k = 0 := by omega
                  exact List.prefix_refl _
  | k, m + 1, h => by
    by_cases e : k = m + 1
    · rw [e]; exact List.prefix_refl _
    · have ih := thru_prefix inn st k m (by omega)
      rw [thru]
      split
      · exact ih.trans (List.prefix_append _ _)
      · exact ih
/-- What a round keeps: what lay below n₀, and the cell of one box. -/
def Kp (n₀ Bi : Nat) (A C : World) : Prop := Below n₀ A C ∧ ∀ u, A.cell? ⟨Bi, 0, none⟩ = some u → C.cell? ⟨Bi, 0, none⟩ = some u
theorem kp_t {n₀ Bi : Nat} {A B C : World} (h : Kp n₀ Bi A B) (k : Kp n₀ Bi B C) : Kp n₀ Bi A C := ⟨h.1.trans k.1, fun u hu => k.2 u (h.2 u hu)⟩
theorem kp_b {n₀ Bi : Nat} {w : World} (hn : n₀ ≤ w.heap.size) (W : World) (l : Nat) (o o' : Obj) (hl : w.heap.size ≤ l) (h : W.heap[l]? = some o) (hc : o.isCells = false) (hw : o.isWalk = false) : Kp n₀ Bi W (W.putObj l o') :=
  ⟨belowK_b hn W l o o' hl h hc hw, fun u hu => cell_kept hu (grownBy_putObj' W l o') (fun r e => by cases e; exact ⟨_, h, hc⟩)⟩
set_option maxHeartbeats 1000000 in
theorem Forwards_in (F : Fence) (n : Nat) (h14 : F.fn 14) (hro : F.round = none) (x : Int) (w : World) : CallsIn F n Tryd.prog 14 #[.int .i64 x] w fun e w' => e = .returned (.bool (x == 4)) ∧ w' = w := by
  refine callsIn_of_wp Tryd.func14 rfl h14 ?_ hro
  simp only [Tryd.ntmps14, List.size_toArray, List.length_cons, List.length_nil, Nat.reduceAdd, Nat.reduceSub, Array.replicate_succ, Array.replicate_zero, List.push_toArray, List.append_toArray, List.nil_append, List.cons_append]
  gi_wp2
  go_ret
  exact ⟨rfl, rfl⟩
set_option maxRecDepth 100000 in
set_option maxHeartbeats 1000000 in
theorem it_in (F : Fence) (n : Nat) (h23 : F.fn 23) (h14 : F.fn 14) (hro : F.round = none) (hn : 2 ≤ n) (l Bs Bi n₀ : Nat) (ad : Addr) (c : Nat) (inn : Int) (st : List Int) (hlen : st.length ≤ 1000000) (had : ad.block < n₀) (J Jx : List Int → World → Prop)
    (hY : ∀ pre x W, J pre W → pre.length < st.length → YieldAt F (n - 1) Tryd.prog l #[.int .i64 x] W fun e W' =>
      (e = .returned (.bool true) ∧ J (pre ++ [x]) W' ∧ Kp n₀ Bi W W') ∨ (e = .returned (.bool false) ∧ Jx (pre ++ [x]) W'))
    (W : World) (hBs : W.cell? ⟨Bs, 0, none⟩ = some (.slice (some ad) st.length c)) (hBi : W.cell? ⟨Bi, 0, none⟩ = some (.int .i64 inn)) (hc : ∀ j x, st[j]? = some x → W.cell? (ad.add j) = some (.int .i64 x)) (h0 : J [] W) :
    CallsIn F n Tryd.prog 23 #[.func (.yield l) #[] #[], .pointer (some ⟨Bs, 0, none⟩), .pointer (some ⟨Bi, 0, none⟩)] W fun e W' => (∃ v, e = .returned v) ∧
      ((∃ ys, ys = thru inn st st.length ∧ J ys W') ∨ (∃ pre, pre <+: thru inn st st.length ∧ Jx pre W')) := by
  refine callsIn_of_wp Tryd.func23 rfl h23 ?_ hro
  simp only [Tryd.ntmps23, List.size_toArray, List.length_cons, List.length_nil, Nat.reduceAdd, Nat.reduceSub, Array.replicate_succ, Array.replicate_zero, List.push_toArray, List.append_toArray, List.nil_append, List.cons_append]
  have hn1 : 1 ≤ n - 1 := by omega
  have h1n : 1 ≤ n := by omega
  gi_wp2
  gi_loopw [8] (fun p wr => ∃ k : Nat, k ≤ st.length ∧ p = .int .i64 k ∧ J (thru inn st k) wr ∧ Kp n₀ Bi W wr) (fun p _ => st.length - (intOf p).toNat)
  case atStart => exact ⟨0, Nat.zero_le _, rfl, h0, ⟨Below.refl _ _, fun _ h => h⟩⟩
  case round =>
    obtain ⟨k, hk, rfl, hJs, hkp⟩ := hrel
    by_cases hlt : k < st.length
    · have hx : st[k]? = some st[k] := List.getElem?_eq_getElem hlt
      have hgd : st.getD k 0 = st[k] := by rw [List.getD_eq_getElem?_getD, hx, Option.getD_some]
      generalize st[k] = x at hx hgd
      have hcx : wr.cell? (ad.add k) = some (.int .i64 x) := (hkp.1.cell (p := ad.add k) (by unfold Addr.add; split <;> exact had)).trans (hc k x hx)
      have hbi : wr.cell? ⟨Bi, 0, none⟩ = some (.int .i64 inn) := hkp.2 _ hBi
      have k0 : (0 : Int) ≤ (k : Int) := by omega
      have k1 : (k : Int) < (st.length : Int) := by omega
      clear hc hBs hBi
      by_cases he : (k : Int) = inn
      · have e1 : ((k : Int) != inn) = false := by simp [he]
        have hm := thru_miss (inn := inn) (st := st) (k := k) (fun q => q.1 he)
        replace hm := Lib.hid hm
        clear he hgd hx
        gi_wp2
        refine ⟨fun _ h => (by cases h), ?_⟩
        gi_wp2
        go_roundw
        case rel => exact ⟨k + 1, by omega, by simp, by rw [hm.out]; exact hJs, hkp⟩
        case measure => simp [intOf]; omega
      · have e1 : ((k : Int) != inn) = true := by simp [he]
        by_cases h4 : x = 4
        · subst h4
          have hm := thru_hit (inn := inn) (st := st) (k := k) he hgd
          replace hm := Lib.hid hm
          obtain ⟨fn, tmps, assign, body, hy, hR⟩ := hY _ (k : Int) wr hJs (by have := thru_length inn st k; omega)
          clear hgd hx he
          gi_wp2_with (gi_at_call 14; refine (Forwards_in F (n - 1) h14 hro _ _).mono ?_; rintro e w' ⟨rfl, rfl⟩)
          refine hR.mono ?_
          rintro e W3 (⟨rfl, hJ3, hk3⟩ | ⟨rfl, hJx3⟩)
          · gi_wp2
            go_roundw
            case rel => exact ⟨k + 1, by omega, by simp, by rw [hm.out]; exact hJ3, kp_t hkp hk3⟩
            case measure => simp [intOf]; omega
          · gi_wp2
            refine bodyPost_ret (results_none rfl _ _ _) rfl ?_
            exact ⟨⟨_, rfl⟩, .inr ⟨_, by rw [← hm.out]; exact thru_prefix inn st (k + 1) st.length (by omega), hJx3⟩⟩
        · have e4 : (x == 4) = false := by simp [h4]
          have hm := thru_miss (inn := inn) (st := st) (k := k) (fun q => h4 (hgd.symm.trans q.2))
          replace hm := Lib.hid hm
          clear hgd hx he h4
          gi_wp2_with (gi_at_call 14; refine (Forwards_in F (n - 1) h14 hro _ _).mono ?_; rintro e w' ⟨rfl, rfl⟩)
          refine ⟨fun _ h => (by cases h), ?_⟩
          gi_wp2
          go_roundw
          case rel => exact ⟨k + 1, by omega, by simp, by rw [hm.out]; exact hJs, hkp⟩
          case measure => simp [intOf]; omega
    · obtain rfl : k = st.length := by omega
      gi_wp2
      go_end0
      exact ⟨⟨_, rfl⟩, .inl ⟨_, rfl, hJs⟩⟩
end Go.Proofs.YtkgfpagfmdefgaaDoor.Llc
