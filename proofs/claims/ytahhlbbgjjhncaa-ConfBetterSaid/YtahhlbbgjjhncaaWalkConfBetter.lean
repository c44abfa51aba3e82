/- What calls of the law ConfBetter, and of functions that the print does not take, come to: walked by hand. -/
import Derived.Test.YtahhlbbgjjhncaaOConfBetterx1
import Derived.Lib.Hide
import Derived.RegionTactic
import Derived.ChangeAlike
import Derived.Deep.RegionHeld3
namespace Go.Proofs.Ytahhlbbgjjhncaa.PConfBetter
open Go.RowKit Go.Proofs.YtahhlbbgjjhncaaW.PrintWords Go.Proofs.YtahhlbbgjjhncaaW.PrintLast Go.Proofs.YtahhlbbgjjhncaaW.PrintMore
attribute [local go_sem] max2_int min2_int max_two min_two max_three min_three max_four min_four
set_option linter.unusedVariables false
set_option linter.unusedSimpArgs false
theorem bcell {W w1 : World} (hb : Below W.heap.size W w1) : (∀ b o, b < W.heap.size → w1.cell? ⟨b, o, none⟩ = W.cell? ⟨b, o, none⟩) ∧ (∀ b o, b < W.heap.size → w1.frozen? ⟨b, o, none⟩ = W.frozen? ⟨b, o, none⟩) :=
  ⟨fun b o h => hb.cell (p := ⟨b, o, none⟩) h, fun b o h => hb.frozen (p := ⟨b, o, none⟩) h⟩
def SBetter (a0 a1 a2 a3 a4 a5 a6 b0 b1 b2 b3 b4 b5 b6 : Int) (A B : Option Addr) (c d : Nat) (l k : List S40) (w w' : World) : Prop := w'.cell? ⟨w.heap.size, 0, none⟩ = some (Value.int .u64 (a0 % 281474976710656)) ∧ w'.cell? ⟨w.heap.size, 1, none⟩ = some (Value.int .u16 a1) ∧ w'.cell? ⟨w.heap.size, 2, none⟩ = some (Value.int .i64 a2) ∧ w'.cell? ⟨w.heap.size, 3, none⟩ = some (Value.int .i64 a3) ∧ w'.cell? ⟨w.heap.size, 4, none⟩ = some (Value.int .i64 a4) ∧ w'.cell? ⟨w.heap.size, 5, none⟩ = some (Value.int .i64 a5) ∧ w'.cell? ⟨w.heap.size, 6, none⟩ = some (Value.int .i64 a6) ∧ w'.cell? ⟨w.heap.size, 7, none⟩ = some (Value.slice A l.length c) ∧ w'.cell? ⟨w.heap.size + 1, 0, none⟩ = some (Value.int .u64 (b0 % 281474976710656)) ∧ w'.cell? ⟨w.heap.size + 1, 1, none⟩ = some (Value.int .u16 b1) ∧ w'.cell? ⟨w.heap.size + 1, 2, none⟩ = some (Value.int .i64 b2) ∧ w'.cell? ⟨w.heap.size + 1, 3, none⟩ = some (Value.int .i64 b3) ∧ w'.cell? ⟨w.heap.size + 1, 4, none⟩ = some (Value.int .i64 b4) ∧ w'.cell? ⟨w.heap.size + 1, 5, none⟩ = some (Value.int .i64 b5) ∧ w'.cell? ⟨w.heap.size + 1, 6, none⟩ = some (Value.int .i64 b6) ∧ w'.cell? ⟨w.heap.size + 1, 7, none⟩ = some (Value.slice B k.length d) ∧ Below w.heap.size w w' ∧ w.heap.size + 1 < w'.heap.size ∧ w.heap.size < w'.heap.size
theorem keepBetter {a0 a1 a2 a3 a4 a5 a6 b0 b1 b2 b3 b4 b5 b6 : Int} {A B : Option Addr} {c d : Nat} {l k : List S40} {w W W' : World} (h : SBetter a0 a1 a2 a3 a4 a5 a6 b0 b1 b2 b3 b4 b5 b6 A B c d l k w W) (hb : Below W.heap.size W W') :
    SBetter a0 a1 a2 a3 a4 a5 a6 b0 b1 b2 b3 b4 b5 b6 A B c d l k w W' := by
  obtain ⟨hc, -⟩ := bcell hb
  obtain ⟨h0, h1, h2, h3, h4, h5, h6, h7, g0, g1, g2, g3, g4, g5, g6, g7, B2, s1, s0⟩ := h
  have := hb.size
  exact ⟨(hc _ _ s0).trans h0, (hc _ _ s0).trans h1, (hc _ _ s0).trans h2, (hc _ _ s0).trans h3, (hc _ _ s0).trans h4, (hc _ _ s0).trans h5, (hc _ _ s0).trans h6, (hc _ _ s0).trans h7,
    (hc _ _ s1).trans g0, (hc _ _ s1).trans g1, (hc _ _ s1).trans g2, (hc _ _ s1).trans g3, (hc _ _ s1).trans g4, (hc _ _ s1).trans g5, (hc _ _ s1).trans g6, (hc _ _ s1).trans g7, below_step B2 hb, by omega, by omega⟩
theorem belowBetter (a0 a1 a2 a3 a4 a5 a6 b0 b1 b2 b3 b4 b5 b6 : Int) (A B : Option Addr) (c d : Nat) (l k : List S40) (w W : World) (h : SBetter a0 a1 a2 a3 a4 a5 a6 b0 b1 b2 b3 b4 b5 b6 A B c d l k w W) : Below w.heap.size w W := by
  obtain ⟨h0, h1, h2, h3, h4, h5, h6, h7, g0, g1, g2, g3, g4, g5, g6, g7, B2, s1, s0⟩ := h
  exact B2
section
variable (a0 a1 a2 a3 a4 a5 a6 b0 b1 b2 b3 b4 b5 b6 : Int) (A B : Option Addr) (c d : Nat) (l k : List S40) (w : World)
set_option maxHeartbeats 1000000 in
set_option maxRecDepth 100000 in
theorem better_ne (ra rb : Int) (hr : Kd.C k40 w A l.length l) (hc : l.length ≤ c) (hr' : Kd.C k40 w B k.length k) (hc' : k.length ≤ d) (ha : treelinelaw11_awake.f = some true)
    (h1 : conf_Id.f (a0 % 281474976710656) a1 a2 a3 a4 a5 a6 l = some ra) (h2 : conf_Id.f (b0 % 281474976710656) b1 b2 b3 b4 b5 b6 k = some rb) (hn : (a1 != b1) = true) (hv : (decide (ra < rb) == decide (a1 < b1)) = true)
    (ha0 : 0 ≤ a0) (hb0 : 0 ≤ b0) :
    Calls Try.prog 4 #[.agg #[.int .u64 a0, .int .u16 a1, .int .i64 a2, .int .i64 a3, .int .i64 a4, .int .i64 a5, .int .i64 a6, .slice A l.length c], .agg #[.int .u64 b0, .int .u16 b1, .int .i64 b2, .int .i64 b3, .int .i64 b4, .int .i64 b5, .int .i64 b6, .slice B k.length d]] w fun e w' => e = .returned (.bool true) ∧ Below w.heap.size w w' := by
  have HR := Lib.hid hr
  have HR' := Lib.hid hr'
  have H1 := Lib.hid h1
  have H2 := Lib.hid h2
  have HV := Lib.hid hv
  clear hr hr' h1 h2 hv
  go_enter Try.func4, Try.ntmps4
  go_wp2_with fail
  refine (treelinelaw11_awake.calls true _ ha).mono ?_
  rintro e w1 ⟨rfl, hb1⟩
  obtain ⟨hc1, hf1⟩ := bcell hb1
  have B1 := Lib.hid (below_step (below_alloc (below_alloc (Below.refl w.heap.size w) _) _) hb1)
  have hs1 : w.heap.size + 1 < w1.heap.size := by have := hb1.size; simp at this; omega
  have hs0 : w.heap.size < w1.heap.size := by omega
  go_wp2_with fail
  go_region
  go_wp2_with fail
  have B2 := below_drew1 (below_set (below_set B1.out (g := w.heap.size) (j := 0) (Nat.le_refl _) (v := .int .u64 (a0 % 281474976710656))) (g := w.heap.size + 1) (j := 0) (Nat.le_succ _) (v := .int .u64 (b0 % 281474976710656)))
  have S2 : SBetter a0 a1 a2 a3 a4 a5 a6 b0 b1 b2 b3 b4 b5 b6 A B c d l k w (((w1.setCell ⟨w.heap.size, 0, none⟩ (.int .u64 (a0 % 281474976710656))).setCell ⟨w.heap.size + 1, 0, none⟩ (.int .u64 (b0 % 281474976710656))).drew) := by
    unfold SBetter
    have c0 : w1.cell? ⟨w.heap.size, 0, none⟩ = some (.int .u64 a0) := by go_simp
    refine ⟨(World.cell?_setCell_far _ _ _ _ (by simp)).trans (World.cell?_setCell_same' _ _ _ (by rw [c0]; rfl)), ?_, ?_, ?_, ?_, ?_, ?_, ?_, ?_, ?_, ?_, ?_, ?_, ?_, ?_, ?_, B2, ?_, ?_⟩ <;> go_simp
  clear hc1 hf1 hs1 hs0 hb1
  generalize (((w1.setCell ⟨w.heap.size, 0, none⟩ (.int .u64 (a0 % 281474976710656))).setCell ⟨w.heap.size + 1, 0, none⟩ (.int .u64 (b0 % 281474976710656))).drew) = w2 at S2 B2 ⊢
  unfold SBetter at S2
  go_region_held3 (fun w' => w'.cell? ⟨w.heap.size, 0, none⟩ = some (Value.int .u64 (a0 % 281474976710656)) ∧ w'.cell? ⟨w.heap.size, 1, none⟩ = some (Value.int .u16 a1) ∧ w'.cell? ⟨w.heap.size, 2, none⟩ = some (Value.int .i64 a2) ∧ w'.cell? ⟨w.heap.size, 3, none⟩ = some (Value.int .i64 a3) ∧ w'.cell? ⟨w.heap.size, 4, none⟩ = some (Value.int .i64 a4) ∧ w'.cell? ⟨w.heap.size, 5, none⟩ = some (Value.int .i64 a5) ∧ w'.cell? ⟨w.heap.size, 6, none⟩ = some (Value.int .i64 a6) ∧ w'.cell? ⟨w.heap.size, 7, none⟩ = some (Value.slice A l.length c) ∧ w'.cell? ⟨w.heap.size + 1, 0, none⟩ = some (Value.int .u64 (b0 % 281474976710656)) ∧ w'.cell? ⟨w.heap.size + 1, 1, none⟩ = some (Value.int .u16 b1) ∧ w'.cell? ⟨w.heap.size + 1, 2, none⟩ = some (Value.int .i64 b2) ∧ w'.cell? ⟨w.heap.size + 1, 3, none⟩ = some (Value.int .i64 b3) ∧ w'.cell? ⟨w.heap.size + 1, 4, none⟩ = some (Value.int .i64 b4) ∧ w'.cell? ⟨w.heap.size + 1, 5, none⟩ = some (Value.int .i64 b5) ∧ w'.cell? ⟨w.heap.size + 1, 6, none⟩ = some (Value.int .i64 b6) ∧ w'.cell? ⟨w.heap.size + 1, 7, none⟩ = some (Value.slice B k.length d) ∧ Below w.heap.size w w' ∧ w.heap.size + 1 < w'.heap.size ∧ w.heap.size < w'.heap.size) (first | (exact keepBetter (by assumption) (by assumption)) | ((repeat' apply And.intro) <;> (first | go_keep | (exact below_drew1 (by assumption)))))
    (first | (go_at_call 15; (with_reducible refine (conf_Id.calls (a0 % 281474976710656) a1 a2 a3 a4 a5 a6 A c l ra _ ?_ hc H1.out).mono ?_); (first | exact Kd.C_below HR.out (below_drew1 B2) | exact Kd.C_below HR.out (belowBetter a0 a1 a2 a3 a4 a5 a6 b0 b1 b2 b3 b4 b5 b6 A B c d l k w _ (by assumption))); rintro e w3 ⟨rfl, hb3⟩) | (go_at_call 15; (with_reducible refine (conf_Id.calls (b0 % 281474976710656) b1 b2 b3 b4 b5 b6 B d k rb _ ?_ hc' H2.out).mono ?_); (first | exact Kd.C_below HR'.out (below_drew1 B2) | exact Kd.C_below HR'.out (belowBetter a0 a1 a2 a3 a4 a5 a6 b0 b1 b2 b3 b4 b5 b6 A B c d l k w _ (by assumption))); rintro e w3 ⟨rfl, hb3⟩))
  all_goals
    go_wp2_with fail
    go_ret
    exact ⟨by show Ending.returned (.bool (decide (ra < rb) == decide (a1 < b1))) = _; rw [HV.out], belowBetter a0 a1 a2 a3 a4 a5 a6 b0 b1 b2 b3 b4 b5 b6 A B c d l k w _ (by assumption)⟩
set_option maxHeartbeats 1000000 in
set_option maxRecDepth 100000 in
theorem better_eq (ra rb : Int) (hr : Kd.C k40 w A l.length l) (hc : l.length ≤ c) (hr' : Kd.C k40 w B k.length k) (hc' : k.length ≤ d) (ha : treelinelaw11_awake.f = some true)
    (h1 : conf_Id.f (a0 % 281474976710656) a1 a2 a3 a4 a5 a6 l = some ra) (h2 : conf_Id.f (b0 % 281474976710656) b1 b2 b3 b4 b5 b6 k = some rb) (hn : (a1 != b1) = false) (hv : (decide (ra < rb) == decide (a0 % 281474976710656 < b0 % 281474976710656)) = true)
    (ha0 : 0 ≤ a0) (hb0 : 0 ≤ b0) :
    Calls Try.prog 4 #[.agg #[.int .u64 a0, .int .u16 a1, .int .i64 a2, .int .i64 a3, .int .i64 a4, .int .i64 a5, .int .i64 a6, .slice A l.length c], .agg #[.int .u64 b0, .int .u16 b1, .int .i64 b2, .int .i64 b3, .int .i64 b4, .int .i64 b5, .int .i64 b6, .slice B k.length d]] w fun e w' => e = .returned (.bool true) ∧ Below w.heap.size w w' := by
  have HR := Lib.hid hr
  have HR' := Lib.hid hr'
  have H1 := Lib.hid h1
  have H2 := Lib.hid h2
  have HV := Lib.hid hv
  clear hr hr' h1 h2 hv
  go_enter Try.func4, Try.ntmps4
  go_wp2_with fail
  refine (treelinelaw11_awake.calls true _ ha).mono ?_
  rintro e w1 ⟨rfl, hb1⟩
  obtain ⟨hc1, hf1⟩ := bcell hb1
  have B1 := Lib.hid (below_step (below_alloc (below_alloc (Below.refl w.heap.size w) _) _) hb1)
  have hs1 : w.heap.size + 1 < w1.heap.size := by have := hb1.size; simp at this; omega
  have hs0 : w.heap.size < w1.heap.size := by omega
  go_wp2_with fail
  go_region
  go_wp2_with fail
  have B2 := below_drew1 (below_set (below_set B1.out (g := w.heap.size) (j := 0) (Nat.le_refl _) (v := .int .u64 (a0 % 281474976710656))) (g := w.heap.size + 1) (j := 0) (Nat.le_succ _) (v := .int .u64 (b0 % 281474976710656)))
  have S2 : SBetter a0 a1 a2 a3 a4 a5 a6 b0 b1 b2 b3 b4 b5 b6 A B c d l k w (((w1.setCell ⟨w.heap.size, 0, none⟩ (.int .u64 (a0 % 281474976710656))).setCell ⟨w.heap.size + 1, 0, none⟩ (.int .u64 (b0 % 281474976710656))).drew) := by
    unfold SBetter
    have c0 : w1.cell? ⟨w.heap.size, 0, none⟩ = some (.int .u64 a0) := by go_simp
    refine ⟨(World.cell?_setCell_far _ _ _ _ (by simp)).trans (World.cell?_setCell_same' _ _ _ (by rw [c0]; rfl)), ?_, ?_, ?_, ?_, ?_, ?_, ?_, ?_, ?_, ?_, ?_, ?_, ?_, ?_, ?_, B2, ?_, ?_⟩ <;> go_simp
  clear hc1 hf1 hs1 hs0 hb1
  generalize (((w1.setCell ⟨w.heap.size, 0, none⟩ (.int .u64 (a0 % 281474976710656))).setCell ⟨w.heap.size + 1, 0, none⟩ (.int .u64 (b0 % 281474976710656))).drew) = w2 at S2 B2 ⊢
  unfold SBetter at S2
  go_region_held3 (fun w' => w'.cell? ⟨w.heap.size, 0, none⟩ = some (Value.int .u64 (a0 % 281474976710656)) ∧ w'.cell? ⟨w.heap.size, 1, none⟩ = some (Value.int .u16 a1) ∧ w'.cell? ⟨w.heap.size, 2, none⟩ = some (Value.int .i64 a2) ∧ w'.cell? ⟨w.heap.size, 3, none⟩ = some (Value.int .i64 a3) ∧ w'.cell? ⟨w.heap.size, 4, none⟩ = some (Value.int .i64 a4) ∧ w'.cell? ⟨w.heap.size, 5, none⟩ = some (Value.int .i64 a5) ∧ w'.cell? ⟨w.heap.size, 6, none⟩ = some (Value.int .i64 a6) ∧ w'.cell? ⟨w.heap.size, 7, none⟩ = some (Value.slice A l.length c) ∧ w'.cell? ⟨w.heap.size + 1, 0, none⟩ = some (Value.int .u64 (b0 % 281474976710656)) ∧ w'.cell? ⟨w.heap.size + 1, 1, none⟩ = some (Value.int .u16 b1) ∧ w'.cell? ⟨w.heap.size + 1, 2, none⟩ = some (Value.int .i64 b2) ∧ w'.cell? ⟨w.heap.size + 1, 3, none⟩ = some (Value.int .i64 b3) ∧ w'.cell? ⟨w.heap.size + 1, 4, none⟩ = some (Value.int .i64 b4) ∧ w'.cell? ⟨w.heap.size + 1, 5, none⟩ = some (Value.int .i64 b5) ∧ w'.cell? ⟨w.heap.size + 1, 6, none⟩ = some (Value.int .i64 b6) ∧ w'.cell? ⟨w.heap.size + 1, 7, none⟩ = some (Value.slice B k.length d) ∧ Below w.heap.size w w' ∧ w.heap.size + 1 < w'.heap.size ∧ w.heap.size < w'.heap.size) (first | (exact keepBetter (by assumption) (by assumption)) | ((repeat' apply And.intro) <;> (first | go_keep | (exact below_drew1 (by assumption)))))
    (first | (go_at_call 15; (with_reducible refine (conf_Id.calls (a0 % 281474976710656) a1 a2 a3 a4 a5 a6 A c l ra _ ?_ hc H1.out).mono ?_); (first | exact Kd.C_below HR.out (below_drew1 B2) | exact Kd.C_below HR.out (belowBetter a0 a1 a2 a3 a4 a5 a6 b0 b1 b2 b3 b4 b5 b6 A B c d l k w _ (by assumption))); rintro e w3 ⟨rfl, hb3⟩) | (go_at_call 15; (with_reducible refine (conf_Id.calls (b0 % 281474976710656) b1 b2 b3 b4 b5 b6 B d k rb _ ?_ hc' H2.out).mono ?_); (first | exact Kd.C_below HR'.out (below_drew1 B2) | exact Kd.C_below HR'.out (belowBetter a0 a1 a2 a3 a4 a5 a6 b0 b1 b2 b3 b4 b5 b6 A B c d l k w _ (by assumption))); rintro e w3 ⟨rfl, hb3⟩))
  all_goals
    go_wp2_with fail
    go_ret
    exact ⟨by show Ending.returned (.bool (decide (ra < rb) == decide (a0 % 281474976710656 < b0 % 281474976710656))) = _; rw [HV.out], belowBetter a0 a1 a2 a3 a4 a5 a6 b0 b1 b2 b3 b4 b5 b6 A B c d l k w _ (by assumption)⟩
end
end Go.Proofs.Ytahhlbbgjjhncaa.PConfBetter
