/- For all arguments the law IdsOrder answers true: bridges' numbers are in the order of their priorities, then of their addresses; ports' likewise. -/
import Derived.Test.YtahhlbbgjjhncaaOIdsOrderx2
import Derived.Test.YtahhlbbgjjhncaaAr
namespace Go.Proofs.Ytahhlbbgjjhncaa.Pure
open Go.RowKit Go.Proofs.Ytahhlbbgjjhncaa.PIdsOrder Go.Proofs.YtahhlbbgjjhncaaW.PrintWords Go.Proofs.YtahhlbbgjjhncaaW.PrintLast Go.Proofs.YtahhlbbgjjhncaaW.PrintMore Go.Proofs.Ytahhlbbgjjhncaa.Ar
set_option linter.unusedVariables false
set_option linter.unusedSimpArgs false
theorem put_eq (a : Int) (k : Nat) : ids_Put.f (k + 7) a = some [a / 1099511627776 % 256, a / 4294967296 % 256, a / 16777216 % 256, a / 65536 % 256, a / 256 % 256, a % 256] := by
  simp [ids_Put.f, ids_Put.l0, wrap64, List.replicate, shr, IntKind.bits]
def hexd (d : Int) : Int := if d < 10 then d + 48 else d + 87
def pairB (b : Int) : List Int := [hexd (b / 16), hexd (b % 16)]
theorem hex_at {d : Int} (h0 : 0 ≤ d) (h1 : d < 16) : bt (⟨#[48, 49, 50, 51, 52, 53, 54, 55, 56, 57, 97, 98, 99, 100, 101, 102]⟩ : ByteArray) d = hexd d := by
  have key : ∀ n : Fin 16, bt (⟨#[48, 49, 50, 51, 52, 53, 54, 55, 56, 57, 97, 98, 99, 100, 101, 102]⟩ : ByteArray) (n.val : Int) = hexd (n.val : Int) := by decide
  have e : d = ((⟨d.toNat, by omega⟩ : Fin 16).val : Int) := by show d = (d.toNat : Int); omega
  rw [e]; exact key _
theorem hexd_range {d : Int} (h0 : 0 ≤ d) (h1 : d < 16) : 48 ≤ hexd d ∧ hexd d ≤ 102 := by unfold hexd; split <;> omega
theorem hexd_inj {d e : Int} (h0 : 0 ≤ d) (h1 : d < 16) (g0 : 0 ≤ e) (g1 : e < 16) (h : hexd d = hexd e) : d = e := by unfold hexd at h; split at h <;> split at h <;> omega
theorem text_step (k : Nat) (x3 x7 : List Int) (x9 y : Int) (hy : x9 + 1 = y) (h0 : 0 ≤ x9) (h1 : x9 < (x7.length : Int)) (hl : x3.length ≤ 1000) (hs : x7.length ≤ 1000) (hb0 : 0 ≤ rd x7 x9) (hb1 : rd x7 x9 < 256) :
    ids_Text.l0 (k + 1) x3 x7 x7.length x9 = ids_Text.l0 k (x3 ++ (if x9 > 0 then [58] else []) ++ pairB (rd x7 x9)) x7 x7.length y := by
  subst hy
  have hm := mask_u8 4 (by decide) hb0 hb1 (m := 15) (r := 16) (by decide) (by decide)
  have g0 : 0 ≤ rd x7 x9 / 16 := by omega
  have g1 : rd x7 x9 / 16 < 16 := by omega
  have g2 : 0 ≤ rd x7 x9 % 16 := by omega
  have g3 : rd x7 x9 % 16 < 16 := by omega
  have hw : wrap64 (x9 + 1) = x9 + 1 := w64 (by omega) (by omega)
  simp only [ids_Text.l0, hm]
  rw [if_pos h1, if_pos h0, if_pos h1, hw, hex_at g0 g1, hex_at g2 g3]
  by_cases c : x9 > 0
  · rw [if_pos c, if_pos (by omega), if_pos c]
    simp only [Option.bind_some]
    rw [if_pos g0, if_pos g1, if_pos g2, if_pos g3, if_pos (by simp; omega)]
    rfl
  · rw [if_neg c, if_neg c]
    rw [if_pos g0, if_pos g1, if_pos g2, if_pos g3]
    simp only [Option.bind_some]
    rw [if_pos (by simp; omega)]
    simp [pairB]
def textB (b0 b1 b2 b3 b4 b5 : Int) : List Int := [hexd (b0 / 16), hexd (b0 % 16), 58, hexd (b1 / 16), hexd (b1 % 16), 58, hexd (b2 / 16), hexd (b2 % 16), 58, hexd (b3 / 16), hexd (b3 % 16), 58, hexd (b4 / 16), hexd (b4 % 16), 58, hexd (b5 / 16), hexd (b5 % 16)]
theorem text_bytes (k : Nat) (b0 b1 b2 b3 b4 b5 : Int) (h0 : 0 ≤ b0 ∧ b0 < 256) (h1 : 0 ≤ b1 ∧ b1 < 256) (h2 : 0 ≤ b2 ∧ b2 < 256) (h3 : 0 ≤ b3 ∧ b3 < 256) (h4 : 0 ≤ b4 ∧ b4 < 256) (h5 : 0 ≤ b5 ∧ b5 < 256) :
    ids_Text.l0 (k + 7) [] [b0, b1, b2, b3, b4, b5] 6 0 = some (strOfNums (textB b0 b1 b2 b3 b4 b5)) := by
  rw [show (6 : Int) = (([b0, b1, b2, b3, b4, b5] : List Int).length : Int) from rfl]
  rw [text_step (k + 6) _ [b0, b1, b2, b3, b4, b5] 0 1 (by decide) (by decide) (by simp) (by simp) (by simp) h0.1 h0.2]
  rw [text_step (k + 5) _ [b0, b1, b2, b3, b4, b5] 1 2 (by decide) (by decide) (by simp) (by simp [pairB]) (by simp) h1.1 h1.2]
  rw [text_step (k + 4) _ [b0, b1, b2, b3, b4, b5] 2 3 (by decide) (by decide) (by simp) (by simp [pairB]) (by simp) h2.1 h2.2]
  rw [text_step (k + 3) _ [b0, b1, b2, b3, b4, b5] 3 4 (by decide) (by decide) (by simp) (by simp [pairB]) (by simp) h3.1 h3.2]
  rw [text_step (k + 2) _ [b0, b1, b2, b3, b4, b5] 4 5 (by decide) (by decide) (by simp) (by simp [pairB]) (by simp) h4.1 h4.2]
  rw [text_step (k + 1) _ [b0, b1, b2, b3, b4, b5] 5 6 (by decide) (by decide) (by simp) (by simp [pairB]) (by simp) h5.1 h5.2]
  rfl
theorem text_eq (k : Nat) (a : Int) (ha : 0 ≤ a) : ids_Text.f (k + 7) a = some (strOfNums (textB (a / 1099511627776 % 256) (a / 4294967296 % 256) (a / 16777216 % 256) (a / 65536 % 256) (a / 256 % 256) (a % 256))) := by
  unfold ids_Text.f
  rw [put_eq]
  simp only [Option.bind_some]
  exact text_bytes k _ _ _ _ _ _ (by omega) (by omega) (by omega) (by omega) (by omega) (by omega)
theorem awake_eq (k : Nat) : treelinelaw01_awake.f (k + 7) = some true := by
  unfold treelinelaw01_awake.f
  rw [text_eq k 258 (by decide)]
  simp only [Option.bind_some, toList_str]
  rfl
theorem bridge_eq {p a : Int} (hp : 0 ≤ p ∧ p < 65536) (ha : 0 ≤ a ∧ a < 18446744073709551616) : ids_Bridge.f p a = some (p * 281474976710656 + a % 281474976710656) := by
  unfold ids_Bridge.f
  rw [mask_u64 48 (by decide) ha.1 ha.2 (m := 281474976710655) (r := 281474976710656) (by decide) (by decide), wu64 hp.1 (by omega), wu64 (by omega) (by omega),
    join_u64 48 (r := 281474976710656) (by decide) (by omega) (by omega) (by omega) (by omega) (by omega) (by omega)]
theorem split_eq {a : Int} (ha : 0 ≤ a ∧ a < 18446744073709551616) : ids_Split.f a = some (a / 281474976710656, a % 281474976710656) := by
  unfold ids_Split.f
  rw [mask_u64 48 (by decide) ha.1 ha.2 (m := 281474976710655) (r := 281474976710656) (by decide) (by decide), wu16 (by omega) (by omega)]
theorem port_eq {p i : Int} (hp : 0 ≤ p ∧ p < 256) (hi : 0 ≤ i ∧ i < 255) : ids_Port.f p i = some (p * 256 + (i + 1)) := by
  unfold ids_Port.f
  rw [w64 (by omega) (by omega), wu16 hp.1 (by omega), wu16 (by omega) (by omega),
    join_u16 8 (r := 256) (by decide) (by omega) (by omega) (by omega) (by omega) (by omega) (by omega)]
  congr 1; omega
theorem IdsOrder : treelinelaw01_IdsOrder.Pure := by
  intro a0 a1 a2 a3 a4 a5 h0 h1 h2 h3 h4 h5
  replace h0 := wf_u16 h0
  replace h1 := wf_u16 h1
  replace h2 := wf_u64 h2
  replace h3 := wf_u64 h3
  replace h4 := wf_u8 h4
  replace h5 := wf_u8 h5
  refine ⟨10, ?_⟩
  have j2 : ∀ k, treelinelaw01_IdsOrder.j2 (k + 1) a0 a1 a4 a5 (a2 % 281474976710656) (a0 * 281474976710656 + a2 % 281474976710656) false = some true := by
    intro k
    simp only [treelinelaw01_IdsOrder.j2]
    rw [w64 (x := a4) (by omega) (by omega), w64 (x := a5) (by omega) (by omega), tmod_nn h4.1, tmod_nn h5.1, split_eq (by omega), port_eq (by omega) (by omega), port_eq (by omega) (by omega)]
    simp only [Option.bind_some, Bool.false_eq_true, if_false]
    rw [if_pos (by omega), if_pos (by omega)]
    by_cases c : a0 % 256 < a1 % 256
    · rw [if_pos c, decide_eq_true (by omega)]; rfl
    · rw [if_neg c]
      by_cases d : a0 % 256 = a1 % 256
      · rw [if_pos d]
        by_cases g : a4 % 255 < a5 % 255
        · rw [decide_eq_true (by omega), decide_eq_true g]; rfl
        · rw [decide_eq_false (by omega), decide_eq_false g]; rfl
      · rw [if_neg d, decide_eq_false (by omega)]; rfl
  have j1 : ∀ k (less same : Bool), (less = true ↔ a0 < a1 ∨ a0 = a1 ∧ a2 % 281474976710656 < a3 % 281474976710656) → (same = true ↔ a0 = a1 ∧ a2 % 281474976710656 = a3 % 281474976710656) →
      treelinelaw01_IdsOrder.j1 (k + 2) a0 a1 a2 a3 a4 a5 (a2 % 281474976710656) less same = some true := by
    intro k less same hl hs
    simp only [treelinelaw01_IdsOrder.j1]
    rw [bridge_eq h0 h2, bridge_eq h1 h3]
    simp only [Option.bind_some]
    have e1 : decide (a0 * 281474976710656 + a2 % 281474976710656 < a1 * 281474976710656 + a3 % 281474976710656) = less := by
      rw [Bool.eq_iff_iff, hl, decide_eq_true_iff]; omega
    have e2 : (a0 * 281474976710656 + a2 % 281474976710656 == a1 * 281474976710656 + a3 % 281474976710656) = same := by
      rw [Bool.eq_iff_iff, hs, beq_iff_eq]; omega
    rw [e1, e2, bne_self_eq_false, bne_self_eq_false]
    simp only [Bool.false_eq_true, if_false]
    exact j2 k
  have j0 : ∀ k (less : Bool), (less = true ↔ a0 < a1 ∨ a0 = a1 ∧ a2 % 281474976710656 < a3 % 281474976710656) → 
      treelinelaw01_IdsOrder.j0 (k + 3) a0 a1 a2 a3 a4 a5 (a2 % 281474976710656) (a3 % 281474976710656) less = some true := by
    intro k less hl
    simp only [treelinelaw01_IdsOrder.j0]
    by_cases c : a0 = a1
    · rw [if_pos c]
      exact j1 k less _ hl (by rw [beq_iff_eq]; omega)
    · rw [if_neg c]
      exact j1 k less _ hl (by simp [c])
  unfold treelinelaw01_IdsOrder.f
  rw [awake_eq 3, tmod_nn h2.1, tmod_nn h3.1]
  simp only [Option.bind_some, if_true]
  by_cases c : a0 < a1
  · rw [if_pos c]; exact j0 7 true (by simp [c])
  · rw [if_neg c]
    by_cases d : a0 = a1
    · rw [if_pos d]; exact j0 7 _ (by rw [decide_eq_true_iff]; omega)
    · rw [if_neg d]; exact j0 7 false (by simp; omega)
end Go.Proofs.Ytahhlbbgjjhncaa.Pure
