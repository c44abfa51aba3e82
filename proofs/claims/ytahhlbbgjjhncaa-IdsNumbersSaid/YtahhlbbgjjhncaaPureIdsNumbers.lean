/- For all arguments the law IdsNumbers answers true: the numbers of bridges and ports, and what is told of addresses, are the document's. -/
import Derived.Test.YtahhlbbgjjhncaaOIdsNumbersx2
import Derived.Test.YtahhlbbgjjhncaaAr
namespace Go.Proofs.Ytahhlbbgjjhncaa.Pure
open Go.RowKit Go.Proofs.Ytahhlbbgjjhncaa.PIdsNumbers Go.Proofs.YtahhlbbgjjhncaaW.PrintWords Go.Proofs.YtahhlbbgjjhncaaW.PrintLast Go.Proofs.YtahhlbbgjjhncaaW.PrintMore Go.Proofs.Ytahhlbbgjjhncaa.Ar
set_option linter.unusedVariables false
set_option linter.unusedSimpArgs false
theorem put_eq (a : Int) (k : Nat) : ids_Put.f (k + 7) a = some [a / 1099511627776 % 256, a / 4294967296 % 256, a / 16777216 % 256, a / 65536 % 256, a / 256 % 256, a % 256] := by
  simp [ids_Put.f, ids_Put.l0, wrap64, List.replicate, shr, IntKind.bits]
def hexd (d : Int) : Int := if d < 10 then d + 48 else d + 87
def pairB (b : Int) : List Int := [hexd (b / 16), hexd (b % 16)]
theorem hex_at {d : Int} (h0 : 0 ≤ d) (h1 : d < 16) : bt (⟨#[48, 49, 50, 51, 52, 53, 54, 55, 56, 57, 97, 98, 99, 100, 101, 102]⟩ : ByteArray) d = hexd d := by
  have key : ∀ n : Fin 16, bt (⟨#[48, 49, 50, 51, 52, 53, 54, 55, 56, 57, 97, 98, 99, 100, 101, 102]⟩ : ByteArray) (n.val : Int) = hexd (n.val : Int) := by decide
  have e : d = ((⟨d.toNat, by omega⟩ : Fin 16).val : Int) := by show d = (d.toNat : Int); omega
  rw [e]; exact key _
theorem hexd_range {d : Int} (h0 : 0 ≤ d) (h1 : d < 16) : 48 ≤ hexd d ∧ hexd d ≤ 102 := by unfold hexd; split <;> omega
theorem hexd_inj {d e : Int} (h0 : 0 ≤ d) (h1 : d < 16) (g0 : 0 ≤ e) (g1 : e < 16) (h : hexd d = hexd e) : d = e := by unfold hexd at h; split at h <;> split at h <;> omega
theorem text_step (k : Nat) (x3 x7 : List Int) (x9 y : Int) (hy : x9 + 1 = y) (h0 : 0 ≤ x9) (h1 : x9 < (x7.length : Int)) (hl : x3.length ≤ 1000) (hs : x7.length ≤ 1000) (hb0 : 0 ≤ rd x7 x9) (hb1 : rd x7 x9 < 256) :
    ids_Text.l0 (k + 1) x3 x7 x7.length x9 = ids_Text.l0 k (x3 ++ (if x9 > 0 then [58] else []) ++ pairB (rd x7 x9)) x7 x7.length y := by
  subst hy
  have hm := mask_u8 4 (by decide) hb0 hb1 (m := 15) (r := 16) (by decide) (by decide)
  have g0 : 0 ≤ rd x7 x9 / 16 := by omega
  have g1 : rd x7 x9 / 16 < 16 := by omega
  have g2 : 0 ≤ rd x7 x9 % 16 := by omega
  have g3 : rd x7 x9 % 16 < 16 := by omega
  have hw : wrap64 (x9 + 1) = x9 + 1 := w64 (by omega) (by omega)
  simp only [ids_Text.l0, hm]
  rw [if_pos h1, if_pos h0, if_pos h1, hw, hex_at g0 g1, hex_at g2 g3]
  by_cases c : x9 > 0
  · rw [if_pos c, if_pos (by omega), if_pos c]
    simp only [Option.bind_some]
    rw [if_pos g0, if_pos g1, if_pos g2, if_pos g3, if_pos (by simp; omega)]
    rfl
  · rw [if_neg c, if_neg c]
    rw [if_pos g0, if_pos g1, if_pos g2, if_pos g3]
    simp only [Option.bind_some]
    rw [if_pos (by simp; omega)]
    simp [pairB]
def textB (b0 b1 b2 b3 b4 b5 : Int) : List Int := [hexd (b0 / 16), hexd (b0 % 16), 58, hexd (b1 / 16), hexd (b1 % 16), 58, hexd (b2 / 16), hexd (b2 % 16), 58, hexd (b3 / 16), hexd (b3 % 16), 58, hexd (b4 / 16), hexd (b4 % 16), 58, hexd (b5 / 16), hexd (b5 % 16)]
theorem text_bytes (k : Nat) (b0 b1 b2 b3 b4 b5 : Int) (h0 : 0 ≤ b0 ∧ b0 < 256) (h1 : 0 ≤ b1 ∧ b1 < 256) (h2 : 0 ≤ b2 ∧ b2 < 256) (h3 : 0 ≤ b3 ∧ b3 < 256) (h4 : 0 ≤ b4 ∧ b4 < 256) (h5 : 0 ≤ b5 ∧ b5 < 256) :
    ids_Text.l0 (k + 7) [] [b0, b1, b2, b3, b4, b5] 6 0 = some (strOfNums (textB b0 b1 b2 b3 b4 b5)) := by
  rw [show (6 : Int) = (([b0, b1, b2, b3, b4, b5] : List Int).length : Int) from rfl]
  rw [text_step (k + 6) _ [b0, b1, b2, b3, b4, b5] 0 1 (by decide) (by decide) (by simp) (by simp) (by simp) h0.1 h0.2]
  rw [text_step (k + 5) _ [b0, b1, b2, b3, b4, b5] 1 2 (by decide) (by decide) (by simp) (by simp [pairB]) (by simp) h1.1 h1.2]
  rw [text_step (k + 4) _ [b0, b1, b2, b3, b4, b5] 2 3 (by decide) (by decide) (by simp) (by simp [pairB]) (by simp) h2.1 h2.2]
  rw [text_step (k + 3) _ [b0, b1, b2, b3, b4, b5] 3 4 (by decide) (by decide) (by simp) (by simp [pairB]) (by simp) h3.1 h3.2]
  rw [text_step (k + 2) _ [b0, b1, b2, b3, b4, b5] 4 5 (by decide) (by decide) (by simp) (by simp [pairB]) (by simp) h4.1 h4.2]
  rw [text_step (k + 1) _ [b0, b1, b2, b3, b4, b5] 5 6 (by decide) (by decide) (by simp) (by simp [pairB]) (by simp) h5.1 h5.2]
  rfl
theorem text_eq (k : Nat) (a : Int) (ha : 0 ≤ a) : ids_Text.f (k + 7) a = some (strOfNums (textB (a / 1099511627776 % 256) (a / 4294967296 % 256) (a / 16777216 % 256) (a / 65536 % 256) (a / 256 % 256) (a % 256))) := by
  unfold ids_Text.f
  rw [put_eq]
  simp only [Option.bind_some]
  exact text_bytes k _ _ _ _ _ _ (by omega) (by omega) (by omega) (by omega) (by omega) (by omega)
theorem awake_eq (k : Nat) : treelinelaw01_awake.f (k + 7) = some true := by
  unfold treelinelaw01_awake.f
  rw [text_eq k 258 (by decide)]
  simp only [Option.bind_some, toList_str]
  rfl
theorem bridge_eq {p a : Int} (hp : 0 ≤ p ∧ p < 65536) (ha : 0 ≤ a ∧ a < 18446744073709551616) : ids_Bridge.f p a = some (p * 281474976710656 + a % 281474976710656) := by
  unfold ids_Bridge.f
  rw [mask_u64 48 (by decide) ha.1 ha.2 (m := 281474976710655) (r := 281474976710656) (by decide) (by decide), wu64 hp.1 (by omega), wu64 (by omega) (by omega),
    join_u64 48 (r := 281474976710656) (by decide) (by omega) (by omega) (by omega) (by omega) (by omega) (by omega)]
theorem split_eq {a : Int} (ha : 0 ≤ a ∧ a < 18446744073709551616) : ids_Split.f a = some (a / 281474976710656, a % 281474976710656) := by
  unfold ids_Split.f
  rw [mask_u64 48 (by decide) ha.1 ha.2 (m := 281474976710655) (r := 281474976710656) (by decide) (by decide), wu16 (by omega) (by omega)]
theorem port_eq {p i : Int} (hp : 0 ≤ p ∧ p < 256) (hi : 0 ≤ i ∧ i < 255) : ids_Port.f p i = some (p * 256 + (i + 1)) := by
  unfold ids_Port.f
  rw [w64 (by omega) (by omega), wu16 hp.1 (by omega), wu16 (by omega) (by omega),
    join_u16 8 (r := 256) (by decide) (by omega) (by omega) (by omega) (by omega) (by omega) (by omega)]
  congr 1; omega
theorem group_eq {a : Int} (ha : 0 ≤ a ∧ a < 18446744073709551616) : ids_Group.f a = some (a / 1099511627776 % 2 == 1) := by
  unfold ids_Group.f
  rw [mask_u64 1 (by decide) (by omega) (by omega) (m := 1) (r := 2) (by decide) (by decide)]
theorem right_eq {a : Int} (ha : 0 ≤ a ∧ a < 18446744073709551616) : ids_Right.f a = treelineref01_Right.f a := by
  unfold ids_Right.f treelineref01_Right.f
  rw [group_eq ha, tdiv_nn ha.1, wu64 (by omega) (by omega), tmod_nn (by omega)]
  simp only [Option.bind_some]
  by_cases h : a > 0
  · rw [if_pos h, if_pos h]
    by_cases h1 : a < 281474976710656
    · rw [if_pos (by omega), if_pos h1]
      have : a / 1099511627776 % 2 = 0 ∨ a / 1099511627776 % 2 = 1 := by omega
      rcases this with e | e <;> rw [e] <;> rfl
    · rw [if_neg (by omega), if_neg h1]
  · rw [if_neg h, if_neg h]
theorem IdsNumbers : treelinelaw01_IdsNumbers.Pure := by
  intro a0 a1 a2 a3 a4 h0 h1 h2 h3 h4
  replace h0 := wf_u16 h0
  replace h1 := wf_u64 h1
  replace h2 := wf_u64 h2
  replace h3 := wf_u8 h3
  replace h4 := wf_u8 h4
  refine ⟨7, ?_⟩
  obtain ⟨rr, hr⟩ : ∃ r, treelineref01_Right.f a1 = some r := by unfold treelineref01_Right.f; split; split; exact ⟨_, rfl⟩; exact ⟨_, rfl⟩; exact ⟨_, rfl⟩
  have hi : Int.tmod (wrap64 a4) 255 = a4 % 255 := by rw [w64 (by omega) (by omega), tmod_nn h4.1]
  unfold treelinelaw01_IdsNumbers.f
  rw [awake_eq 0, hi, bridge_eq h0 h1, split_eq h2, port_eq h3 (by omega), group_eq h1, right_eq h1, hr]
  simp only [Option.bind_some, treelineref01_Least.f, ids_Number.f, ids_Reserved.f, if_true]
  rw [tmod_nn h1.1, tmod_nn h2.1, clear15 h1.1 h1.2, tdiv_nn h1.1, tdiv_nn h2.1, tdiv_nn h1.1, wu64 h0.1 (by omega), wu64 (x := a0 * 281474976710656) (by omega) (by omega),
    wu64 (x := a2 / 281474976710656) (by omega) (by omega), wu64 (x := a1 / 1099511627776) (by omega) (by omega), wu64 (x := a1 / 16) (by omega) (by omega), tmod_nn (by omega),
    wu64 (by omega) (by omega), if_pos rfl, if_pos rfl, if_pos rfl]
  rw [w64 (x := a3) (by omega) (by omega), w64 (x := 256 * a3) (by omega) (by omega), w64 (x := 256 * a3 + a4 % 255) (by omega) (by omega), w64 (by omega) (by omega), w64 (by omega) (by omega), if_pos (by omega), if_pos (by omega)]
  simp only [beq_self_eq_true, if_true]
  congr 1
  by_cases e : a1 / 16 = 103282638848
  · have : a1 / 16 * 16 = 1652522221568 := by omega
    rw [this, e]; rfl
  · have e2 : ¬ a1 / 16 * 16 = 1652522221568 := by omega
    have b1 : (a1 / 16 * 16 == 1652522221568) = false := by simpa using e2
    have b2 : (a1 / 16 == 103282638848) = false := by simpa using e
    rw [b1, b2]; rfl
end Go.Proofs.Ytahhlbbgjjhncaa.Pure
