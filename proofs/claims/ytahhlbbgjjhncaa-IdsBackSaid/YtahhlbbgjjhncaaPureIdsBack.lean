/- For every address and all further bytes the law IdsBack answers true: what is put, or told, is read as it was. -/
import Derived.Test.YtahhlbbgjjhncaaOIdsBackx2
import Derived.Test.YtahhlbbgjjhncaaAr
namespace Go.Proofs.Ytahhlbbgjjhncaa.Pure
open Go.RowKit Go.Proofs.Ytahhlbbgjjhncaa.PIdsBack Go.Proofs.YtahhlbbgjjhncaaW.PrintWords Go.Proofs.YtahhlbbgjjhncaaW.PrintLast Go.Proofs.YtahhlbbgjjhncaaW.PrintMore Go.Proofs.Ytahhlbbgjjhncaa.Ar
set_option linter.unusedVariables false
set_option linter.unusedSimpArgs false
theorem put_eq (a : Int) (k : Nat) : ids_Put.f (k + 7) a = some [a / 1099511627776 % 256, a / 4294967296 % 256, a / 16777216 % 256, a / 65536 % 256, a / 256 % 256, a % 256] := by
  simp [ids_Put.f, ids_Put.l0, wrap64, List.replicate, shr, IntKind.bits]
def hexd (d : Int) : Int := if d < 10 then d + 48 else d + 87
def pairB (b : Int) : List Int := [hexd (b / 16), hexd (b % 16)]
theorem hex_at {d : Int} (h0 : 0 ≤ d) (h1 : d < 16) : bt (⟨#[48, 49, 50, 51, 52, 53, 54, 55, 56, 57, 97, 98, 99, 100, 101, 102]⟩ : ByteArray) d = hexd d := by
  have key : ∀ n : Fin 16, bt (⟨#[48, 49, 50, 51, 52, 53, 54, 55, 56, 57, 97, 98, 99, 100, 101, 102]⟩ : ByteArray) (n.val : Int) = hexd (n.val : Int) := by decide
  have e : d = ((⟨d.toNat, by omega⟩ : Fin 16).val : Int) := by show d = (d.toNat : Int); omega
  rw [e]; exact key _
theorem hexd_range {d : Int} (h0 : 0 ≤ d) (h1 : d < 16) : 48 ≤ hexd d ∧ hexd d ≤ 102 := by unfold hexd; split <;> omega
theorem hexd_inj {d e : Int} (h0 : 0 ≤ d) (h1 : d < 16) (g0 : 0 ≤ e) (g1 : e < 16) (h : hexd d = hexd e) : d = e := by unfold hexd at h; split at h <;> split at h <;> omega
theorem text_step (k : Nat) (x3 x7 : List Int) (x9 y : Int) (hy : x9 + 1 = y) (h0 : 0 ≤ x9) (h1 : x9 < (x7.length : Int)) (hl : x3.length ≤ 1000) (hs : x7.length ≤ 1000) (hb0 : 0 ≤ rd x7 x9) (hb1 : rd x7 x9 < 256) :
    ids_Text.l0 (k + 1) x3 x7 x7.length x9 = ids_Text.l0 k (x3 ++ (if x9 > 0 then [58] else []) ++ pairB (rd x7 x9)) x7 x7.length y := by
  subst hy
  have hm := mask_u8 4 (by decide) hb0 hb1 (m := 15) (r := 16) (by decide) (by decide)
  have g0 : 0 ≤ rd x7 x9 / 16 := by omega
  have g1 : rd x7 x9 / 16 < 16 := by omega
  have g2 : 0 ≤ rd x7 x9 % 16 := by omega
  have g3 : rd x7 x9 % 16 < 16 := by omega
  have hw : wrap64 (x9 + 1) = x9 + 1 := w64 (by omega) (by omega)
  simp only [ids_Text.l0, hm]
  rw [if_pos h1, if_pos h0, if_pos h1, hw, hex_at g0 g1, hex_at g2 g3]
  by_cases c : x9 > 0
  · rw [if_pos c, if_pos (by omega), if_pos c]
    simp only [Option.bind_some]
    rw [if_pos g0, if_pos g1, if_pos g2, if_pos g3, if_pos (by simp; omega)]
    rfl
  · rw [if_neg c, if_neg c]
    rw [if_pos g0, if_pos g1, if_pos g2, if_pos g3]
    simp only [Option.bind_some]
    rw [if_pos (by simp; omega)]
    simp [pairB]
def textB (b0 b1 b2 b3 b4 b5 : Int) : List Int := [hexd (b0 / 16), hexd (b0 % 16), 58, hexd (b1 / 16), hexd (b1 % 16), 58, hexd (b2 / 16), hexd (b2 % 16), 58, hexd (b3 / 16), hexd (b3 % 16), 58, hexd (b4 / 16), hexd (b4 % 16), 58, hexd (b5 / 16), hexd (b5 % 16)]
theorem text_bytes (k : Nat) (b0 b1 b2 b3 b4 b5 : Int) (h0 : 0 ≤ b0 ∧ b0 < 256) (h1 : 0 ≤ b1 ∧ b1 < 256) (h2 : 0 ≤ b2 ∧ b2 < 256) (h3 : 0 ≤ b3 ∧ b3 < 256) (h4 : 0 ≤ b4 ∧ b4 < 256) (h5 : 0 ≤ b5 ∧ b5 < 256) :
    ids_Text.l0 (k + 7) [] [b0, b1, b2, b3, b4, b5] 6 0 = some (strOfNums (textB b0 b1 b2 b3 b4 b5)) := by
  rw [show (6 : Int) = (([b0, b1, b2, b3, b4, b5] : List Int).length : Int) from rfl]
  rw [text_step (k + 6) _ [b0, b1, b2, b3, b4, b5] 0 1 (by decide) (by decide) (by simp) (by simp) (by simp) h0.1 h0.2]
  rw [text_step (k + 5) _ [b0, b1, b2, b3, b4, b5] 1 2 (by decide) (by decide) (by simp) (by simp [pairB]) (by simp) h1.1 h1.2]
  rw [text_step (k + 4) _ [b0, b1, b2, b3, b4, b5] 2 3 (by decide) (by decide) (by simp) (by simp [pairB]) (by simp) h2.1 h2.2]
  rw [text_step (k + 3) _ [b0, b1, b2, b3, b4, b5] 3 4 (by decide) (by decide) (by simp) (by simp [pairB]) (by simp) h3.1 h3.2]
  rw [text_step (k + 2) _ [b0, b1, b2, b3, b4, b5] 4 5 (by decide) (by decide) (by simp) (by simp [pairB]) (by simp) h4.1 h4.2]
  rw [text_step (k + 1) _ [b0, b1, b2, b3, b4, b5] 5 6 (by decide) (by decide) (by simp) (by simp [pairB]) (by simp) h5.1 h5.2]
  rfl
theorem text_eq (k : Nat) (a : Int) (ha : 0 ≤ a) : ids_Text.f (k + 7) a = some (strOfNums (textB (a / 1099511627776 % 256) (a / 4294967296 % 256) (a / 16777216 % 256) (a / 65536 % 256) (a / 256 % 256) (a % 256))) := by
  unfold ids_Text.f
  rw [put_eq]
  simp only [Option.bind_some]
  exact text_bytes k _ _ _ _ _ _ (by omega) (by omega) (by omega) (by omega) (by omega) (by omega)
theorem awake_eq (k : Nat) : treelinelaw01_awake.f (k + 7) = some true := by
  unfold treelinelaw01_awake.f
  rw [text_eq k 258 (by decide)]
  simp only [Option.bind_some, toList_str]
  rfl
theorem get_step (k : Nat) (x4 : Int) (x11 : List Int) (i y : Int) (hy : i + 1 = y) (h0 : 0 ≤ i) (h1 : i < (x11.length : Int)) (hs : x11.length ≤ 1000) (hx : 0 ≤ x4 ∧ x4 < 72057594037927936) (hb : 0 ≤ rd x11 i ∧ rd x11 i < 256) :
    ids_Get.l0 (k + 1) x4 x11 x11.length i = ids_Get.l0 k (x4 * 256 + rd x11 i) x11 x11.length y := by
  subst hy
  simp only [ids_Get.l0]
  rw [if_pos h1, if_pos h0, if_pos h1, w64 (by omega) (by omega), wu64 (by omega) (by omega), wu64 (by omega) (by omega),
    join_u64 8 (r := 256) (by decide) (by omega) (by omega) (by omega) (by omega) (by omega) (by omega)]
theorem get_eq (k : Nat) (b0 b1 b2 b3 b4 b5 : Int) (more : List Int) (h0 : 0 ≤ b0 ∧ b0 < 256) (h1 : 0 ≤ b1 ∧ b1 < 256) (h2 : 0 ≤ b2 ∧ b2 < 256) (h3 : 0 ≤ b3 ∧ b3 < 256) (h4 : 0 ≤ b4 ∧ b4 < 256) (h5 : 0 ≤ b5 ∧ b5 < 256) :
    ids_Get.f (k + 7) (b0 :: b1 :: b2 :: b3 :: b4 :: b5 :: more) = some (((((b0 * 256 + b1) * 256 + b2) * 256 + b3) * 256 + b4) * 256 + b5, 0) := by
  unfold ids_Get.f
  rw [if_neg (by simp; omega), if_pos (by simp; omega)]
  simp only [List.take_succ_cons, List.take_zero]
  rw [get_step (k + 6) 0 [b0, b1, b2, b3, b4, b5] 0 1 (by decide) (by decide) (by simp) (by simp) (by decide) h0]
  rw [get_step (k + 5) _ [b0, b1, b2, b3, b4, b5] 1 2 (by decide) (by decide) (by simp) (by simp) (by simp [rd]; omega) h1]
  rw [get_step (k + 4) _ [b0, b1, b2, b3, b4, b5] 2 3 (by decide) (by decide) (by simp) (by simp) (by simp [rd]; omega) h2]
  rw [get_step (k + 3) _ [b0, b1, b2, b3, b4, b5] 3 4 (by decide) (by decide) (by simp) (by simp) (by simp [rd]; omega) h3]
  rw [get_step (k + 2) _ [b0, b1, b2, b3, b4, b5] 4 5 (by decide) (by decide) (by simp) (by simp) (by simp [rd]; omega) h4]
  rw [get_step (k + 1) _ [b0, b1, b2, b3, b4, b5] 5 6 (by decide) (by decide) (by simp) (by simp) (by simp [rd]; omega) h5]
  simp [ids_Get.l0, rd]
theorem digit_hex (k : Nat) {d : Int} (h0 : 0 ≤ d) (h1 : d < 16) : ids_digit.f (k + 1) (hexd d) = some (d, true) := by
  unfold ids_digit.f hexd
  by_cases c : d < 10
  · rw [if_pos c, if_pos (by omega), decide_eq_true (by omega)]
    simp only [ids_digit.j0, if_true]
    congr 2; omega
  · rw [if_neg c, if_pos (by omega), decide_eq_false (by omega)]
    simp only [ids_digit.j0, Bool.false_eq_true, if_false]
    rw [if_pos (by omega), if_pos (by omega)]
    congr 2; omega
theorem parse_digit (k : Nat) (s : ByteArray) (x : Int) (i y d : Int) (hy : i + 1 = y) (h0 : 0 ≤ i) (h1 : i < 17) (hs : s.size = 17) (hm : Int.tmod i 3 ≠ 2) (hx : 0 ≤ x ∧ x < 1152921504606846976) (hd : 0 ≤ d ∧ d < 16) (hb : bt s i = hexd d) :
    ids_Parse.l0 (k + 2) s x 17 i = ids_Parse.l0 (k + 1) s (x * 16 + d) 17 y := by
  subst hy
  simp only [ids_Parse.l0]
  rw [if_pos h1, if_neg hm, if_pos h0, if_pos (by omega), hb, digit_hex k hd.1 hd.2]
  simp only [Option.bind_some, if_true]
  rw [w64 (by omega) (by omega), wu64 (by omega) (by omega),
    join_u64 4 (r := 16) (by decide) (by omega) (by omega) (by omega) (by omega) (by omega) (by omega)]
theorem parse_colon (k : Nat) (s : ByteArray) (x : Int) (i y : Int) (hy : i + 1 = y) (h0 : 0 ≤ i) (h1 : i < 17) (hs : s.size = 17) (hm : Int.tmod i 3 = 2) (hb : bt s i = 58) :
    ids_Parse.l0 (k + 1) s x 17 i = ids_Parse.l0 k s x 17 y := by
  subst hy
  simp only [ids_Parse.l0]
  rw [if_pos h1, if_pos hm, if_pos h0, if_pos (by omega), if_pos hb, w64 (by omega) (by omega)]
theorem bt_str (xs : List Int) (i : Int) (h0 : 0 ≤ i) (h1 : i < xs.length) (hb : 0 ≤ rd xs i ∧ rd xs i < 256) : bt (strOfNums xs) i = rd xs i := by
  have hl : i.toNat < (strOfNums xs).size := by rw [size_str]; omega
  rw [← bt_at _ _ hl]
  have e : (strOfNums xs)[i.toNat] = UInt8.ofNat (rd xs i).toNat := by
    have h2 : i.toNat < xs.length := by omega
    simp only [rd, List.getD_eq_getElem?_getD, List.getElem?_eq_getElem h2, Option.getD_some]
    show (strOfNums xs).data[i.toNat] = _
    simp [strOfNums]
  rw [e, UInt8.toNat_ofNat']
  omega
theorem parse_text (k : Nat) (b0 b1 b2 b3 b4 b5 : Int) (h0 : 0 ≤ b0 ∧ b0 < 256) (h1 : 0 ≤ b1 ∧ b1 < 256) (h2 : 0 ≤ b2 ∧ b2 < 256) (h3 : 0 ≤ b3 ∧ b3 < 256) (h4 : 0 ≤ b4 ∧ b4 < 256) (h5 : 0 ≤ b5 ∧ b5 < 256) :
    ids_Parse.f (k + 20) (strOfNums (textB b0 b1 b2 b3 b4 b5)) = some (((((b0 * 256 + b1) * 256 + b2) * 256 + b3) * 256 + b4) * 256 + b5, 0) := by
  have hs : (strOfNums (textB b0 b1 b2 b3 b4 b5)).size = 17 := by rw [size_str]; rfl
  unfold ids_Parse.f
  rw [hs, if_pos (by decide)]
  have hb : ∀ i : Int, 0 ≤ i → i < 17 → (0 ≤ rd (textB b0 b1 b2 b3 b4 b5) i ∧ rd (textB b0 b1 b2 b3 b4 b5) i < 256) → bt (strOfNums (textB b0 b1 b2 b3 b4 b5)) i = rd (textB b0 b1 b2 b3 b4 b5) i :=
    fun i p q r => bt_str _ i p (by simp [textB]; omega) r
  have R : ∀ d : Int, 0 ≤ d ∧ d < 16 → 0 ≤ hexd d ∧ hexd d < 256 := fun d h => by have := hexd_range h.1 h.2; omega
  have D : ∀ b : Int, 0 ≤ b ∧ b < 256 → 0 ≤ b / 16 ∧ b / 16 < 16 := fun b h => by omega
  have M : ∀ b : Int, 0 ≤ b ∧ b < 256 → 0 ≤ b % 16 ∧ b % 16 < 16 := fun b h => by omega
  have C58 : (0 : Int) ≤ 58 ∧ (58 : Int) < 256 := by decide
  show ids_Parse.l0 (k + 20) _ 0 17 0 = _
  rw [parse_digit (k + 18) _ _ 0 1 (b0 / 16) (by decide) (by decide) (by decide) hs (by decide) (by decide) (D _ h0) (hb 0 (by decide) (by decide) (R _ (D _ h0)))]
  rw [parse_digit (k + 17) _ _ 1 2 (b0 % 16) (by decide) (by decide) (by decide) hs (by decide) (by omega) (M _ h0) (hb 1 (by decide) (by decide) (R _ (M _ h0)))]
  rw [parse_colon (k + 17) _ _ 2 3 (by decide) (by decide) (by decide) hs (by decide) (hb 2 (by decide) (by decide) C58)]
  rw [show (0 * 16 + b0 / 16) * 16 + b0 % 16 = b0 from by omega]
  rw [parse_digit (k + 15) _ _ 3 4 (b1 / 16) (by decide) (by decide) (by decide) hs (by decide) (by omega) (D _ h1) (hb 3 (by decide) (by decide) (R _ (D _ h1)))]
  rw [parse_digit (k + 14) _ _ 4 5 (b1 % 16) (by decide) (by decide) (by decide) hs (by decide) (by omega) (M _ h1) (hb 4 (by decide) (by decide) (R _ (M _ h1)))]
  rw [parse_colon (k + 14) _ _ 5 6 (by decide) (by decide) (by decide) hs (by decide) (hb 5 (by decide) (by decide) C58)]
  rw [show (b0 * 16 + b1 / 16) * 16 + b1 % 16 = b0 * 256 + b1 from by omega]
  rw [parse_digit (k + 12) _ _ 6 7 (b2 / 16) (by decide) (by decide) (by decide) hs (by decide) (by omega) (D _ h2) (hb 6 (by decide) (by decide) (R _ (D _ h2)))]
  rw [parse_digit (k + 11) _ _ 7 8 (b2 % 16) (by decide) (by decide) (by decide) hs (by decide) (by omega) (M _ h2) (hb 7 (by decide) (by decide) (R _ (M _ h2)))]
  rw [parse_colon (k + 11) _ _ 8 9 (by decide) (by decide) (by decide) hs (by decide) (hb 8 (by decide) (by decide) C58)]
  rw [show ((b0 * 256 + b1) * 16 + b2 / 16) * 16 + b2 % 16 = (b0 * 256 + b1) * 256 + b2 from by omega]
  rw [parse_digit (k + 9) _ _ 9 10 (b3 / 16) (by decide) (by decide) (by decide) hs (by decide) (by omega) (D _ h3) (hb 9 (by decide) (by decide) (R _ (D _ h3)))]
  rw [parse_digit (k + 8) _ _ 10 11 (b3 % 16) (by decide) (by decide) (by decide) hs (by decide) (by omega) (M _ h3) (hb 10 (by decide) (by decide) (R _ (M _ h3)))]
  rw [parse_colon (k + 8) _ _ 11 12 (by decide) (by decide) (by decide) hs (by decide) (hb 11 (by decide) (by decide) C58)]
  rw [show (((b0 * 256 + b1) * 256 + b2) * 16 + b3 / 16) * 16 + b3 % 16 = ((b0 * 256 + b1) * 256 + b2) * 256 + b3 from by omega]
  rw [parse_digit (k + 6) _ _ 12 13 (b4 / 16) (by decide) (by decide) (by decide) hs (by decide) (by omega) (D _ h4) (hb 12 (by decide) (by decide) (R _ (D _ h4)))]
  rw [parse_digit (k + 5) _ _ 13 14 (b4 % 16) (by decide) (by decide) (by decide) hs (by decide) (by omega) (M _ h4) (hb 13 (by decide) (by decide) (R _ (M _ h4)))]
  rw [parse_colon (k + 5) _ _ 14 15 (by decide) (by decide) (by decide) hs (by decide) (hb 14 (by decide) (by decide) C58)]
  rw [show ((((b0 * 256 + b1) * 256 + b2) * 256 + b3) * 16 + b4 / 16) * 16 + b4 % 16 = (((b0 * 256 + b1) * 256 + b2) * 256 + b3) * 256 + b4 from by omega]
  rw [parse_digit (k + 3) _ _ 15 16 (b5 / 16) (by decide) (by decide) (by decide) hs (by decide) (by omega) (D _ h5) (hb 15 (by decide) (by decide) (R _ (D _ h5)))]
  rw [parse_digit (k + 2) _ _ 16 17 (b5 % 16) (by decide) (by decide) (by decide) hs (by decide) (by omega) (M _ h5) (hb 16 (by decide) (by decide) (R _ (M _ h5)))]
  rw [show (((((b0 * 256 + b1) * 256 + b2) * 256 + b3) * 256 + b4) * 16 + b5 / 16) * 16 + b5 % 16 = ((((b0 * 256 + b1) * 256 + b2) * 256 + b3) * 256 + b4) * 256 + b5 from by omega]
  simp [ids_Parse.l0]
theorem IdsBack : treelinelaw01_IdsBack.Pure := by
  intro a0 l1 h0 _ hl h1
  replace h0 := wf_u64 h0
  refine ⟨30, ?_⟩
  unfold treelinelaw01_IdsBack.f
  rw [awake_eq 23]
  simp only [Option.bind_some, if_true]
  by_cases c : (l1.length : Int) > 1000
  · rw [decide_eq_true c]
    simp only [treelinelaw01_IdsBack.j0, if_true]
    rw [awake_eq 22]; rfl
  · rw [decide_eq_false c]
    simp only [treelinelaw01_IdsBack.j0, Bool.false_eq_true, if_false]
    rw [tmod_nn h0.1]
    obtain ⟨x, hx⟩ : ∃ x, x = a0 % 281474976710656 := ⟨_, rfl⟩
    have X : 0 ≤ x ∧ x < 281474976710656 := by omega
    rw [← hx]
    have B : ∀ z : Int, 0 ≤ z % 256 ∧ z % 256 < 256 := fun z => by omega
    rw [put_eq x 22]
    simp only [Option.bind_some, List.nil_append]
    rw [if_pos (by simp), if_pos (by simp; omega)]
    simp only [List.cons_append, List.nil_append]
    rw [get_eq 22 _ _ _ _ _ _ _ (B _) (B _) (B _) (B _) (B _) (B _), text_eq 22 x X.1]
    simp only [Option.bind_some]
    rw [parse_text 9 _ _ _ _ _ _ (B _) (B _) (B _) (B _) (B _) (B _)]
    simp only [Option.bind_some]
    rw [if_pos (by simp)]
    have e : (((((x / 1099511627776 % 256 * 256 + x / 4294967296 % 256) * 256 + x / 16777216 % 256) * 256 + x / 65536 % 256) * 256 + x / 256 % 256) * 256 + x % 256) = x := by
      have a1 : x / 1099511627776 % 256 * 256 + x / 4294967296 % 256 = x / 4294967296 := by omega
      have a2 : x / 4294967296 * 256 + x / 16777216 % 256 = x / 16777216 := by omega
      have a3 : x / 16777216 * 256 + x / 65536 % 256 = x / 65536 := by omega
      have a4 : x / 65536 * 256 + x / 256 % 256 = x / 256 := by omega
      rw [a1, a2, a3, a4]; omega
    rw [e]
    simp [ids_Get.f]
end Go.Proofs.Ytahhlbbgjjhncaa.Pure
