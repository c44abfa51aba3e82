/- For every string the law IdsParses answers true: a text is read just if it is one of an address, as that. -/
import Derived.Test.YtahhlbbgjjhncaaOIdsParsesx6
import Derived.Test.YtahhlbbgjjhncaaAr
namespace Go.Proofs.Ytahhlbbgjjhncaa.Pure
open Go.RowKit Go.Proofs.Ytahhlbbgjjhncaa.OIdsParses Go.Proofs.YtahhlbbgjjhncaaW.PrintWords Go.Proofs.YtahhlbbgjjhncaaW.PrintLast Go.Proofs.YtahhlbbgjjhncaaW.PrintMore Go.Proofs.Ytahhlbbgjjhncaa.Ar
set_option linter.unusedVariables false
set_option linter.unusedSimpArgs false
theorem put_eq (a : Int) (k : Nat) : ids_Put.f (k + 7) a = some [a / 1099511627776 % 256, a / 4294967296 % 256, a / 16777216 % 256, a / 65536 % 256, a / 256 % 256, a % 256] := by
  simp [ids_Put.f, ids_Put.l0, wrap64, List.replicate, shr, IntKind.bits]
def hexd (d : Int) : Int := if d < 10 then d + 48 else d + 87
def pairB (b : Int) : List Int := [hexd (b / 16), hexd (b % 16)]
theorem hex_at {d : Int} (h0 : 0 ≤ d) (h1 : d < 16) : bt (⟨#[48, 49, 50, 51, 52, 53, 54, 55, 56, 57, 97, 98, 99, 100, 101, 102]⟩ : ByteArray) d = hexd d := by
  have key : ∀ n : Fin 16, bt (⟨#[48, 49, 50, 51, 52, 53, 54, 55, 56, 57, 97, 98, 99, 100, 101, 102]⟩ : ByteArray) (n.val : Int) = hexd (n.val : Int) := by decide
  have e : d = ((⟨d.toNat, by omega⟩ : Fin 16).val : Int) := by show d = (d.toNat : Int); omega
  rw [e]; exact key _
theorem hexd_range {d : Int} (h0 : 0 ≤ d) (h1 : d < 16) : 48 ≤ hexd d ∧ hexd d ≤ 102 := by unfold hexd; split <;> omega
theorem hexd_inj {d e : Int} (h0 : 0 ≤ d) (h1 : d < 16) (g0 : 0 ≤ e) (g1 : e < 16) (h : hexd d = hexd e) : d = e := by unfold hexd at h; split at h <;> split at h <;> omega
theorem text_step (k : Nat) (x3 x7 : List Int) (x9 y : Int) (hy : x9 + 1 = y) (h0 : 0 ≤ x9) (h1 : x9 < (x7.length : Int)) (hl : x3.length ≤ 1000) (hs : x7.length ≤ 1000) (hb0 : 0 ≤ rd x7 x9) (hb1 : rd x7 x9 < 256) :
    ids_Text.l0 (k + 1) x3 x7 x7.length x9 = ids_Text.l0 k (x3 ++ (if x9 > 0 then [58] else []) ++ pairB (rd x7 x9)) x7 x7.length y := by
  subst hy
  have hm := mask_u8 4 (by decide) hb0 hb1 (m := 15) (r := 16) (by decide) (by decide)
  have g0 : 0 ≤ rd x7 x9 / 16 := by omega
  have g1 : rd x7 x9 / 16 < 16 := by omega
  have g2 : 0 ≤ rd x7 x9 % 16 := by omega
  have g3 : rd x7 x9 % 16 < 16 := by omega
  have hw : wrap64 (x9 + 1) = x9 + 1 := w64 (by omega) (by omega)
  simp only [ids_Text.l0, hm]
  rw [if_pos h1, if_pos h0, if_pos h1, hw, hex_at g0 g1, hex_at g2 g3]
  by_cases c : x9 > 0
  · rw [if_pos c, if_pos (by omega), if_pos c]
    simp only [Option.bind_some]
    rw [if_pos g0, if_pos g1, if_pos g2, if_pos g3, if_pos (by simp; omega)]
    rfl
  · rw [if_neg c, if_neg c]
    rw [if_pos g0, if_pos g1, if_pos g2, if_pos g3]
    simp only [Option.bind_some]
    rw [if_pos (by simp; omega)]
    simp [pairB]
def textB (b0 b1 b2 b3 b4 b5 : Int) : List Int := [hexd (b0 / 16), hexd (b0 % 16), 58, hexd (b1 / 16), hexd (b1 % 16), 58, hexd (b2 / 16), hexd (b2 % 16), 58, hexd (b3 / 16), hexd (b3 % 16), 58, hexd (b4 / 16), hexd (b4 % 16), 58, hexd (b5 / 16), hexd (b5 % 16)]
theorem text_bytes (k : Nat) (b0 b1 b2 b3 b4 b5 : Int) (h0 : 0 ≤ b0 ∧ b0 < 256) (h1 : 0 ≤ b1 ∧ b1 < 256) (h2 : 0 ≤ b2 ∧ b2 < 256) (h3 : 0 ≤ b3 ∧ b3 < 256) (h4 : 0 ≤ b4 ∧ b4 < 256) (h5 : 0 ≤ b5 ∧ b5 < 256) :
    ids_Text.l0 (k + 7) [] [b0, b1, b2, b3, b4, b5] 6 0 = some (strOfNums (textB b0 b1 b2 b3 b4 b5)) := by
  rw [show (6 : Int) = (([b0, b1, b2, b3, b4, b5] : List Int).length : Int) from rfl]
  rw [text_step (k + 6) _ [b0, b1, b2, b3, b4, b5] 0 1 (by decide) (by decide) (by simp) (by simp) (by simp) h0.1 h0.2]
  rw [text_step (k + 5) _ [b0, b1, b2, b3, b4, b5] 1 2 (by decide) (by decide) (by simp) (by simp [pairB]) (by simp) h1.1 h1.2]
  rw [text_step (k + 4) _ [b0, b1, b2, b3, b4, b5] 2 3 (by decide) (by decide) (by simp) (by simp [pairB]) (by simp) h2.1 h2.2]
  rw [text_step (k + 3) _ [b0, b1, b2, b3, b4, b5] 3 4 (by decide) (by decide) (by simp) (by simp [pairB]) (by simp) h3.1 h3.2]
  rw [text_step (k + 2) _ [b0, b1, b2, b3, b4, b5] 4 5 (by decide) (by decide) (by simp) (by simp [pairB]) (by simp) h4.1 h4.2]
  rw [text_step (k + 1) _ [b0, b1, b2, b3, b4, b5] 5 6 (by decide) (by decide) (by simp) (by simp [pairB]) (by simp) h5.1 h5.2]
  rfl
theorem text_eq (k : Nat) (a : Int) (ha : 0 ≤ a) : ids_Text.f (k + 7) a = some (strOfNums (textB (a / 1099511627776 % 256) (a / 4294967296 % 256) (a / 16777216 % 256) (a / 65536 % 256) (a / 256 % 256) (a % 256))) := by
  unfold ids_Text.f
  rw [put_eq]
  simp only [Option.bind_some]
  exact text_bytes k _ _ _ _ _ _ (by omega) (by omega) (by omega) (by omega) (by omega) (by omega)

theorem awake_eq (k : Nat) : treelinelaw01_awake.f (k + 7) = some true := by
  unfold treelinelaw01_awake.f
  rw [text_eq k 258 (by decide)]
  simp only [Option.bind_some, toList_str]
  rfl

theorem digit_hex (k : Nat) {d : Int} (h0 : 0 ≤ d) (h1 : d < 16) : ids_digit.f (k + 1) (hexd d) = some (d, true) := by
  unfold ids_digit.f hexd
  by_cases c : d < 10
  · rw [if_pos c, if_pos (by omega), decide_eq_true (by omega)]
    simp only [ids_digit.j0, if_true]
    congr 2; omega
  · rw [if_neg c, if_pos (by omega), decide_eq_false (by omega)]
    simp only [ids_digit.j0, Bool.false_eq_true, if_false]
    rw [if_pos (by omega), if_pos (by omega)]
    congr 2; omega
theorem parse_digit (k : Nat) (s : ByteArray) (x : Int) (i y d : Int) (hy : i + 1 = y) (h0 : 0 ≤ i) (h1 : i < 17) (hs : s.size = 17) (hm : Int.tmod i 3 ≠ 2) (hx : 0 ≤ x ∧ x < 1152921504606846976) (hd : 0 ≤ d ∧ d < 16) (hb : bt s i = hexd d) :
    ids_Parse.l0 (k + 2) s x 17 i = ids_Parse.l0 (k + 1) s (x * 16 + d) 17 y := by
  subst hy
  simp only [ids_Parse.l0]
  rw [if_pos h1, if_neg hm, if_pos h0, if_pos (by omega), hb, digit_hex k hd.1 hd.2]
  simp only [Option.bind_some, if_true]
  rw [w64 (by omega) (by omega), wu64 (by omega) (by omega),
    join_u64 4 (r := 16) (by decide) (by omega) (by omega) (by omega) (by omega) (by omega) (by omega)]
theorem parse_colon (k : Nat) (s : ByteArray) (x : Int) (i y : Int) (hy : i + 1 = y) (h0 : 0 ≤ i) (h1 : i < 17) (hs : s.size = 17) (hm : Int.tmod i 3 = 2) (hb : bt s i = 58) :
    ids_Parse.l0 (k + 1) s x 17 i = ids_Parse.l0 k s x 17 y := by
  subst hy
  simp only [ids_Parse.l0]
  rw [if_pos h1, if_pos hm, if_pos h0, if_pos (by omega), if_pos hb, w64 (by omega) (by omega)]
theorem bt_str (xs : List Int) (i : Int) (h0 : 0 ≤ i) (h1 : i < xs.length) (hb : 0 ≤ rd xs i ∧ rd xs i < 256) : bt (strOfNums xs) i = rd xs i := by
  have hl : i.toNat < (strOfNums xs).size := by rw [size_str]; omega
  rw [← bt_at _ _ hl]
  have e : (strOfNums xs)[i.toNat] = UInt8.ofNat (rd xs i).toNat := by
    have h2 : i.toNat < xs.length := by omega
    simp only [rd, List.getD_eq_getElem?_getD, List.getElem?_eq_getElem h2, Option.getD_some]
    show (strOfNums xs).data[i.toNat] = _
    simp [strOfNums]
  rw [e, UInt8.toNat_ofNat']
  omega
theorem parse_text (k : Nat) (b0 b1 b2 b3 b4 b5 : Int) (h0 : 0 ≤ b0 ∧ b0 < 256) (h1 : 0 ≤ b1 ∧ b1 < 256) (h2 : 0 ≤ b2 ∧ b2 < 256) (h3 : 0 ≤ b3 ∧ b3 < 256) (h4 : 0 ≤ b4 ∧ b4 < 256) (h5 : 0 ≤ b5 ∧ b5 < 256) :
    ids_Parse.f (k + 20) (strOfNums (textB b0 b1 b2 b3 b4 b5)) = some (((((b0 * 256 + b1) * 256 + b2) * 256 + b3) * 256 + b4) * 256 + b5, 0) := by
  have hs : (strOfNums (textB b0 b1 b2 b3 b4 b5)).size = 17 := by rw [size_str]; rfl
  unfold ids_Parse.f
  rw [hs, if_pos (by decide)]
  have hb : ∀ i : Int, 0 ≤ i → i < 17 → (0 ≤ rd (textB b0 b1 b2 b3 b4 b5) i ∧ rd (textB b0 b1 b2 b3 b4 b5) i < 256) → bt (strOfNums (textB b0 b1 b2 b3 b4 b5)) i = rd (textB b0 b1 b2 b3 b4 b5) i :=
    fun i p q r => bt_str _ i p (by simp [textB]; omega) r
  have R : ∀ d : Int, 0 ≤ d ∧ d < 16 → 0 ≤ hexd d ∧ hexd d < 256 := fun d h => by have := hexd_range h.1 h.2; omega
  have D : ∀ b : Int, 0 ≤ b ∧ b < 256 → 0 ≤ b / 16 ∧ b / 16 < 16 := fun b h => by omega
  have M : ∀ b : Int, 0 ≤ b ∧ b < 256 → 0 ≤ b % 16 ∧ b % 16 < 16 := fun b h => by omega
  have C58 : (0 : Int) ≤ 58 ∧ (58 : Int) < 256 := by decide
  show ids_Parse.l0 (k + 20) _ 0 17 0 = _
  rw [parse_digit (k + 18) _ _ 0 1 (b0 / 16) (by decide) (by decide) (by decide) hs (by decide) (by decide) (D _ h0) (hb 0 (by decide) (by decide) (R _ (D _ h0)))]
  rw [parse_digit (k + 17) _ _ 1 2 (b0 % 16) (by decide) (by decide) (by decide) hs (by decide) (by omega) (M _ h0) (hb 1 (by decide) (by decide) (R _ (M _ h0)))]
  rw [parse_colon (k + 17) _ _ 2 3 (by decide) (by decide) (by decide) hs (by decide) (hb 2 (by decide) (by decide) C58)]
  rw [show (0 * 16 + b0 / 16) * 16 + b0 % 16 = b0 from by omega]
  rw [parse_digit (k + 15) _ _ 3 4 (b1 / 16) (by decide) (by decide) (by decide) hs (by decide) (by omega) (D _ h1) (hb 3 (by decide) (by decide) (R _ (D _ h1)))]
  rw [parse_digit (k + 14) _ _ 4 5 (b1 % 16) (by decide) (by decide) (by decide) hs (by decide) (by omega) (M _ h1) (hb 4 (by decide) (by decide) (R _ (M _ h1)))]
  rw [parse_colon (k + 14) _ _ 5 6 (by decide) (by decide) (by decide) hs (by decide) (hb 5 (by decide) (by decide) C58)]
  rw [show (b0 * 16 + b1 / 16) * 16 + b1 % 16 = b0 * 256 + b1 from by omega]
  rw [parse_digit (k + 12) _ _ 6 7 (b2 / 16) (by decide) (by decide) (by decide) hs (by decide) (by omega) (D _ h2) (hb 6 (by decide) (by decide) (R _ (D _ h2)))]
  rw [parse_digit (k + 11) _ _ 7 8 (b2 % 16) (by decide) (by decide) (by decide) hs (by decide) (by omega) (M _ h2) (hb 7 (by decide) (by decide) (R _ (M _ h2)))]
  rw [parse_colon (k + 11) _ _ 8 9 (by decide) (by decide) (by decide) hs (by decide) (hb 8 (by decide) (by decide) C58)]
  rw [show ((b0 * 256 + b1) * 16 + b2 / 16) * 16 + b2 % 16 = (b0 * 256 + b1) * 256 + b2 from by omega]
  rw [parse_digit (k + 9) _ _ 9 10 (b3 / 16) (by decide) (by decide) (by decide) hs (by decide) (by omega) (D _ h3) (hb 9 (by decide) (by decide) (R _ (D _ h3)))]
  rw [parse_digit (k + 8) _ _ 10 11 (b3 % 16) (by decide) (by decide) (by decide) hs (by decide) (by omega) (M _ h3) (hb 10 (by decide) (by decide) (R _ (M _ h3)))]
  rw [parse_colon (k + 8) _ _ 11 12 (by decide) (by decide) (by decide) hs (by decide) (hb 11 (by decide) (by decide) C58)]
  rw [show (((b0 * 256 + b1) * 256 + b2) * 16 + b3 / 16) * 16 + b3 % 16 = ((b0 * 256 + b1) * 256 + b2) * 256 + b3 from by omega]
  rw [parse_digit (k + 6) _ _ 12 13 (b4 / 16) (by decide) (by decide) (by decide) hs (by decide) (by omega) (D _ h4) (hb 12 (by decide) (by decide) (R _ (D _ h4)))]
  rw [parse_digit (k + 5) _ _ 13 14 (b4 % 16) (by decide) (by decide) (by decide) hs (by decide) (by omega) (M _ h4) (hb 13 (by decide) (by decide) (R _ (M _ h4)))]
  rw [parse_colon (k + 5) _ _ 14 15 (by decide) (by decide) (by decide) hs (by decide) (hb 14 (by decide) (by decide) C58)]
  rw [show ((((b0 * 256 + b1) * 256 + b2) * 256 + b3) * 16 + b4 / 16) * 16 + b4 % 16 = (((b0 * 256 + b1) * 256 + b2) * 256 + b3) * 256 + b4 from by omega]
  rw [parse_digit (k + 3) _ _ 15 16 (b5 / 16) (by decide) (by decide) (by decide) hs (by decide) (by omega) (D _ h5) (hb 15 (by decide) (by decide) (R _ (D _ h5)))]
  rw [parse_digit (k + 2) _ _ 16 17 (b5 % 16) (by decide) (by decide) (by decide) hs (by decide) (by omega) (M _ h5) (hb 16 (by decide) (by decide) (R _ (M _ h5)))]
  rw [show (((((b0 * 256 + b1) * 256 + b2) * 256 + b3) * 256 + b4) * 16 + b5 / 16) * 16 + b5 % 16 = ((((b0 * 256 + b1) * 256 + b2) * 256 + b3) * 256 + b4) * 256 + b5 from by omega]
  simp [ids_Parse.l0]

theorem reftext_eq (k : Nat) (a : Int) (ha : 0 ≤ a ∧ a < 18446744073709551616) : treelineref01_Text.f a = some (strOfNums (textB (a / 1099511627776 % 256) (a / 4294967296 % 256) (a / 16777216 % 256) (a / 65536 % 256) (a / 256 % 256) (a % 256))) := by
  unfold treelineref01_Text.f
  rw [if_pos ha]
  rfl

def hexy (c : Int) : Prop := 48 ≤ c ∧ c ≤ 57 ∨ 97 ≤ c ∧ c ≤ 102
def good (s : ByteArray) (j : Int) : Prop := if j % 3 = 2 then bt s j = 58 else hexy (bt s j)
def dig (c : Int) : Int := if c ≤ 57 then c - 48 else c - 87
theorem dig_hex {c : Int} (h : hexy c) : hexd (dig c) = c ∧ 0 ≤ dig c ∧ dig c < 16 := by
  unfold hexy at h; unfold hexd dig
  split <;> split <;> omega
theorem digit_bad (k : Nat) {c : Int} (h : ¬ hexy c) : ids_digit.f (k + 1) c = some (0, false) := by
  unfold hexy at h
  unfold ids_digit.f
  by_cases c1 : c ≥ 48
  · rw [if_pos c1, decide_eq_false (by omega)]
    simp only [ids_digit.j0, Bool.false_eq_true, if_false]
    by_cases c2 : c ≥ 97
    · rw [if_pos c2, if_neg (by omega)]
    · rw [if_neg c2]
  · rw [if_neg c1]
    simp only [ids_digit.j0, Bool.false_eq_true, if_false]
    rw [if_neg (by omega)]
theorem digit_good (k : Nat) {c : Int} (h : hexy c) : ids_digit.f (k + 1) c = some (dig c, true) := by
  obtain ⟨e, h0, h1⟩ := dig_hex h
  have := digit_hex k h0 h1
  rwa [e] at this
theorem parse_bad (s : ByteArray) (hs : s.size = 17) (d : Nat) : ∀ (k : Nat) (x i : Int), 0 ≤ i → i + d = 17 → d + 1 < k → (∃ j, i ≤ j ∧ j < 17 ∧ ¬ good s j) → ids_Parse.l0 k s x 17 i = some (0, 3) := by
  induction d with
  | zero => intro k x i _ h1 _ ⟨j, h2, h3, _⟩; omega
  | succ d ih =>
    intro k x i h0 h1 hk ⟨j, hj0, hj1, hj⟩
    obtain ⟨k, rfl⟩ : ∃ m, k = m + 2 := ⟨k - 2, by omega⟩
    have hw : wrap64 (i + 1) = i + 1 := w64 (by omega) (by omega)
    have ht : Int.tmod i 3 = i % 3 := tmod_nn h0
    by_cases g : good s i
    · have hne : i ≠ j := fun e => hj (e ▸ g)
      unfold good at g
      simp only [ids_Parse.l0]
      rw [if_pos (by omega), ht]
      by_cases m : i % 3 = 2
      · rw [if_pos m] at g
        rw [if_pos m, if_pos h0, if_pos (by omega), if_pos g, hw]
        exact ih (k + 1) _ (i + 1) (by omega) (by omega) (by omega) ⟨j, by omega, hj1, hj⟩
      · rw [if_neg m] at g
        rw [if_neg m, if_pos h0, if_pos (by omega), digit_good k g]
        simp only [Option.bind_some, if_true]
        rw [hw]
        exact ih (k + 1) _ (i + 1) (by omega) (by omega) (by omega) ⟨j, by omega, hj1, hj⟩
    · unfold good at g
      simp only [ids_Parse.l0]
      rw [if_pos (by omega), ht]
      by_cases m : i % 3 = 2
      · rw [if_pos m] at g
        rw [if_pos m, if_pos h0, if_pos (by omega), if_neg g]
      · rw [if_neg m] at g
        rw [if_neg m, if_pos h0, if_pos (by omega), digit_bad k g]
        simp
theorem law_bad (s : ByteArray) (hs : s.size = 17) (d : Nat) : ∀ (k : Nat) (i : Int), 0 ≤ i → i + d = 17 → d < k → (∃ j, i ≤ j ∧ j < 17 ∧ ¬ good s j) → treelinelaw01_IdsParses.l0 k s i = some true := by
  induction d with
  | zero => intro k i _ h1 _ ⟨j, h2, h3, _⟩; omega
  | succ d ih =>
    intro k i h0 h1 hk ⟨j, hj0, hj1, hj⟩
    obtain ⟨k, rfl⟩ : ∃ m, k = m + 1 := ⟨k - 1, by omega⟩
    have hw : wrap64 (i + 1) = i + 1 := w64 (by omega) (by omega)
    have ht : Int.tmod i 3 = i % 3 := tmod_nn h0
    have go : good s i → treelinelaw01_IdsParses.l0 k s (i + 1) = some true := fun g => by
      have hne : i ≠ j := fun e => hj (e ▸ g)
      exact ih _ _ (by omega) (by omega) (by omega) ⟨j, by omega, hj1, hj⟩
    clear ih hj
    unfold good hexy at go
    simp only [treelinelaw01_IdsParses.l0]
    rw [if_pos (by omega), if_pos h0, if_pos (by omega), hw, ht]
    by_cases m : i % 3 = 2
    · simp only [if_pos m] at go ⊢
      by_cases c : bt s i = 58
      · simp [go c, c]
      · simp [c]
    · simp only [if_neg m] at go ⊢
      by_cases c1 : bt s i ≥ 48
      · rw [if_pos c1]
        by_cases c2 : bt s i ≤ 57
        · rw [if_pos c2]; exact go (by omega)
        · rw [if_neg c2]
          by_cases c3 : bt s i ≥ 97
          · rw [if_pos c3]
            by_cases c4 : bt s i ≤ 102
            · rw [if_pos c4]; exact go (by omega)
            · rw [if_neg c4]
          · rw [if_neg c3]
      · rw [if_neg c1, if_neg (by omega)]
theorem str_of_bytes (s : ByteArray) (xs : List Int) (hl : s.size = xs.length) (h : ∀ i : Nat, i < xs.length → bt s i = xs.getD i 0) : s = strOfNums xs := by
  apply ByteArray.ext
  apply Array.ext
  · rw [show s.data.size = s.size from rfl, hl]; simp [strOfNums]
  · intro i h1 h2
    have hi : i < xs.length := by rw [← hl]; exact h1
    have e := h i hi
    rw [← bt_at s i (show (i : Int).toNat < s.size from h1), List.getD_eq_getElem?_getD, List.getElem?_eq_getElem hi, Option.getD_some] at e
    have e2 : (strOfNums xs).data[i] = UInt8.ofNat (xs[i]).toNat := by simp [strOfNums]
    rw [e2, ← e]
    show s.data[i] = UInt8.ofNat (s[(i : Int).toNat].toNat : Int).toNat
    simp
    rfl
theorem all_good (s : ByteArray) (hs : s.size = 17) (g : ∀ j : Int, 0 ≤ j → j < 17 → good s j) :
    ∃ b0 b1 b2 b3 b4 b5 : Int, (0 ≤ b0 ∧ b0 < 256) ∧ (0 ≤ b1 ∧ b1 < 256) ∧ (0 ≤ b2 ∧ b2 < 256) ∧ (0 ≤ b3 ∧ b3 < 256) ∧ (0 ≤ b4 ∧ b4 < 256) ∧ (0 ≤ b5 ∧ b5 < 256) ∧ s = strOfNums (textB b0 b1 b2 b3 b4 b5) := by
  have c : ∀ j : Int, 0 ≤ j → j < 17 → j % 3 = 2 → bt s j = 58 := fun j h0 h1 h2 => by have := g j h0 h1; unfold good at this; rwa [if_pos h2] at this
  have d : ∀ j : Int, 0 ≤ j → j < 17 → j % 3 ≠ 2 → hexd (dig (bt s j)) = bt s j ∧ 0 ≤ dig (bt s j) ∧ dig (bt s j) < 16 := fun j h0 h1 h2 => by
    have := g j h0 h1; unfold good at this; rw [if_neg h2] at this; exact dig_hex this
  have two : ∀ u v : Int, (hexd (dig (bt s u)) = bt s u ∧ 0 ≤ dig (bt s u) ∧ dig (bt s u) < 16) → (hexd (dig (bt s v)) = bt s v ∧ 0 ≤ dig (bt s v) ∧ dig (bt s v) < 16) →
      ∃ b, (0 ≤ b ∧ b < 256) ∧ bt s u = hexd (b / 16) ∧ bt s v = hexd (b % 16) := by
    intro u v ⟨hu, hu0, hu1⟩ ⟨hv, hv0, hv1⟩
    refine ⟨dig (bt s u) * 16 + dig (bt s v), by omega, ?_, ?_⟩
    · rw [show (dig (bt s u) * 16 + dig (bt s v)) / 16 = dig (bt s u) from by omega, hu]
    · rw [show (dig (bt s u) * 16 + dig (bt s v)) % 16 = dig (bt s v) from by omega, hv]
  obtain ⟨b0, r0, p0, q0⟩ := two 0 1 (d 0 (by decide) (by decide) (by decide)) (d 1 (by decide) (by decide) (by decide))
  obtain ⟨b1, r1, p1, q1⟩ := two 3 4 (d 3 (by decide) (by decide) (by decide)) (d 4 (by decide) (by decide) (by decide))
  obtain ⟨b2, r2, p2, q2⟩ := two 6 7 (d 6 (by decide) (by decide) (by decide)) (d 7 (by decide) (by decide) (by decide))
  obtain ⟨b3, r3, p3, q3⟩ := two 9 10 (d 9 (by decide) (by decide) (by decide)) (d 10 (by decide) (by decide) (by decide))
  obtain ⟨b4, r4, p4, q4⟩ := two 12 13 (d 12 (by decide) (by decide) (by decide)) (d 13 (by decide) (by decide) (by decide))
  obtain ⟨b5, r5, p5, q5⟩ := two 15 16 (d 15 (by decide) (by decide) (by decide)) (d 16 (by decide) (by decide) (by decide))
  refine ⟨b0, b1, b2, b3, b4, b5, r0, r1, r2, r3, r4, r5, str_of_bytes s _ (by rw [hs]; rfl) ?_⟩
  intro i hi
  have c2 := c 2 (by decide) (by decide) (by decide)
  have c5 := c 5 (by decide) (by decide) (by decide)
  have c8 := c 8 (by decide) (by decide) (by decide)
  have c11 := c 11 (by decide) (by decide) (by decide)
  have c14 := c 14 (by decide) (by decide) (by decide)
  match i, hi with
  | 0, _ => exact p0
  | 1, _ => exact q0
  | 2, _ => exact c2
  | 3, _ => exact p1
  | 4, _ => exact q1
  | 5, _ => exact c5
  | 6, _ => exact p2
  | 7, _ => exact q2
  | 8, _ => exact c8
  | 9, _ => exact p3
  | 10, _ => exact q3
  | 11, _ => exact c11
  | 12, _ => exact p4
  | 13, _ => exact q4
  | 14, _ => exact c14
  | 15, _ => exact p5
  | 16, _ => exact q5
  | n + 17, h => simp [textB] at h; omega
theorem IdsParses : treelinelaw01_IdsParses.Pure := by
  intro s _
  refine ⟨40, ?_⟩
  unfold treelinelaw01_IdsParses.f
  rw [awake_eq 33]
  simp only [Option.bind_some, if_true]
  by_cases c : (s.size : Int) > 1000
  · rw [decide_eq_true c]
    simp only [treelinelaw01_IdsParses.j0, if_true]
    rw [awake_eq 32]; rfl
  · rw [decide_eq_false c]
    simp only [treelinelaw01_IdsParses.j0, Bool.false_eq_true, if_false]
    by_cases hs : s.size = 17
    · by_cases g : ∀ j : Int, 0 ≤ j → j < 17 → good s j
      · obtain ⟨b0, b1, b2, b3, b4, b5, r0, r1, r2, r3, r4, r5, rfl⟩ := all_good s hs g
        rw [parse_text 19 _ _ _ _ _ _ r0 r1 r2 r3 r4 r5]
        simp only [Option.bind_some, if_true]
        rw [reftext_eq 32 _ (by omega)]
        simp only [Option.bind_some]
        rw [show (((((b0 * 256 + b1) * 256 + b2) * 256 + b3) * 256 + b4) * 256 + b5) / 1099511627776 % 256 = b0 from by omega,
          show (((((b0 * 256 + b1) * 256 + b2) * 256 + b3) * 256 + b4) * 256 + b5) / 4294967296 % 256 = b1 from by omega,
          show (((((b0 * 256 + b1) * 256 + b2) * 256 + b3) * 256 + b4) * 256 + b5) / 16777216 % 256 = b2 from by omega,
          show (((((b0 * 256 + b1) * 256 + b2) * 256 + b3) * 256 + b4) * 256 + b5) / 65536 % 256 = b3 from by omega,
          show (((((b0 * 256 + b1) * 256 + b2) * 256 + b3) * 256 + b4) * 256 + b5) / 256 % 256 = b4 from by omega,
          show (((((b0 * 256 + b1) * 256 + b2) * 256 + b3) * 256 + b4) * 256 + b5) % 256 = b5 from by omega, if_pos rfl, decide_eq_true (by omega)]
      · have hb : ∃ j : Int, 0 ≤ j ∧ j < 17 ∧ ¬ good s j := by
          apply Classical.byContradiction
          intro hn
          exact g fun j h0 h1 => Classical.byContradiction fun h => hn ⟨j, h0, h1, h⟩
        have hp : ids_Parse.f 39 s = some (0, 3) := by
          unfold ids_Parse.f
          rw [if_pos (by omega), hs]
          exact parse_bad s hs 17 39 0 0 (by decide) (by decide) (by decide) hb
        rw [hp]
        simp only [Option.bind_some, if_true]
        rw [if_neg (by decide), hs]
        simp only [treelinelaw01_IdsParses.j1]
        rw [if_neg (by decide)]
        exact law_bad s hs 17 _ 0 (by decide) (by decide) (by decide) hb
    · have hp : ids_Parse.f 39 s = some (0, 3) := by
        unfold ids_Parse.f
        rw [if_neg (by omega)]
      rw [hp]
      simp only [Option.bind_some, if_true]
      rw [if_neg (by decide)]
      have e : ((s.size : Int) != 17) = true := by rw [bne_iff_ne]; omega
      rw [e]
      simp only [treelinelaw01_IdsParses.j1, if_true]
      rfl

end Go.Proofs.Ytahhlbbgjjhncaa.Pure
