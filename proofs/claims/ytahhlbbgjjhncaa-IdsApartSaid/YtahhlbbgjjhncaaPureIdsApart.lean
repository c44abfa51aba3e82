/- For all two numbers of 64 bits the law IdsApart answers true: the texts, and the bytes, of two addresses are alike, or in order, just if the addresses are. -/
import Derived.Test.YtahhlbbgjjhncaaOIdsApartx2
import Derived.Test.YtahhlbbgjjhncaaAr
namespace Go.Proofs.Ytahhlbbgjjhncaa.Pure
open Go.RowKit Go.Proofs.Ytahhlbbgjjhncaa.PIdsApart Go.Proofs.YtahhlbbgjjhncaaW.PrintWords Go.Proofs.YtahhlbbgjjhncaaW.PrintLast Go.Proofs.YtahhlbbgjjhncaaW.PrintMore Go.Proofs.Ytahhlbbgjjhncaa.Ar
set_option linter.unusedVariables false
set_option linter.unusedSimpArgs false
theorem put_eq (a : Int) (k : Nat) : ids_Put.f (k + 7) a = some [a / 1099511627776 % 256, a / 4294967296 % 256, a / 16777216 % 256, a / 65536 % 256, a / 256 % 256, a % 256] := by
  simp [ids_Put.f, ids_Put.l0, wrap64, List.replicate, shr, IntKind.bits]
def hexd (d : Int) : Int := if d < 10 then d + 48 else d + 87
def pairB (b : Int) : List Int := [hexd (b / 16), hexd (b % 16)]
theorem hex_at {d : Int} (h0 : 0 ≤ d) (h1 : d < 16) : bt (⟨#[48, 49, 50, 51, 52, 53, 54, 55, 56, 57, 97, 98, 99, 100, 101, 102]⟩ : ByteArray) d = hexd d := by
  have key : ∀ n : Fin 16, bt (⟨#[48, 49, 50, 51, 52, 53, 54, 55, 56, 57, 97, 98, 99, 100, 101, 102]⟩ : ByteArray) (n.val : Int) = hexd (n.val : Int) := by decide
  have e : d = ((⟨d.toNat, by omega⟩ : Fin 16).val : Int) := by show d = (d.toNat : Int); omega
  rw [e]; exact key _
theorem hexd_range {d : Int} (h0 : 0 ≤ d) (h1 : d < 16) : 48 ≤ hexd d ∧ hexd d ≤ 102 := by unfold hexd; split <;> omega
theorem hexd_inj {d e : Int} (h0 : 0 ≤ d) (h1 : d < 16) (g0 : 0 ≤ e) (g1 : e < 16) (h : hexd d = hexd e) : d = e := by unfold hexd at h; split at h <;> split at h <;> omega
theorem text_step (k : Nat) (x3 x7 : List Int) (x9 y : Int) (hy : x9 + 1 = y) (h0 : 0 ≤ x9) (h1 : x9 < (x7.length : Int)) (hl : x3.length ≤ 1000) (hs : x7.length ≤ 1000) (hb0 : 0 ≤ rd x7 x9) (hb1 : rd x7 x9 < 256) :
    ids_Text.l0 (k + 1) x3 x7 x7.length x9 = ids_Text.l0 k (x3 ++ (if x9 > 0 then [58] else []) ++ pairB (rd x7 x9)) x7 x7.length y := by
  subst hy
  have hm := mask_u8 4 (by decide) hb0 hb1 (m := 15) (r := 16) (by decide) (by decide)
  have g0 : 0 ≤ rd x7 x9 / 16 := by omega
  have g1 : rd x7 x9 / 16 < 16 := by omega
  have g2 : 0 ≤ rd x7 x9 % 16 := by omega
  have g3 : rd x7 x9 % 16 < 16 := by omega
  have hw : wrap64 (x9 + 1) = x9 + 1 := w64 (by omega) (by omega)
  simp only [ids_Text.l0, hm]
  rw [if_pos h1, if_pos h0, if_pos h1, hw, hex_at g0 g1, hex_at g2 g3]
  by_cases c : x9 > 0
  · rw [if_pos c, if_pos (by omega), if_pos c]
    simp only [Option.bind_some]
    rw [if_pos g0, if_pos g1, if_pos g2, if_pos g3, if_pos (by simp; omega)]
    rfl
  · rw [if_neg c, if_neg c]
    rw [if_pos g0, if_pos g1, if_pos g2, if_pos g3]
    simp only [Option.bind_some]
    rw [if_pos (by simp; omega)]
    simp [pairB]
def textB (b0 b1 b2 b3 b4 b5 : Int) : List Int := [hexd (b0 / 16), hexd (b0 % 16), 58, hexd (b1 / 16), hexd (b1 % 16), 58, hexd (b2 / 16), hexd (b2 % 16), 58, hexd (b3 / 16), hexd (b3 % 16), 58, hexd (b4 / 16), hexd (b4 % 16), 58, hexd (b5 / 16), hexd (b5 % 16)]
theorem text_bytes (k : Nat) (b0 b1 b2 b3 b4 b5 : Int) (h0 : 0 ≤ b0 ∧ b0 < 256) (h1 : 0 ≤ b1 ∧ b1 < 256) (h2 : 0 ≤ b2 ∧ b2 < 256) (h3 : 0 ≤ b3 ∧ b3 < 256) (h4 : 0 ≤ b4 ∧ b4 < 256) (h5 : 0 ≤ b5 ∧ b5 < 256) :
    ids_Text.l0 (k + 7) [] [b0, b1, b2, b3, b4, b5] 6 0 = some (strOfNums (textB b0 b1 b2 b3 b4 b5)) := by
  rw [show (6 : Int) = (([b0, b1, b2, b3, b4, b5] : List Int).length : Int) from rfl]
  rw [text_step (k + 6) _ [b0, b1, b2, b3, b4, b5] 0 1 (by decide) (by decide) (by simp) (by simp) (by simp) h0.1 h0.2]
  rw [text_step (k + 5) _ [b0, b1, b2, b3, b4, b5] 1 2 (by decide) (by decide) (by simp) (by simp [pairB]) (by simp) h1.1 h1.2]
  rw [text_step (k + 4) _ [b0, b1, b2, b3, b4, b5] 2 3 (by decide) (by decide) (by simp) (by simp [pairB]) (by simp) h2.1 h2.2]
  rw [text_step (k + 3) _ [b0, b1, b2, b3, b4, b5] 3 4 (by decide) (by decide) (by simp) (by simp [pairB]) (by simp) h3.1 h3.2]
  rw [text_step (k + 2) _ [b0, b1, b2, b3, b4, b5] 4 5 (by decide) (by decide) (by simp) (by simp [pairB]) (by simp) h4.1 h4.2]
  rw [text_step (k + 1) _ [b0, b1, b2, b3, b4, b5] 5 6 (by decide) (by decide) (by simp) (by simp [pairB]) (by simp) h5.1 h5.2]
  rfl
theorem text_eq (k : Nat) (a : Int) (ha : 0 ≤ a) : ids_Text.f (k + 7) a = some (strOfNums (textB (a / 1099511627776 % 256) (a / 4294967296 % 256) (a / 16777216 % 256) (a / 65536 % 256) (a / 256 % 256) (a % 256))) := by
  unfold ids_Text.f
  rw [put_eq]
  simp only [Option.bind_some]
  exact text_bytes k _ _ _ _ _ _ (by omega) (by omega) (by omega) (by omega) (by omega) (by omega)
theorem awake_eq (k : Nat) : treelinelaw01_awake.f (k + 7) = some true := by
  unfold treelinelaw01_awake.f
  rw [text_eq k 258 (by decide)]
  simp only [Option.bind_some, toList_str]
  rfl
theorem ofI_toNat {u : Int} (hu : 0 ≤ u ∧ u < 256) : (UInt8.ofNat u.toNat).toNat = u.toNat := by
  rw [UInt8.toNat_ofNat']; exact Nat.mod_eq_of_lt (by omega)
theorem ofI_lt {u v : Int} (hu : 0 ≤ u ∧ u < 256) (hv : 0 ≤ v ∧ v < 256) : (UInt8.ofNat u.toNat < UInt8.ofNat v.toNat) ↔ u < v := by
  rw [UInt8.lt_iff_toNat_lt, ofI_toNat hu, ofI_toNat hv]; omega
theorem ofI_eq {u v : Int} (hu : 0 ≤ u ∧ u < 256) (hv : 0 ≤ v ∧ v < 256) : (UInt8.ofNat u.toNat = UInt8.ofNat v.toNat) ↔ u = v := by
  rw [← UInt8.toNat_inj, ofI_toNat hu, ofI_toNat hv]; omega
theorem lex_step {u v : Int} (hu : 0 ≤ u ∧ u < 256) (hv : 0 ≤ v ∧ v < 256) (x y : List UInt8) :
    Op.bytesLess (UInt8.ofNat u.toNat :: x) (UInt8.ofNat v.toNat :: y) = if u < v then true else if u = v then Op.bytesLess x y else false := by
  simp only [Op.bytesLess]
  by_cases c : u < v
  · rw [if_pos c]; simp [(ofI_lt hu hv).2 c]
  · rw [if_neg c]
    have h1 : decide (UInt8.ofNat u.toNat < UInt8.ofNat v.toNat) = false := decide_eq_false (fun h => c ((ofI_lt hu hv).1 h))
    rw [h1, Bool.false_or]
    by_cases d : u = v
    · subst d; simp
    · rw [if_neg d]
      have h2 : (UInt8.ofNat u.toNat == UInt8.ofNat v.toNat) = false := by
        rw [beq_eq_false_iff_ne]; exact fun h => d ((ofI_eq hu hv).1 h)
      rw [h2, Bool.false_and]
theorem hexd_byte {d : Int} (h0 : 0 ≤ d) (h1 : d < 16) : 0 ≤ hexd d ∧ hexd d < 256 := by have := hexd_range h0 h1; omega
theorem hexd_lt {d e : Int} (h0 : 0 ≤ d) (h1 : d < 16) (g0 : 0 ≤ e) (g1 : e < 16) : hexd d < hexd e ↔ d < e := by unfold hexd; split <;> split <;> omega
theorem pair_step {b c : Int} (hb : 0 ≤ b ∧ b < 256) (hc : 0 ≤ c ∧ c < 256) (x y : List UInt8) :
    Op.bytesLess (UInt8.ofNat (hexd (b / 16)).toNat :: UInt8.ofNat (hexd (b % 16)).toNat :: x) (UInt8.ofNat (hexd (c / 16)).toNat :: UInt8.ofNat (hexd (c % 16)).toNat :: y) =
      if b < c then true else if b = c then Op.bytesLess x y else false := by
  rw [lex_step (hexd_byte (by omega) (by omega)) (hexd_byte (by omega) (by omega)), lex_step (hexd_byte (by omega) (by omega)) (hexd_byte (by omega) (by omega))]
  have e1 := hexd_lt (d := b / 16) (e := c / 16) (by omega) (by omega) (by omega) (by omega)
  have e2 := hexd_lt (d := b % 16) (e := c % 16) (by omega) (by omega) (by omega) (by omega)
  have e3 : hexd (b / 16) = hexd (c / 16) ↔ b / 16 = c / 16 := ⟨hexd_inj (by omega) (by omega) (by omega) (by omega), fun h => by rw [h]⟩
  have e4 : hexd (b % 16) = hexd (c % 16) ↔ b % 16 = c % 16 := ⟨hexd_inj (by omega) (by omega) (by omega) (by omega), fun h => by rw [h]⟩
  simp only [e1, e2, e3, e4]
  by_cases c1 : b < c
  · rw [if_pos c1]
    by_cases d1 : b / 16 < c / 16
    · rw [if_pos d1]
    · rw [if_neg d1, if_pos (by omega), if_pos (by omega)]
  · rw [if_neg c1, if_neg (by omega)]
    by_cases d1 : b = c
    · subst d1; simp
    · rw [if_neg d1]
      by_cases d2 : b / 16 = c / 16
      · rw [if_pos d2, if_neg (by omega), if_neg (by omega)]
      · rw [if_neg d2]
theorem colon_step (x y : List UInt8) : Op.bytesLess (UInt8.ofNat (58 : Int).toNat :: x) (UInt8.ofNat (58 : Int).toNat :: y) = Op.bytesLess x y := by
  rw [lex_step (by decide) (by decide)]; rfl
theorem cut_cmp {X Y b c r s : Int} (m : Int) (hX : X = b * m + r) (hY : Y = c * m + s) (hr : 0 ≤ r ∧ r < m) (hs : 0 ≤ s ∧ s < m) :
    (if b < c then true else if b = c then decide (r < s) else false) = decide (X < Y) := by
  subst hX hY
  by_cases h : b < c
  · rw [if_pos h]; symm; apply decide_eq_true
    have : (b + 1) * m ≤ c * m := Int.mul_le_mul_of_nonneg_right (by omega) (by omega)
    rw [Int.add_mul] at this
    omega
  · rw [if_neg h]
    by_cases e : b = c
    · subst e; rw [if_pos rfl, decide_eq_decide]; omega
    · rw [if_neg e]; symm; apply decide_eq_false
      have : (c + 1) * m ≤ b * m := Int.mul_le_mul_of_nonneg_right (by omega) (by omega)
      rw [Int.add_mul] at this
      omega
def textL (x : Int) : List UInt8 := (textB (x / 1099511627776 % 256) (x / 4294967296 % 256) (x / 16777216 % 256) (x / 65536 % 256) (x / 256 % 256) (x % 256)).map fun n => UInt8.ofNat n.toNat
theorem texts_less {x y : Int} (X : 0 ≤ x ∧ x < 281474976710656) (Y : 0 ≤ y ∧ y < 281474976710656) : Op.bytesLess (textL x) (textL y) = decide (x < y) := by
  simp only [textL, textB, List.map_cons, List.map_nil]
  have B : ∀ z : Int, 0 ≤ z % 256 ∧ z % 256 < 256 := fun z => by omega
  rw [pair_step (B _) (B _), colon_step, pair_step (B _) (B _), colon_step, pair_step (B _) (B _), colon_step, pair_step (B _) (B _), colon_step, pair_step (B _) (B _), colon_step, pair_step (B _) (B _)]
  simp only [Op.bytesLess]
  have s5 : (if x % 256 < y % 256 then true else if x % 256 = y % 256 then false else false) = decide (x % 256 < y % 256) := by
    by_cases h : x % 256 < y % 256
    · rw [if_pos h, decide_eq_true h]
    · rw [if_neg h, decide_eq_false h]; split <;> rfl
  rw [s5]
  rw [cut_cmp (X := x % 65536) (Y := y % 65536) 256 (by omega) (by omega) (by omega) (by omega)]
  rw [cut_cmp (X := x % 16777216) (Y := y % 16777216) 65536 (by omega) (by omega) (by omega) (by omega)]
  rw [cut_cmp (X := x % 4294967296) (Y := y % 4294967296) 16777216 (by omega) (by omega) (by omega) (by omega)]
  rw [cut_cmp (X := x % 1099511627776) (Y := y % 1099511627776) 4294967296 (by omega) (by omega) (by omega) (by omega)]
  rw [cut_cmp (X := x) (Y := y) 1099511627776 (by omega) (by omega) (by omega) (by omega)]
theorem texts_eq {x y : Int} (X : 0 ≤ x ∧ x < 281474976710656) (Y : 0 ≤ y ∧ y < 281474976710656) (h : textL x = textL y) : x = y := by
  have e1 := texts_less X Y
  have e2 := texts_less Y X
  have e3 := texts_less X X
  rw [← h, e3] at e1
  rw [← h, e3] at e2
  simp at e1 e2
  omega
theorem IdsApart : treelinelaw01_IdsApart.Pure := by
  intro a0 a1 h0 h1
  replace h0 := wf_u64 h0
  replace h1 := wf_u64 h1
  refine ⟨7, ?_⟩
  unfold treelinelaw01_IdsApart.f
  rw [tmod_nn h0.1, tmod_nn h1.1]
  obtain ⟨x, hx⟩ : ∃ x, x = a0 % 281474976710656 := ⟨_, rfl⟩
  obtain ⟨y, hy⟩ : ∃ y, y = a1 % 281474976710656 := ⟨_, rfl⟩
  have X : 0 ≤ x ∧ x < 281474976710656 := by omega
  have Y : 0 ≤ y ∧ y < 281474976710656 := by omega
  rw [← hx, ← hy]
  clear hx hy h0 h1
  rw [awake_eq 0, text_eq 0 x X.1, text_eq 0 y Y.1, put_eq x 0, put_eq y 0]
  simp only [Option.bind_some, if_true, toList_str]
  have f : ∀ z : Int, List.map (fun n => UInt8.ofNat n.toNat) (textB (z / 1099511627776 % 256) (z / 4294967296 % 256) (z / 16777216 % 256) (z / 65536 % 256) (z / 256 % 256) (z % 256)) = textL z := fun _ => rfl
  rw [f, f, texts_less X Y]
  have q1 : (textL x == textL y) = (x == y) := by
    rw [Bool.eq_iff_iff, beq_iff_eq, beq_iff_eq]
    exact ⟨texts_eq X Y, fun h => by rw [h]⟩
  have q2 : (List.map (fun n : Int => UInt8.ofNat n.toNat) [x / 1099511627776 % 256, x / 4294967296 % 256, x / 16777216 % 256, x / 65536 % 256, x / 256 % 256, x % 256] ==
        List.map (fun n : Int => UInt8.ofNat n.toNat) [y / 1099511627776 % 256, y / 4294967296 % 256, y / 16777216 % 256, y / 65536 % 256, y / 256 % 256, y % 256]) = (x == y) := by
    rw [Bool.eq_iff_iff, beq_iff_eq, beq_iff_eq]
    constructor
    · intro h
      simp only [List.map_cons, List.map_nil, List.cons.injEq, and_true] at h
      obtain ⟨e0, e1, e2, e3, e4, e5⟩ := h
      have B : ∀ z : Int, 0 ≤ z % 256 ∧ z % 256 < 256 := fun z => by omega
      rw [ofI_eq (B _) (B _)] at e0 e1 e2 e3 e4 e5
      have a1 : x % 65536 = y % 65536 := by omega
      have a2 : x % 16777216 = y % 16777216 := by omega
      have a3 : x % 4294967296 = y % 4294967296 := by omega
      have a4 : x % 1099511627776 = y % 1099511627776 := by omega
      omega
    · intro h; rw [h]
  rw [q1, q2, beq_self_eq_true, if_pos rfl, if_pos rfl]
  simp
end Go.Proofs.Ytahhlbbgjjhncaa.Pure
