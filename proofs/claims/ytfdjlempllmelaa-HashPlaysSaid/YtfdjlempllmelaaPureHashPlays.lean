/- For all arguments the law HashPlays answers true: any address' hash, where it is looked for, and the place behind another one, are the document's. -/
import Derived.Test.YtfdjlempllmelaaOHashPlaysx2
import Derived.Test.YtfdjlempllmelaaAr
namespace Go.Proofs.Ytfdjlempllmelaa.Pure
open Go.RowKit Go.Proofs.Ytfdjlempllmelaa.PHashPlays Go.Proofs.YtfdjlempllmelaaW.PrintWords Go.Proofs.YtfdjlempllmelaaW.PrintLast Go.Proofs.YtfdjlempllmelaaW.PrintMore Go.Proofs.Ytfdjlempllmelaa.Ar
set_option linter.unusedVariables false
set_option linter.unusedSimpArgs false
theorem awake_eq : treelinelaw06_awake.f = some true := by decide +kernel
theorem shift_emod (x a k : Int) : (x % k - a) % k = (x - a) % k := by
  rw [Int.emod_def x k, show x - k * (x / k) - a = (x - a) - k * (x / k) from by omega]
  exact Int.sub_mul_emod_self_left _ _ _
theorem way_eq {a b n : Int} (hn : 1 ≤ n ∧ n ≤ 1000) (ha : 0 ≤ a ∧ a ≤ 100000) (hb : 0 ≤ b ∧ b ≤ 100000) : hash_Way.f a b n = some ((b - a) % n) := by
  unfold hash_Way.f
  have l1 := Int.tmod_lt_of_pos (b - a) (show 0 < n by omega)
  have l2 := Int.lt_tmod_of_pos (b - a) (show 0 < n by omega)
  rw [if_neg (by omega), if_neg (by omega), w64 (x := b - a) (by omega) (by omega), w64 (by omega) (by omega), tmod_nn (by omega)]
  congr 1
  rw [Int.tmod_def, show b - a - n * (b - a).tdiv n + n = (b - a) - n * ((b - a).tdiv n - 1) from by rw [Int.mul_sub]; omega]
  exact Int.sub_mul_emod_self_left _ _ _
theorem next_mod {x k : Int} (hk : 1 ≤ k ∧ k ≤ 1000) : hash_Next.f (x % k) k = some ((x + 1) % k) := by
  have r0 := Int.emod_nonneg x (show k ≠ 0 by omega)
  have r1 := Int.emod_lt_of_pos x (show 0 < k by omega)
  unfold hash_Next.f
  rw [if_neg (by omega), if_neg (by omega), w64 (by omega) (by omega), ← Int.emod_add_emod x k 1]
  by_cases c : x % k ≥ k - 1
  · rw [if_pos c, show x % k + 1 = k from by omega, Int.emod_self]
  · rw [if_neg c, w64 (by omega) (by omega), Int.emod_eq_of_lt (a := x % k + 1) (by omega) (by omega)]
theorem put_eq (a : Int) (k : Nat) : ids_Put.f (k + 7) a = some [a / 1099511627776 % 256, a / 4294967296 % 256, a / 16777216 % 256, a / 65536 % 256, a / 256 % 256, a % 256] := by
  simp [ids_Put.f, ids_Put.l0, wrap64, List.replicate, shr, IntKind.bits]
theorem refput_step (k : Nat) (x : Int) (x3 : List Int) (i y : Int) (hy : i - 1 = y) (hx : 0 ≤ x ∧ x < 18446744073709551616) (h0 : 0 ≤ i) (h1 : i < (x3.length : Int)) (hs : x3.length ≤ 1000) :
    treelineref01_Put.l0 (k + 1) x x3 i = treelineref01_Put.l0 k (x / 256) (x3.set i.toNat (x % 256)) y := by
  subst hy
  simp only [treelineref01_Put.l0]
  rw [if_pos h0, if_pos h0, if_pos h1, tdiv_nn hx.1, tmod_nn hx.1, wu64 (by omega) (by omega), w64 (by omega) (by omega)]
  rw [show x % 256 % 256 = x % 256 from by omega]
theorem refput_eq (k : Nat) (a : Int) (ha : 0 ≤ a ∧ a < 18446744073709551616) : treelineref01_Put.f (k + 7) a = some [a / 1099511627776 % 256, a / 4294967296 % 256, a / 16777216 % 256, a / 65536 % 256, a / 256 % 256, a % 256] := by
  unfold treelineref01_Put.f treelineref01_Least.f
  simp only [Option.bind_some]
  rw [if_pos (by decide), tmod_nn ha.1]
  obtain ⟨x, hx⟩ : ∃ x, x = a % 281474976710656 := ⟨_, rfl⟩
  have X : 0 ≤ x ∧ x < 281474976710656 := by omega
  rw [← hx]
  rw [refput_step (k + 6) x (List.replicate 6 0) 5 4 (by decide) (by omega) (by decide) (by decide) (by decide)]
  rw [refput_step (k + 5) _ _ 4 3 (by decide) (by omega) (by decide) (by simp) (by simp)]
  rw [refput_step (k + 4) _ _ 3 2 (by decide) (by omega) (by decide) (by simp) (by simp)]
  rw [refput_step (k + 3) _ _ 2 1 (by decide) (by omega) (by decide) (by simp) (by simp)]
  rw [refput_step (k + 2) _ _ 1 0 (by decide) (by omega) (by decide) (by simp) (by simp)]
  rw [refput_step (k + 1) _ _ 0 (-1) (by decide) (by omega) (by decide) (by simp) (by simp)]
  simp [treelineref01_Put.l0, List.replicate]
  refine ⟨?_, ?_, ?_, ?_, ?_, ?_⟩ <;> omega
def fnv (h b : Int) : Int := (((h.toNat ^^^ b.toNat : Nat) : Int) * 16777619) % 4294967296
theorem xor_lt {h b : Int} (hh : 0 ≤ h ∧ h < 4294967296) (hb : 0 ≤ b ∧ b < 256) : ((h.toNat ^^^ b.toNat : Nat) : Int) < 4294967296 := by
  have : h.toNat ^^^ b.toNat < 2 ^ 32 := Nat.xor_lt_two_pow (by omega) (by omega)
  omega
theorem fnv_range (h b : Int) : 0 ≤ fnv h b ∧ fnv h b < 4294967296 := by unfold fnv; omega
theorem of_step (k : Nat) (h : Int) (l : List Int) (i y : Int) (hy : i + 1 = y) (h0 : 0 ≤ i) (h1 : i < (l.length : Int)) (hs : l.length ≤ 1000) (hh : 0 ≤ h ∧ h < 4294967296) (hb : 0 ≤ rd l i ∧ rd l i < 256) :
    hash_Of.l0 (k + 1) h l l.length i = hash_Of.l0 k (fnv h (rd l i)) l l.length y := by
  subst hy
  simp only [hash_Of.l0]
  rw [if_pos h1, if_pos h0, if_pos h1, w64 (by omega) (by omega), show rd l i % 4294967296 = rd l i from by omega, u32_xor h (rd l i) hh.1 hh.2 hb.1 (by omega)]
  rfl
theorem ref_step (k : Nat) (h : Int) (l : List Int) (i y : Int) (hy : i + 1 = y) (h0 : 0 ≤ i) (h1 : i < 6) (hs : l.length = 6) (hh : 0 ≤ h ∧ h < 4294967296) (hb : 0 ≤ rd l i ∧ rd l i < 256) :
    treelineref06_Of.l0 (k + 1) h l i = treelineref06_Of.l0 k (fnv h (rd l i)) l y := by
  subst hy
  have hx := xor_lt hh hb
  have hx0 : (0 : Int) ≤ ((h.toNat ^^^ (rd l i).toNat : Nat) : Int) := Int.natCast_nonneg _
  simp only [treelineref06_Of.l0]
  rw [if_pos h1, if_pos h0, if_pos (by omega), w64 (by omega) (by omega), wu64 (x := rd l i) (by omega) (by omega), u64_xor h (rd l i) hh.1 (by omega) hb.1 (by omega)]
  unfold fnv
  generalize ((h.toNat ^^^ (rd l i).toNat : Nat) : Int) = x at *
  rw [wu64 (x := x * 256) (by omega) (by omega), wu64 (x := x * 256 * 65536) (by omega) (by omega), wu64 (x := x * 403) (by omega) (by omega), wu64 (by omega) (by omega), tmod_nn (by omega)]
  congr 1; omega
def fnv6 (b0 b1 b2 b3 b4 b5 : Int) : Int := fnv (fnv (fnv (fnv (fnv (fnv 2166136261 b0) b1) b2) b3) b4) b5
theorem of_eq (k : Nat) (a : Int) : hash_Of.f (k + 7) a = some (fnv6 (a / 1099511627776 % 256) (a / 4294967296 % 256) (a / 16777216 % 256) (a / 65536 % 256) (a / 256 % 256) (a % 256)) := by
  have B : ∀ z : Int, 0 ≤ z % 256 ∧ z % 256 < 256 := fun z => by omega
  unfold hash_Of.f
  rw [put_eq]
  simp only [Option.bind_some]
  rw [of_step (k + 6) _ [_, _, _, _, _, _] 0 1 (by decide) (by decide) (by simp) (by simp) (by decide) (B _)]
  rw [of_step (k + 5) _ [_, _, _, _, _, _] 1 2 (by decide) (by decide) (by simp) (by simp) (fnv_range _ _) (B _)]
  rw [of_step (k + 4) _ [_, _, _, _, _, _] 2 3 (by decide) (by decide) (by simp) (by simp) (fnv_range _ _) (B _)]
  rw [of_step (k + 3) _ [_, _, _, _, _, _] 3 4 (by decide) (by decide) (by simp) (by simp) (fnv_range _ _) (B _)]
  rw [of_step (k + 2) _ [_, _, _, _, _, _] 4 5 (by decide) (by decide) (by simp) (by simp) (fnv_range _ _) (B _)]
  rw [of_step (k + 1) _ [_, _, _, _, _, _] 5 6 (by decide) (by decide) (by simp) (by simp) (fnv_range _ _) (B _)]
  simp [hash_Of.l0, rd, fnv6]
theorem refof_eq (k : Nat) (a : Int) (ha : 0 ≤ a ∧ a < 18446744073709551616) : treelineref06_Of.f (k + 7) a = some (fnv6 (a / 1099511627776 % 256) (a / 4294967296 % 256) (a / 16777216 % 256) (a / 65536 % 256) (a / 256 % 256) (a % 256)) := by
  have B : ∀ z : Int, 0 ≤ z % 256 ∧ z % 256 < 256 := fun z => by omega
  unfold treelineref06_Of.f
  rw [refput_eq k a ha]
  simp only [Option.bind_some]
  rw [ref_step (k + 6) _ [_, _, _, _, _, _] 0 1 (by decide) (by decide) (by simp) (by rfl) (by decide) (B _)]
  rw [ref_step (k + 5) _ [_, _, _, _, _, _] 1 2 (by decide) (by decide) (by simp) (by rfl) (fnv_range _ _) (B _)]
  rw [ref_step (k + 4) _ [_, _, _, _, _, _] 2 3 (by decide) (by decide) (by simp) (by rfl) (fnv_range _ _) (B _)]
  rw [ref_step (k + 3) _ [_, _, _, _, _, _] 3 4 (by decide) (by decide) (by simp) (by rfl) (fnv_range _ _) (B _)]
  rw [ref_step (k + 2) _ [_, _, _, _, _, _] 4 5 (by decide) (by decide) (by simp) (by rfl) (fnv_range _ _) (B _)]
  rw [ref_step (k + 1) _ [_, _, _, _, _, _] 5 6 (by decide) (by decide) (by simp) (by rfl) (fnv_range _ _) (B _)]
  have r := fnv_range (fnv (fnv (fnv (fnv (fnv 2166136261 (a / 1099511627776 % 256)) (a / 4294967296 % 256)) (a / 16777216 % 256)) (a / 65536 % 256)) (a / 256 % 256)) (a % 256)
  simp only [treelineref06_Of.l0]
  rw [if_neg (by decide)]
  congr 1
  exact Int.emod_eq_of_lt r.1 r.2
theorem next_same {i n : Int} (hi : -9223372036854775808 ≤ i ∧ i < 9223372036854775808) (hn : -9223372036854775808 ≤ n ∧ n < 9223372036854775808) : ∃ r, hash_Next.f i n = some r ∧ treelineref06_Next.f i n = some r := by
  unfold hash_Next.f treelineref06_Next.f
  by_cases c1 : n < 1
  · rw [if_pos c1]
    refine ⟨0, rfl, ?_⟩
    by_cases d1 : i ≥ 0
    · rw [if_pos d1]
      by_cases d2 : wrap64 (i + 1) > 0
      · rw [if_pos d2, if_neg (by omega)]
      · rw [if_neg d2]
    · rw [if_neg d1]
  · rw [if_neg c1]
    by_cases c2 : i < 0
    · rw [if_pos c2, if_neg (by omega)]; exact ⟨0, rfl, rfl⟩
    · rw [if_neg c2, if_pos (c := i ≥ 0) (by omega), w64 (x := n - 1) (by omega) (by omega)]
      by_cases c3 : i ≥ n - 1
      · rw [if_pos c3]
        refine ⟨0, rfl, ?_⟩
        by_cases d2 : wrap64 (i + 1) > 0
        · have : i + 1 < 9223372036854775808 := by unfold wrap64 at d2; omega
          rw [w64 (x := i + 1) (by omega) (by omega), if_pos (by omega), if_neg (by omega)]
        · rw [if_neg d2]
      · rw [if_neg c3, w64 (x := i + 1) (by omega) (by omega), if_pos (by omega), if_pos (by omega)]
        exact ⟨_, rfl, rfl⟩
theorem plays_eq (k : Nat) {a i n : Int} (ha : 0 ≤ a ∧ a < 18446744073709551616) (hi : -9223372036854775808 ≤ i ∧ i < 9223372036854775808) (hn : -9223372036854775808 ≤ n ∧ n < 9223372036854775808) :
    treelinelaw06_HashPlays.f (k + 8) a i n = some true := by
  obtain ⟨r, hr1, hr2⟩ := next_same hi hn
  obtain ⟨v, hv⟩ : ∃ v, v = fnv6 (a / 1099511627776 % 256) (a / 4294967296 % 256) (a / 16777216 % 256) (a / 65536 % 256) (a / 256 % 256) (a % 256) := ⟨_, rfl⟩
  have hf : 0 ≤ v ∧ v < 4294967296 := by rw [hv]; exact fnv_range _ _
  have h1 : ∀ k, hash_Of.f (k + 7) a = some v := fun k => by rw [of_eq, hv]
  have h2 : ∀ k, treelineref06_Of.f (k + 7) a = some v := fun k => by rw [refof_eq k a ha, hv]
  clear hv
  have j0 : ∀ slot : Int, hash_Slot.f (k + 7) a n = some slot → treelinelaw06_HashPlays.j0 (k + 8) a i n slot = some true := by
    intro slot hs
    simp only [treelinelaw06_HashPlays.j0]
    rw [h1, h2, hs, hr1, hr2]
    simp only [Option.bind_some, if_true, beq_self_eq_true]
  unfold treelinelaw06_HashPlays.f
  rw [awake_eq, h2 (k + 1)]
  simp only [Option.bind_some, if_true]
  by_cases c : n ≥ 1
  · rw [if_pos c, wu64 (x := n) (by omega) (by omega), wu64 (x := v) (by omega) (by omega), if_neg (by omega), tmod_nn hf.1]
    have m0 := Int.emod_nonneg v (show n ≠ 0 by omega)
    have m1 := Int.emod_lt_of_pos v (show 0 < n by omega)
    rw [w64 (by omega) (by omega)]
    apply j0
    unfold hash_Slot.f
    rw [if_neg (by omega), h1]
    simp only [Option.bind_some]
    rw [if_neg (by omega), w64 (x := v) (by omega) (by omega), tmod_nn hf.1]
  · rw [if_neg c]
    apply j0
    unfold hash_Slot.f
    rw [if_pos (by omega)]
theorem HashPlays : treelinelaw06_HashPlays.Pure := fun _ _ _ ha hi hn => ⟨0 + 8, plays_eq 0 (wf_u64 ha) (wf_i64 hi) (wf_i64 hn)⟩
end Go.Proofs.Ytfdjlempllmelaa.Pure
