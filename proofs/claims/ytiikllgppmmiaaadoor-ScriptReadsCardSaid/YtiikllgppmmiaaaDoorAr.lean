/- Plain facts about Go's whole numbers, bits and bytes that the seat's proofs use; no program in sight. -/
import Derived.RowKit
import Derived.Laws.BitsLemmas
import Derived.Laws.BitsAllLaws
import Derived.Laws.Bits64
import Derived.Laws.BytesArg
import Derived.Lib.Strings
import Derived.Test.YtiikllgppmmiaaaDoorWWords
import Derived.Test.YtiikllgppmmiaaaDoorWMore
namespace Go.Proofs.YtiikllgppmmiaaaDoor.Ar
open Go.RowKit Go.Proofs.YtiikllgppmmiaaaDoorW.PrintWords Go.Proofs.YtiikllgppmmiaaaDoorW.PrintMore

theorem wf_u8 {x : Int} (h : (Lit.int .u8 x).wf = true) : 0 ≤ x ∧ x < 256 := by simp [Lit.wf, IntKind.min, IntKind.max, IntKind.signed, IntKind.bits] at h; omega
theorem wf_u16 {x : Int} (h : (Lit.int .u16 x).wf = true) : 0 ≤ x ∧ x < 65536 := by simp [Lit.wf, IntKind.min, IntKind.max, IntKind.signed, IntKind.bits] at h; omega
theorem wf_u32 {x : Int} (h : (Lit.int .u32 x).wf = true) : 0 ≤ x ∧ x < 4294967296 := by simp [Lit.wf, IntKind.min, IntKind.max, IntKind.signed, IntKind.bits] at h; omega
theorem wf_u64 {x : Int} (h : (Lit.int .u64 x).wf = true) : 0 ≤ x ∧ x < 18446744073709551616 := by simp [Lit.wf, IntKind.min, IntKind.max, IntKind.signed, IntKind.bits] at h; omega
theorem wf_i64 {x : Int} (h : (Lit.int .i64 x).wf = true) : -9223372036854775808 ≤ x ∧ x < 9223372036854775808 := by simp [Lit.wf, IntKind.min, IntKind.max, IntKind.signed, IntKind.bits] at h; omega

theorem w64 {x : Int} (h0 : -9223372036854775808 ≤ x) (h1 : x < 9223372036854775808) : wrap64 x = x := by unfold wrap64; omega
theorem wu64 {x : Int} (h0 : 0 ≤ x) (h1 : x < 18446744073709551616) : IntKind.u64.wrap x = x := by rw [IntKind.wrap_u64]; omega
theorem wu32 {x : Int} (h0 : 0 ≤ x) (h1 : x < 4294967296) : IntKind.u32.wrap x = x := by rw [IntKind.wrap_u32]; omega
theorem wu16 {x : Int} (h0 : 0 ≤ x) (h1 : x < 65536) : IntKind.u16.wrap x = x := by rw [IntKind.wrap_u16]; omega
theorem wu8 {x : Int} (h0 : 0 ≤ x) (h1 : x < 256) : IntKind.u8.wrap x = x := by rw [IntKind.wrap_u8]; omega
theorem tmod_nn {x m : Int} (h : 0 ≤ x) : Int.tmod x m = x % m := Int.tmod_eq_emod_of_nonneg h
theorem tdiv_nn {x m : Int} (h : 0 ≤ x) : Int.tdiv x m = x / m := Int.tdiv_eq_ediv_of_nonneg h

theorem wraps_u64 (n : Int) (h0 : 0 ≤ n) (h1 : n < 2 ^ 64) : IntKind.u64.wrap n = n := by rw [IntKind.wrap_u64]; omega
theorem wraps_u32 (n : Int) (h0 : 0 ≤ n) (h1 : n < 2 ^ 32) : IntKind.u32.wrap n = n := by rw [IntKind.wrap_u32]; omega
theorem wraps_u16 (n : Int) (h0 : 0 ≤ n) (h1 : n < 2 ^ 16) : IntKind.u16.wrap n = n := by rw [IntKind.wrap_u16]; omega
theorem mask_u64 (i : Nat) (hi : i ≤ 64) {x m r : Int} (h0 : 0 ≤ x) (h1 : x < 18446744073709551616) (hm : (2 : Int) ^ i - 1 = m) (hr : (2 : Int) ^ i = r) : bits .and .u64 x m = x % r := by
  subst hm hr; exact bits_mask .u64 64 (by decide) wraps_u64 i hi x h0 (by omega)
theorem mask_u8 (i : Nat) (hi : i ≤ 8) {x m r : Int} (h0 : 0 ≤ x) (h1 : x < 256) (hm : (2 : Int) ^ i - 1 = m) (hr : (2 : Int) ^ i = r) : bits .and .u8 x m = x % r := by
  subst hm hr; exact bits_mask .u8 8 (by decide) wraps_u8 i hi x h0 (by omega)
theorem join_u64 (i : Nat) {x y r : Int} (hr : (2 : Int) ^ i = r) (h0 : 0 ≤ x) (hx : x % r = 0) (h1 : x < 18446744073709551616) (hy0 : 0 ≤ y) (hy : y < r) (hy1 : y < 18446744073709551616) : bits .or .u64 x y = x + y := by
  subst hr; exact bits_join .u64 64 (by decide) wraps_u64 i x y h0 hx (by omega) hy0 hy (by omega)
theorem join_u16 (i : Nat) {x y r : Int} (hr : (2 : Int) ^ i = r) (h0 : 0 ≤ x) (hx : x % r = 0) (h1 : x < 65536) (hy0 : 0 ≤ y) (hy : y < r) (hy1 : y < 65536) : bits .or .u16 x y = x + y := by
  subst hr; exact bits_join .u16 16 (by decide) wraps_u16 i x y h0 hx (by omega) hy0 hy (by omega)
theorem join_u8 (i : Nat) {x y r : Int} (hr : (2 : Int) ^ i = r) (h0 : 0 ≤ x) (hx : x % r = 0) (h1 : x < 256) (hy0 : 0 ≤ y) (hy : y < r) (hy1 : y < 256) : bits .or .u8 x y = x + y := by
  subst hr; exact bits_join .u8 8 (by decide) wraps_u8 i x y h0 hx (by omega) hy0 hy (by omega)
theorem clear15 {x : Int} (h0 : 0 ≤ x) (h1 : x < 18446744073709551616) : bits .andNot .u64 x 15 = x / 16 * 16 := by
  rw [u64_andNot x 15 h0 h1 (by omega) (by omega)]
  have e : x.toNat &&& (18446744073709551615 - (15 : Int).toNat) = x.toNat % 18446744073709551616 / 16 * 16 := nat_midmask 64 4 x.toNat (by decide)
  rw [e]; omega
theorem bit_u64 (i : Nat) (hi : i ≤ 63) {x m : Int} (h0 : 0 ≤ x) (h1 : x < 18446744073709551616) (hm : (2 : Int) ^ i = m) : bits .and .u64 x m = x / m % 2 * m := by
  obtain ⟨a, rfl⟩ := Int.eq_ofNat_of_zero_le h0
  subst hm
  have hp : (2 : Nat) ^ i < 18446744073709551616 := by
    have : 2 ^ i ≤ 2 ^ 63 := Nat.pow_le_pow_right (by decide) hi
    omega
  have hc : ((2 : Int) ^ i) = ((2 ^ i : Nat) : Int) := by simp
  rw [hc, u64_and_nat a _ (by omega) hp, nat_bit]
  simp
/-- A text out of numbers is as long as they are, and its bytes are they. -/
theorem size_str (xs : List Int) : (strOfNums xs).size = xs.length := by simp [strOfNums, ByteArray.size]
theorem toList_str (xs : List Int) : (strOfNums xs).toList = xs.map fun n => UInt8.ofNat n.toNat := by
  rw [Lib.toList_data]; simp [strOfNums]
end Go.Proofs.YtiikllgppmmiaaaDoor.Ar
