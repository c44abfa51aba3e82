/- For all arguments the law HashNext answers true: the next place is one farther, of two places or more; and so on. -/
import Derived.Test.YtfdjlempllmelaaOHashNextx1
import Derived.Test.YtfdjlempllmelaaAr
namespace Go.Proofs.Ytfdjlempllmelaa.Pure
open Go.RowKit Go.Proofs.Ytfdjlempllmelaa.PHashNext Go.Proofs.YtfdjlempllmelaaW.PrintWords Go.Proofs.YtfdjlempllmelaaW.PrintLast Go.Proofs.YtfdjlempllmelaaW.PrintMore Go.Proofs.Ytfdjlempllmelaa.Ar
set_option linter.unusedVariables false
set_option linter.unusedSimpArgs false
theorem awake_eq : treelinelaw06_awake.f = some true := by decide +kernel
theorem shift_emod (x a k : Int) : (x % k - a) % k = (x - a) % k := by
  rw [Int.emod_def x k, show x - k * (x / k) - a = (x - a) - k * (x / k) from by omega]
  exact Int.sub_mul_emod_self_left _ _ _
theorem way_eq {a b n : Int} (hn : 1 ≤ n ∧ n ≤ 1000) (ha : 0 ≤ a ∧ a ≤ 100000) (hb : 0 ≤ b ∧ b ≤ 100000) : hash_Way.f a b n = some ((b - a) % n) := by
  unfold hash_Way.f
  have l1 := Int.tmod_lt_of_pos (b - a) (show 0 < n by omega)
  have l2 := Int.lt_tmod_of_pos (b - a) (show 0 < n by omega)
  rw [if_neg (by omega), if_neg (by omega), w64 (x := b - a) (by omega) (by omega), w64 (by omega) (by omega), tmod_nn (by omega)]
  congr 1
  rw [Int.tmod_def, show b - a - n * (b - a).tdiv n + n = (b - a) - n * ((b - a).tdiv n - 1) from by rw [Int.mul_sub]; omega]
  exact Int.sub_mul_emod_self_left _ _ _
theorem next_mod {x k : Int} (hk : 1 ≤ k ∧ k ≤ 1000) : hash_Next.f (x % k) k = some ((x + 1) % k) := by
  have r0 := Int.emod_nonneg x (show k ≠ 0 by omega)
  have r1 := Int.emod_lt_of_pos x (show 0 < k by omega)
  unfold hash_Next.f
  rw [if_neg (by omega), if_neg (by omega), w64 (by omega) (by omega), ← Int.emod_add_emod x k 1]
  by_cases c : x % k ≥ k - 1
  · rw [if_pos c, show x % k + 1 = k from by omega, Int.emod_self]
  · rw [if_neg c, w64 (by omega) (by omega), Int.emod_eq_of_lt (a := x % k + 1) (by omega) (by omega)]
theorem nexts (x2 a k : Int) (hx : 0 ≤ x2 ∧ x2 < 256) (hk : 1 ≤ k ∧ k ≤ 500) (ha : 0 ≤ a ∧ a < k) (d : Nat) : ∀ (f : Nat) (i : Int), 0 ≤ i → i + d = x2 → d < f → treelinelaw06_HashNext.l0 f x2 k a ((a + i) % k) i = some true := by
  induction d with
  | zero =>
    intro f i h0 hd hf
    obtain ⟨f, rfl⟩ : ∃ m, f = m + 1 := ⟨f - 1, by omega⟩
    have r0 := Int.emod_nonneg (a + i) (show k ≠ 0 by omega)
    have r1 := Int.emod_lt_of_pos (a + i) (show 0 < k by omega)
    simp only [treelinelaw06_HashNext.l0]
    rw [w64 (by omega) (by omega), if_neg (by omega), way_eq (by omega) (by omega) (by omega)]
    simp
  | succ d ih =>
    intro f i h0 hd hf
    obtain ⟨f, rfl⟩ : ∃ m, f = m + 1 := ⟨f - 1, by omega⟩
    have r0 := Int.emod_nonneg (a + i) (show k ≠ 0 by omega)
    have r1 := Int.emod_lt_of_pos (a + i) (show 0 < k by omega)
    simp only [treelinelaw06_HashNext.l0]
    rw [w64 (by omega) (by omega), if_pos (by omega), way_eq (by omega) (by omega) (by omega), w64 (by omega) (by omega), next_mod (by omega)]
    simp only [Option.bind_some]
    rw [if_neg (by omega), tmod_nn h0, shift_emod, show a + i - a = i from by omega, if_pos rfl, show a + i + 1 = a + (i + 1) from by omega]
    exact ih f (i + 1) (by omega) (by omega) (by omega)
theorem HashNext : treelinelaw06_HashNext.Pure := by
  intro a0 a1 a2 h0 h1 h2
  replace h0 := wf_u16 h0
  replace h1 := wf_u16 h1
  replace h2 := wf_u8 h2
  refine ⟨a2.toNat + 1, ?_⟩
  unfold treelinelaw06_HashNext.f
  have e : wrap64 (1 + Int.tmod (wrap64 a1) 500) = 1 + a1 % 500 := by rw [w64 (x := a1) (by omega) (by omega), tmod_nn h1.1, w64 (by omega) (by omega)]
  rw [awake_eq, e]
  simp only [Option.bind_some, if_true]
  have hk : 1 ≤ 1 + a1 % 500 ∧ 1 + a1 % 500 ≤ 500 := by omega
  generalize 1 + a1 % 500 = k at *
  have r0 := Int.emod_nonneg a0 (show k ≠ 0 by omega)
  have r1 := Int.emod_lt_of_pos a0 (show 0 < k by omega)
  rw [if_neg (by omega), w64 (x := a0) (by omega) (by omega), tmod_nn h0.1]
  have := nexts a2 (a0 % k) k h2 hk ⟨r0, r1⟩ a2.toNat (a2.toNat + 1) 0 (by omega) (by omega) (by omega)
  rwa [Int.add_zero, Int.emod_emod_of_dvd _ (Int.dvd_refl k)] at this
end Go.Proofs.Ytfdjlempllmelaa.Pure
