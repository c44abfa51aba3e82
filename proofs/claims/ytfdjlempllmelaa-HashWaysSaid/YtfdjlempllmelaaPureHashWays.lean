/- For all arguments the law HashWays answers true: how many places one is behind another one is how often Next leads there. -/
import Derived.Test.YtfdjlempllmelaaOHashWaysx1
import Derived.Test.YtfdjlempllmelaaAr
namespace Go.Proofs.Ytfdjlempllmelaa.Pure
open Go.RowKit Go.Proofs.Ytfdjlempllmelaa.PHashWays Go.Proofs.YtfdjlempllmelaaW.PrintWords Go.Proofs.YtfdjlempllmelaaW.PrintLast Go.Proofs.YtfdjlempllmelaaW.PrintMore Go.Proofs.Ytfdjlempllmelaa.Ar
set_option linter.unusedVariables false
set_option linter.unusedSimpArgs false
theorem awake_eq : treelinelaw06_awake.f = some true := by decide +kernel
theorem shift_emod (x a k : Int) : (x % k - a) % k = (x - a) % k := by
  rw [Int.emod_def x k, show x - k * (x / k) - a = (x - a) - k * (x / k) from by omega]
  exact Int.sub_mul_emod_self_left _ _ _
theorem way_eq {a b n : Int} (hn : 1 ≤ n ∧ n ≤ 1000) (ha : 0 ≤ a ∧ a ≤ 100000) (hb : 0 ≤ b ∧ b ≤ 100000) : hash_Way.f a b n = some ((b - a) % n) := by
  unfold hash_Way.f
  have l1 := Int.tmod_lt_of_pos (b - a) (show 0 < n by omega)
  have l2 := Int.lt_tmod_of_pos (b - a) (show 0 < n by omega)
  rw [if_neg (by omega), if_neg (by omega), w64 (x := b - a) (by omega) (by omega), w64 (by omega) (by omega), tmod_nn (by omega)]
  congr 1
  rw [Int.tmod_def, show b - a - n * (b - a).tdiv n + n = (b - a) - n * ((b - a).tdiv n - 1) from by rw [Int.mul_sub]; omega]
  exact Int.sub_mul_emod_self_left _ _ _
theorem next_mod {x k : Int} (hk : 1 ≤ k ∧ k ≤ 1000) : hash_Next.f (x % k) k = some ((x + 1) % k) := by
  have r0 := Int.emod_nonneg x (show k ≠ 0 by omega)
  have r1 := Int.emod_lt_of_pos x (show 0 < k by omega)
  unfold hash_Next.f
  rw [if_neg (by omega), if_neg (by omega), w64 (by omega) (by omega), ← Int.emod_add_emod x k 1]
  by_cases c : x % k ≥ k - 1
  · rw [if_pos c, show x % k + 1 = k from by omega, Int.emod_self]
  · rw [if_neg c, w64 (by omega) (by omega), Int.emod_eq_of_lt (a := x % k + 1) (by omega) (by omega)]
theorem refnext_mod {x k : Int} (hk : 1 ≤ k ∧ k ≤ 1000) : treelineref06_Next.f (x % k) k = some ((x + 1) % k) := by
  have r0 := Int.emod_nonneg x (show k ≠ 0 by omega)
  have r1 := Int.emod_lt_of_pos x (show 0 < k by omega)
  unfold treelineref06_Next.f
  rw [if_pos (by omega), w64 (by omega) (by omega), if_pos (by omega), ← Int.emod_add_emod x k 1]
  by_cases c : x % k + 1 < k
  · rw [if_pos c, Int.emod_eq_of_lt (a := x % k + 1) (by omega) (by omega)]
  · rw [if_neg c, show x % k + 1 = k from by omega, Int.emod_self]
theorem ways_end (a b k m : Int) (hk : 1 ≤ k ∧ k ≤ 500) (ha : 0 ≤ a ∧ a < k) (hb : 0 ≤ b ∧ b < k) (hm : m = (b - a) % k) (f : Nat) : treelinelaw06_HashWays.j1 (f + 1) k a b m = some true := by
  simp only [treelinelaw06_HashWays.j1]
  rw [w64 (x := a + k) (by omega) (by omega), w64 (x := 3 * k) (by omega) (by omega), w64 (x := b + 3 * k) (by omega) (by omega),
    way_eq (a := a) (b := b) (n := k) (by omega) (by omega) (by omega), way_eq (a := a + k) (b := b) (n := k) (by omega) (by omega) (by omega), way_eq (a := a) (b := b + 3 * k) (n := k) (by omega) (by omega) (by omega)]
  have e1 : (b - (a + k)) % k = m := by rw [hm, show b - (a + k) = (b - a) - k * 1 from by omega]; exact Int.sub_mul_emod_self_left _ _ _
  have e2 : (b + 3 * k - a) % k = m := by rw [hm, show b + 3 * k - a = (b - a) + k * 3 from by omega]; exact Int.add_mul_emod_self_left _ _ _
  have e3 : hash_Way.f a b 0 = some 0 := by unfold hash_Way.f; rw [if_pos (by decide)]
  rw [e1, e2, e3, ← hm]
  simp
theorem ways (a b k : Int) (hk : 1 ≤ k ∧ k ≤ 500) (ha : 0 ≤ a ∧ a < k) (hb : 0 ≤ b ∧ b < k) (d : Nat) : ∀ (f : Nat) (m : Int), 0 ≤ m → m + d = (b - a) % k → d + 2 ≤ f → treelinelaw06_HashWays.l0 f k a b ((a + m) % k) m = some true := by
  have D0 := Int.emod_nonneg (b - a) (show k ≠ 0 by omega)
  have D1 := Int.emod_lt_of_pos (b - a) (show 0 < k by omega)
  induction d with
  | zero =>
    intro f m h0 hd hf
    obtain ⟨f, rfl⟩ : ∃ n, f = n + 2 := ⟨f - 2, by omega⟩
    simp only [treelinelaw06_HashWays.l0]
    have e : (a + m) % k = b := by
      rw [show m = (b - a) % k from by omega, Int.add_emod_emod, show a + (b - a) = b from by omega]
      exact Int.emod_eq_of_lt hb.1 hb.2
    rw [if_pos (by omega), if_pos e]
    exact ways_end a b k m hk ha hb (by omega) f
  | succ d ih =>
    intro f m h0 hd hf
    obtain ⟨f, rfl⟩ : ∃ n, f = n + 1 := ⟨f - 1, by omega⟩
    simp only [treelinelaw06_HashWays.l0]
    have e : ¬ (a + m) % k = b := by
      intro e
      have : (b - a) % k = m := by
        rw [← e, shift_emod, show a + m - a = m from by omega]
        exact Int.emod_eq_of_lt h0 (by omega)
      omega
    rw [if_pos (by omega), if_neg e, refnext_mod (by omega), w64 (by omega) (by omega)]
    simp only [Option.bind_some]
    rw [show a + m + 1 = a + (m + 1) from by omega]
    exact ih f (m + 1) (by omega) (by omega) (by omega)
theorem HashWays : treelinelaw06_HashWays.Pure := by
  intro a0 a1 a2 h0 h1 h2
  replace h0 := wf_u16 h0
  replace h1 := wf_u16 h1
  replace h2 := wf_u16 h2
  unfold treelinelaw06_HashWays.f
  have e : wrap64 (1 + Int.tmod (wrap64 a2) 500) = 1 + a2 % 500 := by rw [w64 (x := a2) (by omega) (by omega), tmod_nn h2.1, w64 (by omega) (by omega)]
  rw [awake_eq, e]
  simp only [Option.bind_some, if_true]
  have hk : 1 ≤ 1 + a2 % 500 ∧ 1 + a2 % 500 ≤ 500 := by omega
  generalize 1 + a2 % 500 = k at *
  have r0 := Int.emod_nonneg a0 (show k ≠ 0 by omega)
  have r1 := Int.emod_lt_of_pos a0 (show 0 < k by omega)
  have s0 := Int.emod_nonneg a1 (show k ≠ 0 by omega)
  have s1 := Int.emod_lt_of_pos a1 (show 0 < k by omega)
  have D0 := Int.emod_nonneg (a1 % k - a0 % k) (show k ≠ 0 by omega)
  refine ⟨((a1 % k - a0 % k) % k).toNat + 2, ?_⟩
  rw [if_neg (by omega), w64 (x := a0) (by omega) (by omega), w64 (x := a1) (by omega) (by omega), tmod_nn h0.1, tmod_nn h1.1]
  have := ways (a0 % k) (a1 % k) k hk ⟨r0, r1⟩ ⟨s0, s1⟩ ((a1 % k - a0 % k) % k).toNat (((a1 % k - a0 % k) % k).toNat + 2) 0 (by omega) (by omega) (by omega)
  rwa [Int.add_zero, Int.emod_emod_of_dvd _ (Int.dvd_refl k)] at this
end Go.Proofs.Ytfdjlempllmelaa.Pure
