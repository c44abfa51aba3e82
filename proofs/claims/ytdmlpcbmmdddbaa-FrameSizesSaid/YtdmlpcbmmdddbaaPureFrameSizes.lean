/- For every frame the law FrameSizes answers true: one that may be has fourteen bytes more than its data, one that may not be has none. -/
import Derived.Test.YtdmlpcbmmdddbaaOFrameSizesx2
import Derived.Test.YtdmlpcbmmdddbaaAr
import Derived.Test.YtdmlpcbmmdddbaaShapeFrameSizes
namespace Go.Proofs.Ytdmlpcbmmdddbaa.Pure
open Go.RowKit Go.Proofs.Ytdmlpcbmmdddbaa.PFrameSizes Go.Proofs.YtdmlpcbmmdddbaaW.PrintWords Go.Proofs.YtdmlpcbmmdddbaaW.PrintLast Go.Proofs.YtdmlpcbmmdddbaaW.PrintMore Go.Proofs.Ytdmlpcbmmdddbaa.Ar
set_option linter.unusedVariables false
set_option linter.unusedSimpArgs false
theorem put_eq (a : Int) (k : Nat) : ids_Put.f (k + 7) a = some [a / 1099511627776 % 256, a / 4294967296 % 256, a / 16777216 % 256, a / 65536 % 256, a / 256 % 256, a % 256] := by
  simp [ids_Put.f, ids_Put.l0, wrap64, List.replicate, shr, IntKind.bits]
def chk (a b kd n : Int) : Int := if a ≥ 281474976710656 ∨ b ≥ 281474976710656 then 1 else if n > 1500 then 4 else if kd > 1500 ∧ kd < 1536 then 3 else if kd ≤ 1500 ∧ kd ≠ n then 3 else 0
theorem check_eq (k : Nat) (a b kd : Int) (l : List Int) (h : 0 ≤ kd ∧ kd < 65536) : frame_Check.f (k + 2) a b kd l = some (chk a b kd (l.length : Int)) := by
  have e : wrap64 kd = kd := w64 (by omega) (by omega)
  have B : ∀ (c d : Bool), (some (if c = true then (1 : Int) else if d = true then 3 else 0)) = some (if c then 1 else if d then 3 else 0) := fun _ _ => rfl
  unfold frame_Check.f chk
  by_cases ha : a ≥ 281474976710656
  · rw [if_pos ha, if_pos (.inl ha)]
    simp only [frame_Check.j0, if_true]
  · rw [if_neg ha]
    by_cases hb : b ≥ 281474976710656
    · rw [decide_eq_true hb, if_pos (.inr hb)]
      simp only [frame_Check.j0, if_true]
    · rw [decide_eq_false hb, if_neg (by omega)]
      simp only [frame_Check.j0, Bool.false_eq_true, if_false]
      by_cases c : (l.length : Int) > 1500
      · rw [if_pos c, if_pos c]
      · rw [if_neg c, if_neg c]
        by_cases d : kd > 1500
        · rw [if_pos d]
          simp only [frame_Check.j1, e]
          by_cases f : kd < 1536
          · rw [decide_eq_true f, if_pos rfl, if_pos ⟨d, f⟩]
          · rw [decide_eq_false f]
            simp only [Bool.false_eq_true, if_false]
            repeat' split
            all_goals first | rfl | (exfalso; omega)
        · rw [if_neg d]
          simp only [frame_Check.j1, Bool.false_eq_true, if_false, e]
          repeat' split
          all_goals first | rfl | (exfalso; omega)
theorem wput16_eq (k : Nat) (l : List Int) (a : Int) (h : 0 ≤ a ∧ a < 65536) (hl : l.length < 1000000) : wire_Put_uint16.f (k + 3) l a 2 = some (l ++ [a / 256 % 256, a % 256]) := by
  have e : IntKind.u64.wrap a = a := wu64 (by omega) (by omega)
  unfold wire_Put_uint16.f
  simp only [Option.bind_some, List.nil_append, List.length_nil, Nat.zero_add]
  rw [if_pos (by omega)]
  simp only [wire_Put_uint16.l0, e]
  have g1 : wrap64 ((2 : Int) - 1) = 1 := by simp [wrap64]
  have g0 : wrap64 ((1 : Int) - 1) = 0 := by simp [wrap64]
  have g8 : wrap64 ((8 : Int) * 1) = 8 := by simp [wrap64]
  have g9 : wrap64 ((8 : Int) * 0) = 0 := by simp [wrap64]
  have e0 : IntKind.u64.wrap a = a := wu64 (by omega) (by omega)
  simp only [g1, g0, g8, g9]
  rw [if_pos (by decide), if_pos (by decide), if_pos (by decide), if_pos (by omega), if_pos (by decide), if_pos (by decide), if_pos (by decide), if_pos (by simp; omega), if_neg (by decide)]
  rw [List.append_assoc]
  simp [shr, IntKind.bits]
def fbytes (a b kd : Int) (l : List Int) : List Int := [a / 1099511627776 % 256, a / 4294967296 % 256, a / 16777216 % 256, a / 65536 % 256, a / 256 % 256, a % 256, b / 1099511627776 % 256, b / 4294967296 % 256, b / 16777216 % 256, b / 65536 % 256, b / 256 % 256, b % 256, kd / 256 % 256, kd % 256] ++ l
theorem fput_eq (k : Nat) (a b kd : Int) (l : List Int) (h : 0 ≤ kd ∧ kd < 65536) (hl : l.length ≤ 100000) :
    frame_Put.f (k + 7) a b kd l = if chk a b kd (l.length : Int) = 0 then some (fbytes a b kd l, 0) else some ([], chk a b kd (l.length : Int)) := by
  unfold frame_Put.f
  rw [check_eq (k + 5) a b kd l h]
  simp only [Option.bind_some]
  by_cases c : chk a b kd (l.length : Int) = 0
  · rw [if_pos c, if_pos c, put_eq a k, put_eq b k]
    simp only [Option.bind_some]
    rw [if_pos (by simp), wput16_eq (k + 4) _ kd h (by simp)]
    simp only [Option.bind_some]
    rw [if_pos (by simp; omega)]
    simp [fbytes]
  · rw [if_neg c, if_neg c]
theorem awake_eq (k : Nat) : treelinelaw04_awake.f (k + 7) = some true := by
  unfold treelinelaw04_awake.f
  rw [fput_eq k 1 2 0 [] (by decide) (by decide)]
  rw [if_pos (by decide)]
  simp only [Option.bind_some]
  rw [if_pos trivial]
  decide +kernel
theorem frameSizes_ok (a b kd : Int) (l : List Int) (h : 0 ≤ kd ∧ kd < 65536) : ∃ k, treelinelaw04_FrameSizes.f k a b kd l = some true := by
  refine ⟨30, ?_⟩
  unfold treelinelaw04_FrameSizes.f
  rw [awake_eq 23]
  simp only [Option.bind_some, if_true]
  by_cases c : (l.length : Int) > 3000
  · rw [decide_eq_true c]
    simp only [treelinelaw04_FrameSizes.j0, if_true]
    rw [awake_eq 22]; rfl
  · rw [decide_eq_false c]
    simp only [treelinelaw04_FrameSizes.j0, Bool.false_eq_true, if_false]
    rw [fput_eq 22 a b kd l h (by omega), check_eq 27 a b kd l h]
    by_cases d : chk a b kd (l.length : Int) = 0
    · rw [if_pos d]
      simp only [Option.bind_some]
      rw [if_pos d, if_pos trivial, if_pos]
      simp only [fbytes, List.length_append, List.length_cons, List.length_nil]
      rw [w64 (by omega) (by omega)]
      omega
    · rw [if_neg d]
      simp only [Option.bind_some]
      rw [if_pos trivial, if_neg d]
      rfl
theorem FrameSizes (x : Int × Int × Int × List Int) (w : frameSizes.wf27 x) : ∃ k, treelinelaw04_FrameSizes.f k x.1 x.2.1 x.2.2.1 x.2.2.2 = some true := frameSizes_ok _ _ _ _ (wf_u16 w.2.2.1)
end Go.Proofs.Ytdmlpcbmmdddbaa.Pure
