/- For every frame the law FramePuts answers true: what is wrong with it, and its bytes, are the document's. -/
import Derived.Test.YtdmlpcbmmdddbaaOFramePutsx4
import Derived.Test.YtdmlpcbmmdddbaaAr
import Derived.Test.YtdmlpcbmmdddbaaShapeFramePuts
namespace Go.Proofs.Ytdmlpcbmmdddbaa.Pure
open Go.RowKit Go.Proofs.Ytdmlpcbmmdddbaa.PFramePuts Go.Proofs.YtdmlpcbmmdddbaaW.PrintWords Go.Proofs.YtdmlpcbmmdddbaaW.PrintLast Go.Proofs.YtdmlpcbmmdddbaaW.PrintMore Go.Proofs.Ytdmlpcbmmdddbaa.Ar
set_option linter.unusedVariables false
set_option linter.unusedSimpArgs false
theorem put_eq (a : Int) (k : Nat) : ids_Put.f (k + 7) a = some [a / 1099511627776 % 256, a / 4294967296 % 256, a / 16777216 % 256, a / 65536 % 256, a / 256 % 256, a % 256] := by
  simp [ids_Put.f, ids_Put.l0, wrap64, List.replicate, shr, IntKind.bits]
theorem refput_step (k : Nat) (x : Int) (x3 : List Int) (i y : Int) (hy : i - 1 = y) (hx : 0 ≤ x ∧ x < 18446744073709551616) (h0 : 0 ≤ i) (h1 : i < (x3.length : Int)) (hs : x3.length ≤ 1000) :
    treelineref01_Put.l0 (k + 1) x x3 i = treelineref01_Put.l0 k (x / 256) (x3.set i.toNat (x % 256)) y := by
  subst hy
  simp only [treelineref01_Put.l0]
  rw [if_pos h0, if_pos h0, if_pos h1, tdiv_nn hx.1, tmod_nn hx.1, wu64 (by omega) (by omega), w64 (by omega) (by omega)]
  rw [show x % 256 % 256 = x % 256 from by omega]
theorem refput_eq (k : Nat) (a : Int) (ha : 0 ≤ a ∧ a < 18446744073709551616) : treelineref01_Put.f (k + 7) a = some [a / 1099511627776 % 256, a / 4294967296 % 256, a / 16777216 % 256, a / 65536 % 256, a / 256 % 256, a % 256] := by
  unfold treelineref01_Put.f treelineref01_Least.f
  simp only [Option.bind_some]
  rw [if_pos (by decide), tmod_nn ha.1]
  obtain ⟨x, hx⟩ : ∃ x, x = a % 281474976710656 := ⟨_, rfl⟩
  have X : 0 ≤ x ∧ x < 281474976710656 := by omega
  rw [← hx]
  rw [refput_step (k + 6) x (List.replicate 6 0) 5 4 (by decide) (by omega) (by decide) (by decide) (by decide)]
  rw [refput_step (k + 5) _ _ 4 3 (by decide) (by omega) (by decide) (by simp) (by simp)]
  rw [refput_step (k + 4) _ _ 3 2 (by decide) (by omega) (by decide) (by simp) (by simp)]
  rw [refput_step (k + 3) _ _ 2 1 (by decide) (by omega) (by decide) (by simp) (by simp)]
  rw [refput_step (k + 2) _ _ 1 0 (by decide) (by omega) (by decide) (by simp) (by simp)]
  rw [refput_step (k + 1) _ _ 0 (-1) (by decide) (by omega) (by decide) (by simp) (by simp)]
  simp [treelineref01_Put.l0, List.replicate]
  refine ⟨?_, ?_, ?_, ?_, ?_, ?_⟩ <;> omega
def chk (a b kd n : Int) : Int := if a ≥ 281474976710656 ∨ b ≥ 281474976710656 then 1 else if n > 1500 then 4 else if kd > 1500 ∧ kd < 1536 then 3 else if kd ≤ 1500 ∧ kd ≠ n then 3 else 0
theorem check_eq (k : Nat) (a b kd : Int) (l : List Int) (h : 0 ≤ kd ∧ kd < 65536) : frame_Check.f (k + 2) a b kd l = some (chk a b kd (l.length : Int)) := by
  have e : wrap64 kd = kd := w64 (by omega) (by omega)
  have B : ∀ (c d : Bool), (some (if c = true then (1 : Int) else if d = true then 3 else 0)) = some (if c then 1 else if d then 3 else 0) := fun _ _ => rfl
  unfold frame_Check.f chk
  by_cases ha : a ≥ 281474976710656
  · rw [if_pos ha, if_pos (.inl ha)]
    simp only [frame_Check.j0, if_true]
  · rw [if_neg ha]
    by_cases hb : b ≥ 281474976710656
    · rw [decide_eq_true hb, if_pos (.inr hb)]
      simp only [frame_Check.j0, if_true]
    · rw [decide_eq_false hb, if_neg (by omega)]
      simp only [frame_Check.j0, Bool.false_eq_true, if_false]
      by_cases c : (l.length : Int) > 1500
      · rw [if_pos c, if_pos c]
      · rw [if_neg c, if_neg c]
        by_cases d : kd > 1500
        · rw [if_pos d]
          simp only [frame_Check.j1, e]
          by_cases f : kd < 1536
          · rw [decide_eq_true f, if_pos rfl, if_pos ⟨d, f⟩]
          · rw [decide_eq_false f]
            simp only [Bool.false_eq_true, if_false]
            repeat' split
            all_goals first | rfl | (exfalso; omega)
        · rw [if_neg d]
          simp only [frame_Check.j1, Bool.false_eq_true, if_false, e]
          repeat' split
          all_goals first | rfl | (exfalso; omega)
theorem wput16_eq (k : Nat) (l : List Int) (a : Int) (h : 0 ≤ a ∧ a < 65536) (hl : l.length < 1000000) : wire_Put_uint16.f (k + 3) l a 2 = some (l ++ [a / 256 % 256, a % 256]) := by
  have e : IntKind.u64.wrap a = a := wu64 (by omega) (by omega)
  unfold wire_Put_uint16.f
  simp only [Option.bind_some, List.nil_append, List.length_nil, Nat.zero_add]
  rw [if_pos (by omega)]
  simp only [wire_Put_uint16.l0, e]
  have g1 : wrap64 ((2 : Int) - 1) = 1 := by simp [wrap64]
  have g0 : wrap64 ((1 : Int) - 1) = 0 := by simp [wrap64]
  have g8 : wrap64 ((8 : Int) * 1) = 8 := by simp [wrap64]
  have g9 : wrap64 ((8 : Int) * 0) = 0 := by simp [wrap64]
  have e0 : IntKind.u64.wrap a = a := wu64 (by omega) (by omega)
  simp only [g1, g0, g8, g9]
  rw [if_pos (by decide), if_pos (by decide), if_pos (by decide), if_pos (by omega), if_pos (by decide), if_pos (by decide), if_pos (by decide), if_pos (by simp; omega), if_neg (by decide)]
  rw [List.append_assoc]
  simp [shr, IntKind.bits]
def fbytes (a b kd : Int) (l : List Int) : List Int := [a / 1099511627776 % 256, a / 4294967296 % 256, a / 16777216 % 256, a / 65536 % 256, a / 256 % 256, a % 256, b / 1099511627776 % 256, b / 4294967296 % 256, b / 16777216 % 256, b / 65536 % 256, b / 256 % 256, b % 256, kd / 256 % 256, kd % 256] ++ l
theorem fput_eq (k : Nat) (a b kd : Int) (l : List Int) (h : 0 ≤ kd ∧ kd < 65536) (hl : l.length ≤ 100000) :
    frame_Put.f (k + 7) a b kd l = if chk a b kd (l.length : Int) = 0 then some (fbytes a b kd l, 0) else some ([], chk a b kd (l.length : Int)) := by
  unfold frame_Put.f
  rw [check_eq (k + 5) a b kd l h]
  simp only [Option.bind_some]
  by_cases c : chk a b kd (l.length : Int) = 0
  · rw [if_pos c, if_pos c, put_eq a k, put_eq b k]
    simp only [Option.bind_some]
    rw [if_pos (by simp), wput16_eq (k + 4) _ kd h (by simp)]
    simp only [Option.bind_some]
    rw [if_pos (by simp; omega)]
    simp [fbytes]
  · rw [if_neg c, if_neg c]
theorem awake_eq (k : Nat) : treelinelaw04_awake.f (k + 7) = some true := by
  unfold treelinelaw04_awake.f
  rw [fput_eq k 1 2 0 [] (by decide) (by decide)]
  rw [if_pos (by decide)]
  simp only [Option.bind_some]
  rw [if_pos trivial]
  decide +kernel
theorem refcheck_eq (k : Nat) (a b kd : Int) (l : List Int) (h : 0 ≤ kd ∧ kd < 65536) : treelineref04_Check.f (k + 1) a b kd l = some (chk a b kd (l.length : Int)) := by
  have e : wrap64 kd = kd := w64 (by omega) (by omega)
  unfold treelineref04_Check.f chk
  by_cases ha : a > 281474976710655
  · rw [if_pos ha, if_pos (.inl (by omega))]
    simp only [treelineref04_Check.j0, if_true]
  · rw [if_neg ha]
    by_cases hb : b > 281474976710655
    · rw [decide_eq_true hb, if_pos (.inr (by omega))]
      simp only [treelineref04_Check.j0, if_true]
    · rw [decide_eq_false hb, if_neg (by omega)]
      simp only [treelineref04_Check.j0, Bool.false_eq_true, if_false, e]
      by_cases c : (l.length : Int) > 1500
      · rw [if_pos c, if_pos c]
      · rw [if_neg c, if_neg c]
        repeat' split
        all_goals first | rfl | (exfalso; omega)
theorem refput4_eq (k : Nat) (a b kd : Int) (l : List Int) (ha : 0 ≤ a ∧ a < 18446744073709551616) (hb : 0 ≤ b ∧ b < 18446744073709551616) (h : 0 ≤ kd ∧ kd < 65536) (hl : l.length ≤ 100000) :
    treelineref04_Put.f (k + 7) a b kd l = some (fbytes a b kd l) := by
  unfold treelineref04_Put.f
  rw [refput_eq k a ha, refput_eq k b hb]
  simp only [Option.bind_some]
  rw [if_pos (by simp), if_pos (by simp), if_pos (by simp; omega), tdiv_nn h.1, tmod_nn h.1, wu16 (by omega) (by omega)]
  have e : kd % 256 % 256 = kd % 256 := by omega
  rw [e]
  simp [fbytes]
theorem framePuts_ok (a b kd : Int) (l : List Int) (ha : 0 ≤ a ∧ a < 18446744073709551616) (hb : 0 ≤ b ∧ b < 18446744073709551616) (h : 0 ≤ kd ∧ kd < 65536) : ∃ k, treelinelaw04_FramePuts.f k a b kd l = some true := by
  refine ⟨30, ?_⟩
  unfold treelinelaw04_FramePuts.f
  rw [awake_eq 23]
  simp only [Option.bind_some, if_true]
  by_cases c : (l.length : Int) > 3000
  · rw [decide_eq_true c]
    simp only [treelinelaw04_FramePuts.j0, if_true]
    rw [awake_eq 22]; rfl
  · rw [decide_eq_false c]
    simp only [treelinelaw04_FramePuts.j0, Bool.false_eq_true, if_false]
    rw [fput_eq 22 a b kd l h (by omega), check_eq 27 a b kd l h, refcheck_eq 28 a b kd l h, refput4_eq 22 a b kd l ha hb h (by omega)]
    by_cases d : chk a b kd (l.length : Int) = 0
    · rw [if_pos d, d]
      simp
    · rw [if_neg d]
      simp [d]
theorem FramePuts (x : Int × Int × Int × List Int) (w : framePuts.wf27 x) : ∃ k, treelinelaw04_FramePuts.f k x.1 x.2.1 x.2.2.1 x.2.2.2 = some true := framePuts_ok _ _ _ _ (wf_u64 w.1) (wf_u64 w.2.1) (wf_u16 w.2.2.1)
end Go.Proofs.Ytdmlpcbmmdddbaa.Pure
