/- For all two frames the law FrameCopies answers true: a copy is alike, in new memory. -/
import Derived.Test.YtdmlpcbmmdddbaaOFrameCopiesx3
import Derived.Test.YtdmlpcbmmdddbaaAr
import Derived.Test.YtdmlpcbmmdddbaaShapeFrameCopies
namespace Go.Proofs.Ytdmlpcbmmdddbaa.Pure
open Go.RowKit Go.Proofs.Ytdmlpcbmmdddbaa.PFrameCopies Go.Proofs.YtdmlpcbmmdddbaaW.PrintWords Go.Proofs.YtdmlpcbmmdddbaaW.PrintLast Go.Proofs.YtdmlpcbmmdddbaaW.PrintMore Go.Proofs.Ytdmlpcbmmdddbaa.Ar
set_option linter.unusedVariables false
set_option linter.unusedSimpArgs false
theorem put_eq (a : Int) (k : Nat) : ids_Put.f (k + 7) a = some [a / 1099511627776 % 256, a / 4294967296 % 256, a / 16777216 % 256, a / 65536 % 256, a / 256 % 256, a % 256] := by
  simp [ids_Put.f, ids_Put.l0, wrap64, List.replicate, shr, IntKind.bits]
def chk (a b kd n : Int) : Int := if a ≥ 281474976710656 ∨ b ≥ 281474976710656 then 1 else if n > 1500 then 4 else if kd > 1500 ∧ kd < 1536 then 3 else if kd ≤ 1500 ∧ kd ≠ n then 3 else 0
theorem check_eq (k : Nat) (a b kd : Int) (l : List Int) (h : 0 ≤ kd ∧ kd < 65536) : frame_Check.f (k + 2) a b kd l = some (chk a b kd (l.length : Int)) := by
  have e : wrap64 kd = kd := w64 (by omega) (by omega)
  have B : ∀ (c d : Bool), (some (if c = true then (1 : Int) else if d = true then 3 else 0)) = some (if c then 1 else if d then 3 else 0) := fun _ _ => rfl
  unfold frame_Check.f chk
  by_cases ha : a ≥ 281474976710656
  · rw [if_pos ha, if_pos (.inl ha)]
    simp only [frame_Check.j0, if_true]
  · rw [if_neg ha]
    by_cases hb : b ≥ 281474976710656
    · rw [decide_eq_true hb, if_pos (.inr hb)]
      simp only [frame_Check.j0, if_true]
    · rw [decide_eq_false hb, if_neg (by omega)]
      simp only [frame_Check.j0, Bool.false_eq_true, if_false]
      by_cases c : (l.length : Int) > 1500
      · rw [if_pos c, if_pos c]
      · rw [if_neg c, if_neg c]
        by_cases d : kd > 1500
        · rw [if_pos d]
          simp only [frame_Check.j1, e]
          by_cases f : kd < 1536
          · rw [decide_eq_true f, if_pos rfl, if_pos ⟨d, f⟩]
          · rw [decide_eq_false f]
            simp only [Bool.false_eq_true, if_false]
            repeat' split
            all_goals first | rfl | (exfalso; omega)
        · rw [if_neg d]
          simp only [frame_Check.j1, Bool.false_eq_true, if_false, e]
          repeat' split
          all_goals first | rfl | (exfalso; omega)
theorem wput16_eq (k : Nat) (l : List Int) (a : Int) (h : 0 ≤ a ∧ a < 65536) (hl : l.length < 1000000) : wire_Put_uint16.f (k + 3) l a 2 = some (l ++ [a / 256 % 256, a % 256]) := by
  have e : IntKind.u64.wrap a = a := wu64 (by omega) (by omega)
  unfold wire_Put_uint16.f
  simp only [Option.bind_some, List.nil_append, List.length_nil, Nat.zero_add]
  rw [if_pos (by omega)]
  simp only [wire_Put_uint16.l0, e]
  have g1 : wrap64 ((2 : Int) - 1) = 1 := by simp [wrap64]
  have g0 : wrap64 ((1 : Int) - 1) = 0 := by simp [wrap64]
  have g8 : wrap64 ((8 : Int) * 1) = 8 := by simp [wrap64]
  have g9 : wrap64 ((8 : Int) * 0) = 0 := by simp [wrap64]
  have e0 : IntKind.u64.wrap a = a := wu64 (by omega) (by omega)
  simp only [g1, g0, g8, g9]
  rw [if_pos (by decide), if_pos (by decide), if_pos (by decide), if_pos (by omega), if_pos (by decide), if_pos (by decide), if_pos (by decide), if_pos (by simp; omega), if_neg (by decide)]
  rw [List.append_assoc]
  simp [shr, IntKind.bits]
def fbytes (a b kd : Int) (l : List Int) : List Int := [a / 1099511627776 % 256, a / 4294967296 % 256, a / 16777216 % 256, a / 65536 % 256, a / 256 % 256, a % 256, b / 1099511627776 % 256, b / 4294967296 % 256, b / 16777216 % 256, b / 65536 % 256, b / 256 % 256, b % 256, kd / 256 % 256, kd % 256] ++ l
theorem fput_eq (k : Nat) (a b kd : Int) (l : List Int) (h : 0 ≤ kd ∧ kd < 65536) (hl : l.length ≤ 100000) :
    frame_Put.f (k + 7) a b kd l = if chk a b kd (l.length : Int) = 0 then some (fbytes a b kd l, 0) else some ([], chk a b kd (l.length : Int)) := by
  unfold frame_Put.f
  rw [check_eq (k + 5) a b kd l h]
  simp only [Option.bind_some]
  by_cases c : chk a b kd (l.length : Int) = 0
  · rw [if_pos c, if_pos c, put_eq a k, put_eq b k]
    simp only [Option.bind_some]
    rw [if_pos (by simp), wput16_eq (k + 4) _ kd h (by simp)]
    simp only [Option.bind_some]
    rw [if_pos (by simp; omega)]
    simp [fbytes]
  · rw [if_neg c, if_neg c]
theorem awake_eq (k : Nat) : treelinelaw04_awake.f (k + 7) = some true := by
  unfold treelinelaw04_awake.f
  rw [fput_eq k 1 2 0 [] (by decide) (by decide)]
  rw [if_pos (by decide)]
  simp only [Option.bind_some]
  rw [if_pos trivial]
  decide +kernel
theorem same_eq (a b c : Int) (l : List Int) (a' b' c' : Int) (l' : List Int) : frame_Same.f a b c l a' b' c' l' = treelineref04_Same.f a b c l a' b' c' l' := rfl
theorem same_self (a b c : Int) (l : List Int) : frame_Same.f a b c l a b c l = some true := by
  unfold frame_Same.f
  rw [if_pos rfl, if_pos rfl, if_pos rfl]
  simp
theorem ofNat_ne (x : Int) (h : 0 ≤ x ∧ x < 256) : UInt8.ofNat ((x + 1) % 256).toNat ≠ UInt8.ofNat x.toNat := by
  intro e
  have e' := congrArg UInt8.toNat e
  simp only [UInt8.toNat_ofNat'] at e'
  omega
/-- Behind the round from i on: the front is told one up, the rest as it was. -/
def up (l : List Int) (i : Nat) : List Int := (l.take i).map (fun x => (x + 1) % 256) ++ l.drop i
theorem up_set (l : List Int) (i : Nat) (hi : i < l.length) : (up l i).set i ((rd (up l i) (i : Int) + 1) % 256) = up l (i + 1) := by
  have hr : rd (up l i) (i : Int) = l[i] := by
    unfold rd up
    simp [List.getD_eq_getElem?_getD, List.getElem?_append, List.length_take, Nat.min_eq_left (Nat.le_of_lt hi), List.getElem?_drop, List.getElem?_eq_getElem hi]
  rw [hr]
  apply List.ext_getElem
  · simp [up]; omega
  · intro n h1 h2
    simp only [List.getElem_set, up, List.getElem_append, List.length_map, List.length_take, List.getElem_map, List.getElem_take, List.getElem_drop]
    have hm : min i l.length = i := Nat.min_eq_left (Nat.le_of_lt hi)
    have hm2 : min (i + 1) l.length = i + 1 := Nat.min_eq_left hi
    by_cases c : i = n
    · subst c
      rw [if_pos rfl, dif_pos (by omega)]
    · simp only [if_neg c]
      by_cases d : n < i
      · rw [dif_pos (by omega), dif_pos (by omega)]
      · rw [dif_neg (by omega), dif_neg (by omega)]
        congr 1; omega
theorem copy_loop (a b c a' b' c' : Int) (l : List Int) (hs : l.length ≤ 100000) (hw : ∀ y ∈ l, 0 ≤ y ∧ y < 256) (d : Nat) : ∀ (k i : Nat), i + d = l.length → d < k →
    treelinelaw04_FrameCopies.l0 k (strOfNums l) (i : Int) a b c l a b c (up l i) = some true := by
  induction d with
  | zero =>
    intro k i hd hk
    obtain ⟨k, rfl⟩ : ∃ m, k = m + 1 := ⟨k - 1, by omega⟩
    simp only [treelinelaw04_FrameCopies.l0]
    have hu : up l i = l.map (fun x => (x + 1) % 256) := by
      unfold up
      rw [List.take_of_length_le (by omega), List.drop_eq_nil_of_le (by omega), List.append_nil]
    rw [hu, if_neg (by simp; omega)]
    simp only [if_true]
    unfold frame_Same.f
    rw [if_pos rfl, if_pos rfl, if_pos rfl]
    simp only [Option.bind_some, toList_str, size_str]
    cases l with
    | nil => rfl
    | cons x t =>
      have : ((List.map (fun n => UInt8.ofNat n.toNat) (List.map (fun x => (x + 1) % 256) (x :: t))) == (List.map (fun n => UInt8.ofNat n.toNat) (x :: t))) = false := by
        rw [beq_eq_false_iff_ne]
        intro e
        simp only [List.map_cons, List.cons.injEq] at e
        exact ofNat_ne x (hw x (by simp)) e.1
      rw [this]
      have : (((x :: t).length : Int) == 0) = false := by rw [beq_eq_false_iff_ne]; simp; omega
      rw [this]
      rfl
  | succ d ih =>
    intro k i hd hk
    obtain ⟨k, rfl⟩ : ∃ m, k = m + 1 := ⟨k - 1, by omega⟩
    simp only [treelinelaw04_FrameCopies.l0]
    have hL : (up l i).length = l.length := by simp [up]; omega
    rw [hL, if_pos (by omega), if_pos (by omega), w64 (by omega) (by omega)]
    have := up_set l i (by omega)
    rw [show ((i : Int)).toNat = i from by omega, this]
    exact ih k (i + 1) (by omega) (by omega)
theorem frameCopies_ok (a b kd : Int) (l : List Int) (a' b' kd' : Int) (l' : List Int) (hw : ∀ y ∈ l, 0 ≤ y ∧ y < 256) : ∃ k, treelinelaw04_FrameCopies.f k a b kd l a' b' kd' l' = some true := by
  refine ⟨100000, ?_⟩
  unfold treelinelaw04_FrameCopies.f
  rw [awake_eq 99993]
  simp only [Option.bind_some, if_true]
  by_cases c : (l.length : Int) > 3000
  · rw [if_pos c]
    simp only [treelinelaw04_FrameCopies.j0, if_true]
    rw [awake_eq 99992]; rfl
  · rw [if_neg c]
    by_cases c2 : (l'.length : Int) > 3000
    · rw [decide_eq_true c2]
      simp only [treelinelaw04_FrameCopies.j0, if_true]
      rw [awake_eq 99992]; rfl
    · rw [decide_eq_false c2]
      simp only [treelinelaw04_FrameCopies.j0, Bool.false_eq_true, if_false]
      unfold frame_Copy.f
      simp only [Option.bind_some, List.nil_append, List.length_nil, Nat.zero_add]
      rw [if_pos (by omega)]
      simp only [Option.bind_some]
      rw [same_self]
      simp only [Option.bind_some, if_true]
      rw [same_eq]
      have hS : ∃ t, treelineref04_Same.f a b kd l a' b' kd' l' = some t := by
        unfold treelineref04_Same.f
        repeat' split
        all_goals exact ⟨_, rfl⟩
      obtain ⟨t, ht⟩ := hS
      rw [ht]
      simp only [Option.bind_some]
      have e : (t != t) = false := by simp
      rw [e]
      simp only [treelinelaw04_FrameCopies.j1, Bool.false_eq_true, if_false]
      exact copy_loop a b kd a' b' kd' l (by omega) hw l.length _ 0 (by omega) (by omega)
theorem FrameCopies (x y : Int × Int × Int × List Int) (w : frameCopies.wf27 x) (_ : frameCopies.wf27 y) : ∃ k, treelinelaw04_FrameCopies.f k x.1 x.2.1 x.2.2.1 x.2.2.2 y.1 y.2.1 y.2.2.1 y.2.2.2 = some true := frameCopies_ok _ _ _ _ _ _ _ _ (fun y hy => wf_u8 (w.2.2.2 y hy))
end Go.Proofs.Ytdmlpcbmmdddbaa.Pure
