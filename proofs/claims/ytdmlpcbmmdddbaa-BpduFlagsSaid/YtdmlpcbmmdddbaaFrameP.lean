/- What ids.Put and frame.Put come to; what is read of bytes, all cases together. Walked by hand. -/
import Derived.Test.YtdmlpcbmmdddbaaFrameR0
namespace Go.Proofs.Ytdmlpcbmmdddbaa.Frame
open Go.RowKit Go.Proofs.YtdmlpcbmmdddbaaW.PrintWords Go.Proofs.YtdmlpcbmmdddbaaW.PrintLast Go.Proofs.YtdmlpcbmmdddbaaW.PrintMore
set_option linter.unusedVariables false
set_option linter.unusedSimpArgs false
open Go.Proofs.Ytdmlpcbmmdddbaa.Sep Go.Proofs.Ytdmlpcbmmdddbaa.Wire
theorem Get_all (w : World) (A : Option Addr) (n c : Nat) (bs : List Int) (hb : (Kd.int .u8).C w A n bs) (hc : n ≤ c) (hn : n ≤ 100000) (hby : ∀ y ∈ bs, 0 ≤ y ∧ y ≤ 255) :
    Calls Try.prog 21 #[.slice A n c] w (Ret (fun _ => False) w (frAns (getF bs))) := by
  have hl : bs.length = n := hb.1
  by_cases h : bs.length < 14
  · exact Get_short w A n c bs hb hc hn hby h
  · have rK := numR_lt ((bs.drop 12).take 2) (bytes_part hby 12 2) 2 (by simp; omega) (by decide)
    obtain ⟨k, hk⟩ := Int.eq_ofNat_of_zero_le rK.1
    by_cases h1 : k ≤ 1500
    · by_cases h2 : bs.length - 14 < k
      · exact Get_lack w A n c bs hb hc hn hby (by omega) _ _ k rfl rfl hk h1 h2
      · exact Get_fit w A n c bs hb hc hn hby (by omega) _ _ k rfl rfl hk h1 (by omega)
    · by_cases h2 : k < 1536
      · exact Get_form w A n c bs hb hc hn hby (by omega) _ _ k rfl rfl hk (by omega) h2
      · by_cases h3 : 1500 < bs.length - 14
        · exact Get_long w A n c bs hb hc hn hby (by omega) _ _ k rfl rfl hk (by omega) h3
        · exact Get_type w A n c bs hb hc hn hby (by omega) _ _ k rfl rfl hk (by omega) (by omega)

theorem RefGet_all (w : World) (A : Option Addr) (n c : Nat) (bs : List Int) (hb : (Kd.int .u8).C w A n bs) (hc : n ≤ c) (hn : n ≤ 100000) (hby : ∀ y ∈ bs, 0 ≤ y ∧ y ≤ 255) :
    Calls Try.prog 22 #[.slice A n c] w (Ret (fun _ => False) w (frAns (getF bs))) := by
  have hl : bs.length = n := hb.1
  by_cases h : bs.length < 14
  · exact RefGet_short w A n c bs hb hc hn hby h
  · have rK := numR_lt ((bs.drop 12).take 2) (bytes_part hby 12 2) 2 (by simp; omega) (by decide)
    obtain ⟨k, hk⟩ := Int.eq_ofNat_of_zero_le rK.1
    by_cases h1 : k ≤ 1500
    · by_cases h2 : bs.length - 14 < k
      · exact RefGet_lack w A n c bs hb hc hn hby (by omega) _ _ k rfl rfl hk h1 h2
      · exact RefGet_fit w A n c bs hb hc hn hby (by omega) _ _ k rfl rfl hk h1 (by omega)
    · by_cases h2 : k < 1536
      · exact RefGet_form w A n c bs hb hc hn hby (by omega) _ _ k rfl rfl hk (by omega) h2
      · by_cases h3 : 1500 < bs.length - 14
        · exact RefGet_long w A n c bs hb hc hn hby (by omega) _ _ k rfl rfl hk (by omega) h3
        · exact RefGet_type w A n c bs hb hc hn hby (by omega) _ _ k rfl rfl hk (by omega) (by omega)

theorem putL_get (x : Int) : ∀ (m j : Nat), j < m → (putL x m)[j]? = some (digit x (m - 1 - j))
  | 0, j, h => absurd h (Nat.not_lt_zero _)
  | m + 1, 0, _ => by simp [putL]
  | m + 1, j + 1, h => by
    rw [putL, List.getElem?_cons_succ, putL_get x m j (by omega)]
    congr 2
    omega
set_option maxHeartbeats 1000000 in
set_option maxRecDepth 100000 in
theorem Ids_calls (w : World) (a : Int) (a0 : 0 ≤ a) (a1 : a < 18446744073709551616) :
    Calls Try.prog 30 #[.int .u64 a] w (Ret (fun _ => False) w fun v l => l = [row (Kd.int .u8) 5 v (putL a 6)]) := by
  have H := Hp.nothing w
  replace a1 := Aside0.mk a1
  go_enter Try.func30, Try.ntmps30
  go_wp2_with (first | ((with_reducible refine gate_dst (N := 5) rfl ?_); refine ev_ rfl (H.make (d := Kd.int .u8) (N := 5) rfl 25 5 (.const (.int .i64 6)) (.const (.int .i64 6)) rfl rfl rfl Try.underlying25 (.int .u8 0) 1 info5 rfl (by decide) (by decide) 0 (fun _ => rfl) (by decide) (by decide)) ?_; intro v5 w5 H1; obtain ⟨A5, c5, rfl, hc5, HC5⟩ := H1.reads (.here _); replace H := H1; clear H1 hc5 HC5))
  replace H := Aside0.mk H
  go_loopw [8] (fun v8 wr => ∃ (k : Nat) (ys : List Int), k ≤ 6 ∧ v8 = .int .i64 (k : Int) ∧ Aside0 (ys.length = 6 ∧ ∀ j, j < k → ys[j]? = (putL a 6)[j]?) ∧ Aside0 (Hp (fun _ => False) w wr [row (Kd.int .u8) 5 (.slice A5 6 c5) ys])) (fun v8 _ => 6 - (intOf v8).toNat)
  case atStart => exact ⟨0, [0, 0, 0, 0, 0, 0], by decide, rfl, ⟨rfl, fun j hj => absurd hj (Nat.not_lt_zero _)⟩, ⟨H.out⟩⟩
  case round =>
    obtain ⟨k, ys, hk, rfl, hys, H⟩ := hrel
    by_cases hlt : k < 6
    · obtain ⟨g5, rfl⟩ := H.out.form (.here _) (by have := hys.out.1; omega)
      obtain ⟨D, hD⟩ : ∃ D : Int, a / 2 ^ (40 - 8 * k) = D := ⟨_, rfl⟩
      have e1 : (40 - 8 * (k : Int)).toNat = 40 - 8 * k := by omega
      have d1 : a / 2 ^ min (40 - 8 * (k : Int)).toNat 64 = D := by rw [← hD, e1, Nat.min_eq_left (by omega)]
      have d2 : a / 2 ^ (40 - 8 * (k : Int)).toNat = D := by rw [← hD, e1]
      have hdig : D % 256 = digit a (5 - k) := by
        rw [← hD, digit, if_pos (by omega), show 40 - 8 * k = 8 * (5 - k) by omega, Int.pow_mul]
        rfl
      clear e1
      replace hdig := Aside0.mk hdig
      go_wp2_with (first | ((with_reducible refine gate_store (p := 19) rfl ?_); refine ev_ rfl (H.out.storeRow 5 (.tmp 19) (.tmp 18) rfl rfl (.here _) _ rfl rfl info5s (by have := hys.out.1; omega)) ?_; rintro _ w1 ⟨rfl, H1⟩; replace H := Aside0.mk H1; clear H1))
      go_roundw
      case rel =>
        refine ⟨k + 1, _, by omega, by go_num, ⟨by simp [hys.out.1], fun j hj => ?_⟩, H⟩
        by_cases hjk : j = k
        · subst hjk
          rw [List.getElem?_set_self (by have := hys.out.1; omega), putL_get a 6 j (by omega)]
          exact congrArg some (hdig.out.trans (by congr 1 <;> omega))
        · rw [List.getElem?_set_ne (by omega)]
          exact hys.out.2 j (by omega)
      case measure => simp [intOf] <;> omega
    · have hb1 : decide (k < 6) = false := decide_eq_false hlt
      have hb2 : decide ((k : Int) < 6) = false := decide_eq_false (by omega)
      have he : ys = putL a 6 := by
        apply List.ext_getElem?
        intro j
        by_cases hj : j < k
        · exact hys.out.2 j hj
        · rw [List.getElem?_eq_none (by have := hys.out.1; omega), List.getElem?_eq_none (by rw [putL_length]; omega)]
      replace H := H.out
      rw [he] at H
      replace he := Aside0.mk he
      go_wp2_with fail
      go_ret
      exact ⟨_, _, rfl, rfl, H⟩

end Go.Proofs.Ytdmlpcbmmdddbaa.Frame
