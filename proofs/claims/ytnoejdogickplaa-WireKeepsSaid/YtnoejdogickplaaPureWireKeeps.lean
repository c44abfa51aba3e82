/- For all bytes the law WireKeeps answers true: a reader keeps nothing of what it was handed, and hands out new memory. -/
import Derived.Test.YtnoejdogickplaaWire
import Derived.Test.YtnoejdogickplaaSepB
namespace Go.Proofs.Ytnoejdogickplaa.Pure
open Go.RowKit Go.Proofs.YtnoejdogickplaaW.PrintWords Go.Proofs.YtnoejdogickplaaW.PrintLast Go.Proofs.YtnoejdogickplaaW.PrintMore Go.Proofs.Ytnoejdogickplaa.Sep Go.Proofs.Ytnoejdogickplaa.PWireBack Go.Proofs.Ytnoejdogickplaa.Wire
set_option linter.unusedVariables false
set_option linter.unusedSimpArgs false
set_option maxHeartbeats 8000000 in
set_option maxRecDepth 100000 in
theorem Keeps_b (w : World) (A : Option Addr) (n c : Nat) (bs : List Int) (hb : (Kd.int .u8).C w A n bs) (hc : n ≤ c) (h : 600 < n) :
    Calls Try.prog 8 #[.slice A n c] w (fun e w' => e = .returned (.bool true) ∧ Below w.heap.size w w') := by
  obtain ⟨ka, ha⟩ := awake_true
  replace ha := Aside0.mk ha
  have H := Hp.nothing w
  have c1 : decide (600 < (n : Int)) = true := decide_eq_true (by omega)
  have c1' : decide (600 < n) = true := decide_eq_true h
  clear hb hc h
  go_enter Try.func8, Try.ntmps8
  go_wp2_with (first | (go_at_call 23; refine H.call1 (treelinelaw03_awake.calls ka true _ ha.out) ?_; intro w1 H1; replace H := H1))
  go_ret
  exact ⟨rfl, H.below⟩

set_option maxHeartbeats 8000000 in
set_option maxRecDepth 100000 in
theorem Keeps_main (w : World) (A : Option Addr) (n c : Nat) (bs : List Int) (hb : (Kd.int .u8).C w A n bs) (hc : n ≤ c) (h : n ≤ 600) :
    Calls Try.prog 8 #[.slice A n c] w (fun e w' => e = .returned (.bool true) ∧ Below w.heap.size w w') := by
  obtain ⟨ka, ha⟩ := awake_true
  replace ha := Aside0.mk ha
  have H := Hp.nothing w
  obtain rfl : bs.length = n := hb.1
  replace hb := Aside0.mk hb
  replace hc := Aside0.mk hc
  have hh := Aside0.mk h
  have c1 : decide (600 < (bs.length : Int)) = false := decide_eq_false (by omega)
  have c1' : decide (600 < bs.length) = false := decide_eq_false (by omega)
  clear h
  go_enter Try.func8, Try.ntmps8
  go_wp2_with (first | (go_at_call 23; refine H.call1 (treelinelaw03_awake.calls ka true _ ha.out) ?_; intro w1 H1; replace H := H1) | ((with_reducible refine gate_dst (N := 18) rfl ?_); refine ev_ rfl (H.lit (cs := #[]) (e := 5) (n := 0) (by first | (go_simp; done) | (go_simp; rfl))) ?_; rintro v w1 ⟨g0, rfl, H1⟩; replace H := Hp.blk_row (d := Kd.int .u8) [] H1 (.cons (.here _) (.nil _)) (fun _ _ => reps_nil _ _ rfl rfl) rfl (Nat.zero_le _)) | ((with_reducible refine gate_dst (N := 20) rfl ?_); refine ev_ rfl (H.appendS (.tmp 18) (.tmp 19) 48 (.int .u8 0) 1 rfl rfl (.here _) Try.underlying48 info5 rfl (by decide) rfl (H.data hb.out) (by have := hh.out; simp; omega)) ?_; intro v5 w5 H1; simp only [List.nil_append] at H1; obtain ⟨A3, c3, rfl, hc3, HC3⟩ := H1.reads (.here _); replace H := H1; replace hc3 := Aside0.mk hc3; replace HC3 := Aside0.mk HC3) | (go_at_call 24; refine H.call0 (New_calls _ A3 bs.length c3 bs HC3.out (by have := hh.out; omega)) ?_; rintro v l1 w2 ⟨g, rfl, rfl⟩ H1; replace H := H1))
  replace H := Aside0.mk H
  clear HC3
  go_loopw [5] (fun v5 wr => ∃ (k : Nat) (ys : List Int), k ≤ bs.length ∧ v5 = .int .i64 (k : Int) ∧ Aside0 (ys.length = bs.length) ∧ Aside0 (Hp (fun _ => False) w wr [reader g bs 0 false, row (Kd.int .u8) 5 (.slice A3 bs.length c3) ys])) (fun v5 _ => bs.length - (intOf v5).toNat)
  case atStart => exact ⟨0, bs, Nat.zero_le _, rfl, ⟨rfl⟩, ⟨H.out⟩⟩
  case round =>
    obtain ⟨k, ys, hk, rfl, hys, H⟩ := hrel
    have hh' := hh.out
    by_cases hlt : k < bs.length
    · obtain ⟨g3, rfl⟩ := H.out.form (.there _ (.here _)) (by have := hys.out; omega)
      obtain ⟨y, hy⟩ : ∃ y, ys[k]? = some y := ⟨_, List.getElem?_eq_getElem (by have := hys.out; omega)⟩
      have hcell := H.out.rowCell (.there _ (.here _)) k y hy
      replace hy := Aside0.mk hy
      go_wp2_with (first | ((with_reducible refine gate_store (p := 36) rfl ?_); refine ev_ rfl (H.out.storeRow 5 (.tmp 36) (.tmp 35) rfl rfl (.there _ (.here _)) _ rfl rfl info5s (by have := hys.out; omega)) ?_; rintro _ w1 ⟨rfl, H1⟩; replace H := Aside0.mk (H1.imp (bs := [reader g bs 0 false, row (Kd.int .u8) 5 _ _]) (.cons (.there _ (.here _)) (.cons (.here _) (.nil _))) (fun G h => h))))
      go_roundw
      case rel => exact ⟨k + 1, _, by omega, by go_num, ⟨by simp [hys.out]⟩, H⟩
      case measure => simp [intOf]; omega
    · have hb1 : decide (k < bs.length) = false := decide_eq_false hlt
      have hb2 : decide ((k : Int) < (bs.length : Int)) = false := decide_eq_false (by omega)
      replace H := H.out.take (p := [reader g bs 0 false]) (.cons (.here _) (.nil _))
      clear hlt
      go_wp2_with (go_at_call 25; refine H.call (.cons (.here _) (.nil _)) (fun G hG hGl => Rest_calls _ g bs 0 false G hG hGl (Nat.zero_le _) (by omega)) ?_; rintro v l1 w6 rfl H6; rw [List.drop_zero] at H6; obtain ⟨A6, c6, rfl, hc6, HC6⟩ := H6.reads (.here _); replace H := H6; clear HC6 hc6)
      replace H := Aside0.mk H
      clear hk hb1 hb2
      go_loopw [7] (fun v7 wr => ∃ (k : Nat) (zs : List Int), k ≤ bs.length ∧ v7 = .int .i64 (k : Int) ∧ Aside0 (zs.length = bs.length) ∧ Aside0 (Hp (fun _ => False) w wr [row (Kd.int .u8) 5 (.slice A6 bs.length c6) zs, reader g bs 0 false])) (fun v7 _ => bs.length - (intOf v7).toNat)
      case atStart => exact ⟨0, bs, Nat.zero_le _, rfl, ⟨rfl⟩, ⟨H.out⟩⟩
      case round =>
        obtain ⟨k, zs, hk, rfl, hzs, H⟩ := hrel
        by_cases hlt : k < bs.length
        · obtain ⟨g6, rfl⟩ := H.out.form (.here _) (by have := hzs.out; omega)
          go_wp2_with (first | ((with_reducible refine gate_store (p := 47) rfl ?_); refine ev_ rfl (H.out.storeRow 5 (.tmp 47) (.const (.int .u8 0)) rfl rfl (.here _) _ rfl rfl info5s (by have := hzs.out; omega)) ?_; rintro _ w1 ⟨rfl, H1⟩; replace H := Aside0.mk H1))
          go_roundw
          case rel => exact ⟨k + 1, _, by omega, by go_num, ⟨by simp [hzs.out]⟩, H⟩
          case measure => simp [intOf]; omega
        · have hb1 : decide (k < bs.length) = false := decide_eq_false hlt
          have hb2 : decide ((k : Int) < (bs.length : Int)) = false := decide_eq_false (by omega)
          replace H := H.out.take (p := [reader g bs 0 false]) (.cons (.there _ (.here _)) (.nil _))
          clear hlt
          go_wp2_with (go_at_call 26; refine H.call (.cons (.here _) (.nil _)) (fun G hG hGl => Bytes_yes _ g bs 0 bs.length G hG hGl (by omega) (by omega)) ?_; rintro v l1 w6 rfl H6; rw [List.drop_zero, List.take_length, Nat.zero_add] at H6; obtain ⟨A8, c8, rfl, hc8, HC8⟩ := H6.reads (.here _); replace H := H6; clear HC8 hc8)
          replace H := Aside0.mk H
          clear hk hb1 hb2
          go_loopw [9] (fun v9 wr => ∃ (k : Nat) (ys : List Int), k ≤ bs.length ∧ v9 = .int .i64 (k : Int) ∧ Aside0 (ys.length = bs.length ∧ ∀ j, k ≤ j → ys[j]? = bs[j]?) ∧ Aside0 (Hp (fun _ => False) w wr [row (Kd.int .u8) 5 (.slice A8 bs.length c8) ys, reader g bs bs.length false])) (fun v9 _ => bs.length - (intOf v9).toNat)
          case atStart => exact ⟨0, bs, Nat.zero_le _, rfl, ⟨rfl, fun _ _ => rfl⟩, ⟨H.out⟩⟩
          case round =>
            obtain ⟨k, ys, hk, rfl, hys, H⟩ := hrel
            by_cases hlt : k < bs.length
            · obtain ⟨g8, rfl⟩ := H.out.form (.here _) (by have := hys.out.1; omega)
              obtain ⟨x, hx⟩ : ∃ x, bs[k]? = some x := ⟨_, List.getElem?_eq_getElem hlt⟩
              have hy : ys[k]? = some x := (hys.out.2 k (Nat.le_refl _)).trans hx
              obtain ⟨ad, hA⟩ := C_some hb.out (by omega)
              subst hA
              replace hx := Aside0.mk hx
              replace hy := Aside0.mk hy
              go_wp2_with fail
              refine startH H.out (n := 9) [] #[false, false, false, false, false, false, false, false, false] (by kernel_rfl) rfl rfl (fun hHeld => ?_)
              refine pure_ (i := 0) (N := some 58) (v := ?_) (a' := ?_) #[true, false, false, false, false, false, false, false, false] rfl rfl (by kernel_rfl) (fun _ _ _ h => h) (Or.inl ⟨by rfl, ?_⟩) ?_ ?_
              rotate_left
              · intro w'
                go_simp
                with_reducible rfl
              rotate_left
              · simp only [Act.put, List.setIfInBounds_toArray, List.set_cons_zero, List.set_cons_succ, i64_w, i32_w]
                rfl
              refine pure_ (i := 1) (N := some 59) (v := ?_) (a' := ?_) #[true, true, false, false, false, false, false, false, false] rfl rfl (by kernel_rfl) (fun _ _ _ h => h) (Or.inl ⟨by rfl, ?_⟩) ?_ ?_
              rotate_left
              · intro w'
                go_simp
                with_reducible rfl
              rotate_left
              · simp only [Act.put, List.setIfInBounds_toArray, List.set_cons_zero, List.set_cons_succ, i64_w, i32_w]
                rfl
              refine pure_ (i := 2) (N := some 60) (v := ?_) (a' := ?_) #[true, true, true, false, false, false, false, false, false] rfl rfl (by kernel_rfl) (fun _ _ _ h => h) (Or.inl ⟨by rfl, ?_⟩) ?_ ?_
              rotate_left
              · intro w'
                go_simp
                with_reducible rfl
              rotate_left
              · simp only [Act.put, List.setIfInBounds_toArray, List.set_cons_zero, List.set_cons_succ, i64_w, i32_w]
                rfl
              refine pure_ (i := 4) (N := some 62) (v := ?_) (a' := ?_) #[true, true, true, false, true, false, false, false, false] rfl rfl (by kernel_rfl) (fun _ _ _ h => h) (Or.inl ⟨by rfl, ?_⟩) ?_ ?_
              rotate_left
              · intro w'
                go_simp
                with_reducible rfl
              rotate_left
              · simp only [Act.put, List.setIfInBounds_toArray, List.set_cons_zero, List.set_cons_succ, i64_w, i32_w]
                rfl
              refine pure_ (i := 5) (N := some 63) (v := ?_) (a' := ?_) #[true, true, true, false, true, true, false, false, false] rfl rfl (by kernel_rfl) (fun _ _ _ h => h) (Or.inl ⟨by rfl, ?_⟩) ?_ ?_
              rotate_left
              · intro w'
                go_simp
                with_reducible rfl
              rotate_left
              · simp only [Act.put, List.setIfInBounds_toArray, List.set_cons_zero, List.set_cons_succ, i64_w, i32_w]
                rfl
              refine pure_ (i := 6) (N := some 64) (v := ?_) (a' := ?_) #[true, true, true, false, true, true, true, false, false] rfl rfl (by kernel_rfl) (fun _ _ _ h => h) (Or.inl ⟨by rfl, ?_⟩) ?_ ?_
              rotate_left
              · intro w'
                go_simp
                with_reducible rfl
              rotate_left
              · simp only [Act.put, List.setIfInBounds_toArray, List.set_cons_zero, List.set_cons_succ, i64_w, i32_w]
                rfl
              refine take_ (i := 3) (N := some 61) (v := _) (a' := ?_) #[true, true, true, true, true, true, true, false, false] rfl rfl (by kernel_rfl) (fun _ _ _ h => h) (Or.inl ⟨by rfl, fun w2 h => run_loadCell rfl rfl Try.underlying5 rfl (h.rowCell (.here _) k x hy.out)⟩) hHeld ?_ ?_
              rotate_left
              · simp only [Act.put, List.setIfInBounds_toArray, List.set_cons_zero, List.set_cons_succ, i64_w, i32_w]
                rfl
              refine take_ (i := 7) (N := some 65) (v := _) (a' := ?_) #[true, true, true, true, true, true, true, true, false] rfl rfl (by kernel_rfl) (fun _ _ _ h => h) (Or.inl ⟨by rfl, fun w2 h => run_loadCell rfl rfl Try.underlying5 rfl (C_cell (h.data hb.out) k x hx.out)⟩) hHeld ?_ ?_
              rotate_left
              · simp only [Act.put, List.setIfInBounds_toArray, List.set_cons_zero, List.set_cons_succ, i64_w, i32_w]
                rfl
              refine pure_ (i := 8) (N := some 66) (v := ?_) (a' := ?_) #[true, true, true, true, true, true, true, true, true] rfl rfl (by kernel_rfl) (fun _ _ _ h => h) (Or.inl ⟨by rfl, ?_⟩) ?_ ?_
              rotate_left
              · intro w'
                go_simp
                with_reducible rfl
              rotate_left
              · simp only [Act.put, List.setIfInBounds_toArray, List.set_cons_zero, List.set_cons_succ, i64_w, i32_w]
                rfl
              refine done_ (by kernel_rfl) ?_
              replace H := Aside0.mk hHeld
              clear hHeld
              go_wp2_with (first | ((with_reducible refine gate_store (p := 69) rfl ?_); refine ev_ rfl (H.out.storeRow 5 (.tmp 69) (.const (.int .u8 0)) rfl rfl (.here _) _ rfl rfl info5s (by have := hys.out.1; omega)) ?_; rintro _ w1 ⟨rfl, H1⟩; replace H := Aside0.mk H1))
              go_roundw
              case rel => exact ⟨k + 1, _, by omega, by go_num, ⟨by simp [hys.out.1], fun j hj => by rw [List.getElem?_set_ne (by omega)]; exact hys.out.2 j (by omega)⟩, H⟩
              case measure => simp [intOf]; omega
            · have hb1 : decide (k < bs.length) = false := decide_eq_false hlt
              have hb2 : decide ((k : Int) < (bs.length : Int)) = false := decide_eq_false (by omega)
              replace H := H.out.take (p := [reader g bs bs.length false]) (.cons (.there _ (.here _)) (.nil _))
              clear hlt
              go_wp2_with (go_at_call 25; refine H.call (.cons (.here _) (.nil _)) (fun G hG hGl => Rest_calls _ g bs bs.length false G hG hGl (Nat.le_refl _) (by omega)) ?_; rintro v l1 w6 rfl H6; rw [List.drop_length] at H6; obtain ⟨A9, c9, rfl, hc9, HC9⟩ := H6.reads (.here _); replace H := H6; clear HC9 hc9)
              go_ret
              exact ⟨rfl, H.below⟩

theorem WireKeeps (W : World) (l0 : List Int) (w0 : ∀ y ∈ l0, (Lit.int .u8 y).wf = true) {A0 : Option Addr} {c0 : Nat} (hC0 : (Kd.int .u8).C W A0 l0.length l0) (hc0 : l0.length ≤ c0) :
    Calls Try.prog 8 #[.slice A0 l0.length c0] W (fun e w' => e = .returned (.bool true) ∧ Below W.heap.size W w') := by
  by_cases h : 600 < l0.length
  · exact Keeps_b W A0 _ c0 l0 hC0 hc0 h
  · exact Keeps_main W A0 _ c0 l0 hC0 hc0 (by omega)

end Go.Proofs.Ytnoejdogickplaa.Pure
