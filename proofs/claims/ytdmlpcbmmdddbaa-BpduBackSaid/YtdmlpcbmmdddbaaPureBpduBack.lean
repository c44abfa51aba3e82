/- The law BpduBack over what its functions come to. Walked by hand. -/
import Derived.Test.YtdmlpcbmmdddbaaOBpduGetsx2
import Derived.Test.YtdmlpcbmmdddbaaBpduH
import Derived.Test.YtdmlpcbmmdddbaaAr
namespace Go.Proofs.Ytdmlpcbmmdddbaa.Pure
open Go.RowKit Go.Proofs.YtdmlpcbmmdddbaaW.PrintWords Go.Proofs.YtdmlpcbmmdddbaaW.PrintLast Go.Proofs.YtdmlpcbmmdddbaaW.PrintMore
set_option linter.unusedVariables false
set_option linter.unusedSimpArgs false
open Go.Proofs.Ytdmlpcbmmdddbaa.Sep Go.Proofs.Ytdmlpcbmmdddbaa.Wire Go.Proofs.Ytdmlpcbmmdddbaa.Bpdu Go.Proofs.Ytdmlpcbmmdddbaa
theorem pN_mid {bs pre post : List Int} {x : Int} {i m : Nat} (h : bs = pre ++ (putL x m ++ post)) (hp : pre.length = i) : pN bs i m = numR (putL x m) := by
  subst h
  unfold pN
  rw [List.drop_append, hp, Nat.sub_self, List.drop_zero, List.drop_of_length_le (by omega), List.nil_append, List.take_append, putL_length, Nat.sub_self, List.take_zero, List.append_nil, List.take_of_length_le (by rw [putL_length]; exact Nat.le_refl _)]
theorem numR_put (x : Int) (h0 : 0 ≤ x) (h9 : x < 18446744073709551616) (k : Nat) (hk : k ≤ 8) (h1 : x < ((256 ^ k : Nat) : Int)) : numR (putL x k) = x := by
  have h := num_put x h0 h9 k
  refine (numLR (putL x k) 0 (putL_range x k)).symm.trans (h.trans ?_)
  split
  · exact Int.emod_eq_of_lt h0 h1
  · rfl
theorem get_conf (c1 c2 : Bool) (r co br po q1 q2 q3 q4 : Int) (r0 : 0 ≤ r ∧ r < 18446744073709551616) (co0 : 0 ≤ co ∧ co < 4294967296) (br0 : 0 ≤ br ∧ br < 18446744073709551616) (po0 : 0 ≤ po ∧ po < 65536) (q10 : 0 ≤ q1 ∧ q1 < 65536) (q20 : 0 ≤ q2 ∧ q2 < 65536) (q30 : 0 ≤ q3 ∧ q3 < 65536) (q40 : 0 ≤ q4 ∧ q4 < 65536) (more : List Int) :
    getB ((confB c1 c2 r co br po q1 q2 q3 q4) ++ more) = if 2147483648 ≤ co then (zM, 4) else if q2 ≤ q1 then (zM, 5) else ((false, c1, c2, r, co, br, po, q1, q2, q3, q4), 0) := by
  have fr := fl_range c1 c2
  have e0 : pN ((confB c1 c2 r co br po q1 q2 q3 q4) ++ more) 0 3 = 0 := (pN_mid (pre := []) (post := (putL 0 1 ++ (putL (fl c1 c2) 1 ++ (putL r 8 ++ (putL co 4 ++ (putL br 8 ++ (putL po 2 ++ (putL q1 2 ++ (putL q2 2 ++ (putL q3 2 ++ (putL q4 2 ++ [])))))))))) ++ more) (by simp [confB, addQ, headB, qB, List.append_assoc]) (by simp [putL_length])).trans (numR_put _ (by omega) (by omega) 3 (by decide) (by first | (simp; done) | (simp; omega)))
  have e1 : pN ((confB c1 c2 r co br po q1 q2 q3 q4) ++ more) 3 1 = 0 := (pN_mid (pre := ([] ++ putL 0 3)) (post := (putL (fl c1 c2) 1 ++ (putL r 8 ++ (putL co 4 ++ (putL br 8 ++ (putL po 2 ++ (putL q1 2 ++ (putL q2 2 ++ (putL q3 2 ++ (putL q4 2 ++ []))))))))) ++ more) (by simp [confB, addQ, headB, qB, List.append_assoc]) (by simp [putL_length])).trans (numR_put _ (by omega) (by omega) 1 (by decide) (by first | (simp; done) | (simp; omega)))
  have e2 : pN ((confB c1 c2 r co br po q1 q2 q3 q4) ++ more) 4 1 = (fl c1 c2) := (pN_mid (pre := (([] ++ putL 0 3) ++ putL 0 1)) (post := (putL r 8 ++ (putL co 4 ++ (putL br 8 ++ (putL po 2 ++ (putL q1 2 ++ (putL q2 2 ++ (putL q3 2 ++ (putL q4 2 ++ [])))))))) ++ more) (by simp [confB, addQ, headB, qB, List.append_assoc]) (by simp [putL_length])).trans (numR_put _ (by omega) (by omega) 1 (by decide) (by first | (simp; done) | (simp; omega)))
  have e3 : pN ((confB c1 c2 r co br po q1 q2 q3 q4) ++ more) 5 8 = r := (pN_mid (pre := ((([] ++ putL 0 3) ++ putL 0 1) ++ putL (fl c1 c2) 1)) (post := (putL co 4 ++ (putL br 8 ++ (putL po 2 ++ (putL q1 2 ++ (putL q2 2 ++ (putL q3 2 ++ (putL q4 2 ++ []))))))) ++ more) (by simp [confB, addQ, headB, qB, List.append_assoc]) (by simp [putL_length])).trans (numR_put _ (by omega) (by omega) 8 (by decide) (by first | (simp; done) | (simp; omega)))
  have e4 : pN ((confB c1 c2 r co br po q1 q2 q3 q4) ++ more) 13 4 = co := (pN_mid (pre := (((([] ++ putL 0 3) ++ putL 0 1) ++ putL (fl c1 c2) 1) ++ putL r 8)) (post := (putL br 8 ++ (putL po 2 ++ (putL q1 2 ++ (putL q2 2 ++ (putL q3 2 ++ (putL q4 2 ++ [])))))) ++ more) (by simp [confB, addQ, headB, qB, List.append_assoc]) (by simp [putL_length])).trans (numR_put _ (by omega) (by omega) 4 (by decide) (by first | (simp; done) | (simp; omega)))
  have e5 : pN ((confB c1 c2 r co br po q1 q2 q3 q4) ++ more) 17 8 = br := (pN_mid (pre := ((((([] ++ putL 0 3) ++ putL 0 1) ++ putL (fl c1 c2) 1) ++ putL r 8) ++ putL co 4)) (post := (putL po 2 ++ (putL q1 2 ++ (putL q2 2 ++ (putL q3 2 ++ (putL q4 2 ++ []))))) ++ more) (by simp [confB, addQ, headB, qB, List.append_assoc]) (by simp [putL_length])).trans (numR_put _ (by omega) (by omega) 8 (by decide) (by first | (simp; done) | (simp; omega)))
  have e6 : pN ((confB c1 c2 r co br po q1 q2 q3 q4) ++ more) 25 2 = po := (pN_mid (pre := (((((([] ++ putL 0 3) ++ putL 0 1) ++ putL (fl c1 c2) 1) ++ putL r 8) ++ putL co 4) ++ putL br 8)) (post := (putL q1 2 ++ (putL q2 2 ++ (putL q3 2 ++ (putL q4 2 ++ [])))) ++ more) (by simp [confB, addQ, headB, qB, List.append_assoc]) (by simp [putL_length])).trans (numR_put _ (by omega) (by omega) 2 (by decide) (by first | (simp; done) | (simp; omega)))
  have e7 : pN ((confB c1 c2 r co br po q1 q2 q3 q4) ++ more) 27 2 = q1 := (pN_mid (pre := ((((((([] ++ putL 0 3) ++ putL 0 1) ++ putL (fl c1 c2) 1) ++ putL r 8) ++ putL co 4) ++ putL br 8) ++ putL po 2)) (post := (putL q2 2 ++ (putL q3 2 ++ (putL q4 2 ++ []))) ++ more) (by simp [confB, addQ, headB, qB, List.append_assoc]) (by simp [putL_length])).trans (numR_put _ (by omega) (by omega) 2 (by decide) (by first | (simp; done) | (simp; omega)))
  have e8 : pN ((confB c1 c2 r co br po q1 q2 q3 q4) ++ more) 29 2 = q2 := (pN_mid (pre := (((((((([] ++ putL 0 3) ++ putL 0 1) ++ putL (fl c1 c2) 1) ++ putL r 8) ++ putL co 4) ++ putL br 8) ++ putL po 2) ++ putL q1 2)) (post := (putL q3 2 ++ (putL q4 2 ++ [])) ++ more) (by simp [confB, addQ, headB, qB, List.append_assoc]) (by simp [putL_length])).trans (numR_put _ (by omega) (by omega) 2 (by decide) (by first | (simp; done) | (simp; omega)))
  have e9 : pN ((confB c1 c2 r co br po q1 q2 q3 q4) ++ more) 31 2 = q3 := (pN_mid (pre := ((((((((([] ++ putL 0 3) ++ putL 0 1) ++ putL (fl c1 c2) 1) ++ putL r 8) ++ putL co 4) ++ putL br 8) ++ putL po 2) ++ putL q1 2) ++ putL q2 2)) (post := (putL q4 2 ++ []) ++ more) (by simp [confB, addQ, headB, qB, List.append_assoc]) (by simp [putL_length])).trans (numR_put _ (by omega) (by omega) 2 (by decide) (by first | (simp; done) | (simp; omega)))
  have e10 : pN ((confB c1 c2 r co br po q1 q2 q3 q4) ++ more) 33 2 = q4 := (pN_mid (pre := (((((((((([] ++ putL 0 3) ++ putL 0 1) ++ putL (fl c1 c2) 1) ++ putL r 8) ++ putL co 4) ++ putL br 8) ++ putL po 2) ++ putL q1 2) ++ putL q2 2) ++ putL q3 2)) (post := [] ++ more) (by simp [confB, addQ, headB, qB, List.append_assoc]) (by simp [putL_length])).trans (numR_put _ (by omega) (by omega) 2 (by decide) (by first | (simp; done) | (simp; omega)))
  have hlen : ((confB c1 c2 r co br po q1 q2 q3 q4) ++ more).length = 35 + more.length := by rw [List.length_append, confB_length]
  unfold getB rM
  rw [hlen, e0, e1, e2, e3, e4, e5, e6, e7, e8, e9, e10, if_neg (by omega), if_neg (by omega), if_neg (by omega), if_neg (by omega), if_neg (by omega)]
  have f1 : decide (fl c1 c2 % 2 = 1) = c1 := by cases c1 <;> cases c2 <;> decide
  have f2 : decide (128 ≤ fl c1 c2) = c2 := by cases c1 <;> cases c2 <;> decide
  rw [f1, f2]
theorem get_tc (more : List Int) : getB (tcB ++ more) = (tM, 0) := by
  have e0 : pN (tcB ++ more) 0 3 = 0 := by kernel_rfl
  have e1 : pN (tcB ++ more) 3 1 = 128 := by kernel_rfl
  have hlen : (tcB ++ more).length = 4 + more.length := by rw [List.length_append]; rfl
  unfold getB
  rw [hlen, e0, e1, if_neg (by omega), if_neg (by omega), if_neg (by omega), if_pos rfl]
theorem tcB_bytes : ∀ y ∈ tcB, 0 ≤ y ∧ y ≤ 255 := by decide +kernel
theorem confB_bytes (c1 c2 : Bool) (r co br po q1 q2 q3 q4 : Int) : ∀ y ∈ (confB c1 c2 r co br po q1 q2 q3 q4), 0 ≤ y ∧ y ≤ 255 := by
  intro y hy
  simp only [confB, addQ, headB, List.mem_append, List.nil_append] at hy
  rcases hy with ((((((((((hy | hy) | hy) | hy) | hy) | hy) | hy) | hy) | hy) | hy) | hy) <;> exact putL_range _ _ y hy
theorem For_of (l : List Int) (m : Msg × Int) (hl : l.length ≤ 100000) (hby : ∀ y ∈ l, 0 ≤ y ∧ y ≤ 255) (h : getB l = m) (b1 p1 : Int) :
    OBpduGets.bpdu_For.f l b1 p1 = some (OBpduGets.flatB (if m.2 = 0 ∧ m.1.1 = false ∧ m.1.2.2.2.2.2.1 = b1 ∧ m.1.2.2.2.2.2.2.1 = p1 then (zM, 6) else m)) := by
  have hg : OBpduGets.bpdu_Get.f l = some (OBpduGets.flatB m) := by unfold OBpduGets.bpdu_Get.f; rw [if_pos ⟨hl, hby⟩, h]
  unfold OBpduGets.bpdu_For.f
  rw [hg]
  obtain ⟨⟨m0, m1, m2, m3, m4, m5, m6, m7, m8, m9, m10⟩, m11⟩ := m
  simp only [Option.bind_some, OBpduGets.flatB]
  by_cases a : m11 = 0
  · cases m0
    · by_cases b : m5 = b1
      · by_cases c : m6 = p1 <;> simp [a, b, c, zM]
      · simp [a, b]
    · simp [a]
  · simp [a]

theorem mod_nat (x : Int) (h : 0 ≤ x) (m : Nat) (hm : 0 < m) : ∃ k : Nat, k < m ∧ x % (m : Int) = (k : Int) ∧ Int.tmod x (m : Int) = (k : Int) := by
  have h1 := Int.emod_nonneg x (show (m : Int) ≠ 0 by omega)
  have h2 := Int.emod_lt_of_pos x (show (0 : Int) < (m : Int) by omega)
  obtain ⟨k, hk⟩ := Int.eq_ofNat_of_zero_le h1
  refine ⟨k, by omega, hk, ?_⟩
  rw [Int.tmod_eq_emod_of_nonneg h]
  exact hk
theorem small_w (k : Nat) (h : k < 1000) : IntKind.i64.wrap (k : Int) = (k : Int) ∧ wrap64 (k : Int) = (k : Int) := ⟨by rw [IntKind.wrap_i64]; omega, by unfold wrap64; omega⟩
theorem run_rem {P : Program} {o : Oper} {a : Act} {W : World} {x y : Operand} {t t2 : TypeId} (ho : o.op = .binOp .rem t x y t2) {n m k : Int} (hx : a.eval x = .int .i64 n) (hy : a.eval y = .int .i64 m) (hm : m ≠ 0) (hk : Int.tmod n m = k) (hw : IntKind.i64.wrap k = k) :
    (execOp a.eval o).run P W = .ok (.value (.int .i64 k)) W := by
  unfold execOp
  simp only [ho, hx, hy]
  simp [eqGuard, binOp, Op.intDiv, Sem.run_bind, Result.andThen, hm, hk, hw]
theorem get_front (c1 c2 : Bool) (r co br po q1 q2 q3 q4 : Int) (k : Nat) (hk : k < 35) : getB ((confB c1 c2 r co br po q1 q2 q3 q4).take k) = (zM, 2) := by
  have hlen : ((confB c1 c2 r co br po q1 q2 q3 q4).take k).length = k := by rw [List.length_take, confB_length]; omega
  unfold getB
  rw [hlen]
  by_cases h4 : k < 4
  · rw [if_pos h4]
  have ht : ∀ i m, i + m ≤ k → pN ((confB c1 c2 r co br po q1 q2 q3 q4).take k) i m = pN (confB c1 c2 r co br po q1 q2 q3 q4) i m := by
    intro i m him
    unfold pN
    rw [List.drop_take, List.take_take]
    congr 2
    omega
  have e0 : pN (confB c1 c2 r co br po q1 q2 q3 q4) 0 3 = 0 := (pN_mid (x := 0) (m := 3) (pre := []) (post := (putL 0 1 ++ (putL (fl c1 c2) 1 ++ (putL r 8 ++ (putL co 4 ++ (putL br 8 ++ (putL po 2 ++ (putL q1 2 ++ (putL q2 2 ++ (putL q3 2 ++ (putL q4 2 ++ []))))))))))) (by simp [confB, addQ, headB, qB, List.append_assoc]) rfl).trans (by kernel_rfl)
  have e1 : pN (confB c1 c2 r co br po q1 q2 q3 q4) 3 1 = 0 := (pN_mid (x := 0) (m := 1) (pre := putL 0 3) (post := (putL (fl c1 c2) 1 ++ (putL r 8 ++ (putL co 4 ++ (putL br 8 ++ (putL po 2 ++ (putL q1 2 ++ (putL q2 2 ++ (putL q3 2 ++ (putL q4 2 ++ [])))))))))) (by simp [confB, addQ, headB, qB, List.append_assoc]) rfl).trans (by kernel_rfl)
  rw [if_neg h4, ht 0 3 (by omega), ht 3 1 (by omega), e0, e1, if_neg (by omega), if_neg (by omega), if_neg (by omega), if_pos hk]
theorem get_frontT (k : Nat) (hk : k < 4) : getB (tcB.take k) = (zM, 2) := by
  unfold getB
  rw [if_pos (by rw [List.length_take]; omega)]

set_option maxHeartbeats 1000000 in
set_option maxRecDepth 100000 in
theorem Back_tc (w : World) (c1 c2 : Bool) (r co br po q1 q2 q3 q4 : Int) (r0 : 0 ≤ r ∧ r < 18446744073709551616) (co0 : 0 ≤ co ∧ co < 4294967296) (br0 : 0 ≤ br ∧ br < 18446744073709551616) (po0 : 0 ≤ po ∧ po < 65536) (q10 : 0 ≤ q1 ∧ q1 < 65536) (q20 : 0 ≤ q2 ∧ q2 < 65536) (q30 : 0 ≤ q3 ∧ q3 < 65536) (q40 : 0 ≤ q4 ∧ q4 < 65536) (A1 : Option Addr) (n1 c1' : Nat) (more : List Int) (cu : Int) (hm : (Kd.int .u8).C w A1 n1 more) (hn1 : n1 ≤ 2000) (hmb : ∀ y ∈ more, 0 ≤ y ∧ y ≤ 255) (cu0 : 0 ≤ cu ∧ cu < 256)  :
    Calls Try.prog 10 #[.agg #[.bool true, .bool c1, .bool c2, .int .u64 r, .int .u32 co, .int .u64 br, .int .u16 po, .int .u16 q1, .int .u16 q2, .int .u16 q3, .int .u16 q4], .slice A1 n1 c1', .int .u8 cu] w (fun e w' => e = .returned (.bool true) ∧ Below w.heap.size w w') := by
  have H := Hp.nothing w
  have hml : more.length = n1 := hm.1
  obtain ⟨l, hl⟩ : ∃ l, tcB = l := ⟨_, rfl⟩
  have hby : ∀ y ∈ l, 0 ≤ y ∧ y ≤ 255 := by rw [← hl]; exact tcB_bytes
  have hn : l.length = 4 := by rw [← hl]; first | decide | (rw [confB_length])
  have hg : getB (l ++ more) = (tM, 0) := by rw [← hl]; exact get_tc more
  have hfr : ∀ k, k < 4 → getB (l.take k) = (zM, 2) := fun k hk => by rw [← hl]; exact get_frontT k hk
  rw [show tM = (true, false, false, 0, 0, 0, 0, 0, 0, 0, 0) from rfl] at hg
  obtain ⟨L1, hL1⟩ : ∃ L1, l ++ more = L1 := ⟨_, rfl⟩
  have hb1 : ∀ y ∈ L1, 0 ≤ y ∧ y ≤ 255 := by
    intro y hy
    rw [← hL1] at hy
    rcases List.mem_append.1 hy with hy | hy
    · exact hby y hy
    · exact hmb y hy
  have hlen1 : L1.length = 4 + n1 := by rw [← hL1, List.length_append, hn, hml]
  obtain ⟨N1, hN1⟩ : ∃ N1, 4 + n1 = N1 := ⟨_, rfl⟩
  rw [hN1] at hlen1
  rw [hL1] at hg
  have kw1 : IntKind.i64.wrap cu = cu := by rw [IntKind.wrap_i64]; omega
  have kw4 : wrap64 cu = cu := by unfold wrap64; omega
  obtain ⟨k, hkl, hk, hk2⟩ := mod_nat cu cu0.1 4 (by decide)
  obtain ⟨kw2, kw3⟩ := small_w k (Nat.lt_trans hkl (by decide))
  clear hk
  replace hk2 := Aside0.mk hk2
  have hf := hfr k hkl
  have dn : decide (2000 < n1) = false := decide_eq_false (by omega)
  have dnI : decide ((2000 : Int) < (n1 : Int)) = false := decide_eq_false (by omega)
  have hbf : ∀ y ∈ l.take k, 0 ≤ y ∧ y ≤ 255 := fun y hy => hby y (List.mem_of_mem_take hy)
  have hNb : N1 ≤ 2035 := by omega
  clear hfr
  replace hN1 := Aside0.mk hN1
  replace hlen1 := Aside0.mk hlen1
  replace hNb := Aside0.mk hNb
  replace hL1 := Aside0.mk hL1
  replace hl := Aside0.mk hl
  replace hn := Aside0.mk hn
  replace hml := Aside0.mk hml
  replace hm := Aside0.mk hm
  replace hby := Aside0.mk hby
  replace hb1 := Aside0.mk hb1
  replace hbf := Aside0.mk hbf
  replace hmb := Aside0.mk hmb
  replace hg := Aside0.mk hg
  replace hf := Aside0.mk hf
  replace hn1 := Aside0.mk hn1
  go_enter Try.func10, Try.ntmps10
  go_wp2_with (first | (go_at_call 23; refine H.call1 (awake_calls _) ?_; intro w1 H1; replace H := H1; clear H1) | (go_at_call 24; refine H.call0 (BPut_tc _ c1 c2 r co br po q1 q2 q3 q4 r0 co0 br0 po0 q10 q20 q30 q40) ?_; rintro v l1 w1 hv H1; subst hv; rw [hl.out] at H1; obtain ⟨A5, c5, rfl, hc5, H2⟩ := named H1 4 hn.out; replace hc5 := Aside0.mk hc5; replace H := H2; clear H1 H2) | ((with_reducible refine gate_dst (N := 23) rfl ?_); refine ev_ rfl (H.lit (cs := #[]) (e := 5) (n := 0) (by first | (go_simp; done) | (go_simp; rfl))) ?_; rintro v w1 ⟨g0, rfl, H1⟩; replace H := Hp.blk_row (d := Kd.int .u8) (n := 0) ([] : List Int) H1 (.cons (.here _) (.nil _)) (fun _ _ => Reps.none _ _) rfl (by decide); clear H1) | ((with_reducible refine gate_dst (N := 25) rfl ?_); refine ev_ rfl (H.appendS (.tmp 23) (.tmp 24) 25 (.int .u8 0) 1 rfl rfl (.here _) Try.underlying25 info5 rfl (by decide) rfl (H.readsN (xs := l) (by repeat (first | exact Pick.here _ | apply Pick.there))) (by simp)) ?_; rintro v6 w6 H6; simp only [List.nil_append] at H6; obtain ⟨A6, c6, rfl, hc6, H7⟩ := named H6 4 hn.out; replace hc6 := Aside0.mk hc6; replace H := H7; clear H6 H7) | ((with_reducible refine gate_dst (N := 27) rfl ?_); refine ev_ rfl (H.appendS (.tmp 25) (.tmp 26) 25 (.int .u8 0) 1 rfl rfl (.here _) Try.underlying25 info5 rfl (by decide) rfl (H.data hm.out) (by rw [hn.out]; exact Nat.le_trans (Nat.mul_le_mul_right 1 (Nat.add_le_add_left hn1.out _)) (by decide))) ?_; rintro v6 w6 H6; rw [hL1.out] at H6; obtain ⟨A7, c7, rfl, hc7, H7⟩ := named H6 N1 hlen1.out; replace hc7 := Aside0.mk hc7; replace H := H7; clear H6 H7) | (have tk := T1; clear tk; go_at_call 26; refine H.call0 (Get_all _ A5 k c5 (l.take k) (C_front (H.readsN (xs := l) (by repeat (first | exact Pick.here _ | apply Pick.there))) k (Nat.le_of_lt hkl)) (Nat.le_trans (Nat.le_of_lt hkl) hc5.out) (Nat.le_trans (Nat.le_of_lt hkl) (by decide)) hbf.out) ?_; rintro v l1 w1 ⟨hv, rfl⟩ H1; rw [hf.out] at hv; dsimp only [zM] at hv; subst hv; replace H := H1; clear H1) | (go_at_call 26; refine H.call0 (Get_all _ A7 N1 c7 L1 (H.readsN (xs := L1) (by repeat (first | exact Pick.here _ | apply Pick.there))) hc7.out (Nat.le_trans hNb.out (by decide)) hb1.out) ?_; rintro v l1 w1 ⟨hv, rfl⟩ H1; rw [hg.out] at hv; dsimp only at hv; subst hv; replace H := H1; clear H1; have T1 : True := trivial) | ((with_reducible refine gate_dst (N := 37) rfl ?_); refine Kd.event_run rfl (v := .int .i64 (k : Int)) (w1 := _) (run_rem rfl rfl rfl (by decide) hk2.out kw2) ?_) | ((with_reducible refine gate_dst (N := 38) rfl ?_); refine Kd.event_run rfl (v := .slice A5 k c5) (w1 := _) (run_cut3 (t := 25) (e := 5) (j := k) rfl rfl rfl Try.underlying25 Wire.info5s (Nat.le_of_lt hkl) hc5.out _) ?_) | ((with_reducible refine gate_dst (N := 3) rfl ?_); refine ev_ rfl (H.box rfl (by first | (go_simp; done) | (go_simp; rfl)) rfl) ?_; rintro _ w1 ⟨g3, rfl, H1⟩; (try simp only [Value.cells] at H1); replace H := H1; clear H1) | ((with_reducible refine gate_dst (N := 20) rfl ?_); refine Kd.event_run rfl (H.loadN 48 (.tmp 3) rfl rfl (by repeat (first | exact Pick.here _ | apply Pick.there)) #[.bool true, .bool c1, .bool c2, .int .u64 r, .int .u32 co, .int .u64 br, .int .u16 po, .int .u16 q1, .int .u16 q2, .int .u16 q3, .int .u16 q4] Try.underlying48 rfl info48s (fun j u hj => by simpa using hj)) ?_) | ((with_reducible refine gate_dst (N := 8) rfl ?_); refine ev_ rfl (H.new (cs := #[.bool false, .bool false, .bool false, .int .u64 0, .int .u32 0, .int .u64 0, .int .u16 0, .int .u16 0, .int .u16 0, .int .u16 0, .int .u16 0]) (t := 48) (by first | (go_simp; done) | (go_simp; rfl))) ?_; rintro _ w1 ⟨g8, rfl, H1⟩; replace H := H1; clear H1) | ((with_reducible refine gate_store (p := 8) rfl ?_); refine ev_ rfl (H.store 48 (.tmp 8) (.tmp 29) rfl rfl (by repeat (first | exact Pick.here _ | apply Pick.there)) (by first | (go_simp; done) | (go_simp; rfl)) _ rfl info48s (by simp [Value.oneCell', Value.cells]) (by simp [Value.cells]) rfl) ?_; rintro _ w1 ⟨rfl, H1⟩; (try simp only [putsAt, Value.cells, List.setIfInBounds_toArray, List.set_cons_zero, List.set_cons_succ, List.toList_toArray] at H1); replace H := H1; clear H1) | ((with_reducible refine gate_dst (N := 10) rfl ?_); refine ev_ rfl (H.new (cs := #[.bool false, .bool false, .bool false, .int .u64 0, .int .u32 0, .int .u64 0, .int .u16 0, .int .u16 0, .int .u16 0, .int .u16 0, .int .u16 0]) (t := 48) (by first | (go_simp; done) | (go_simp; rfl))) ?_; rintro _ w1 ⟨g10, rfl, H1⟩; replace H := H1; clear H1) | ((with_reducible refine gate_store (p := 10) rfl ?_); refine ev_ rfl (H.store 48 (.tmp 10) (.tmp 40) rfl rfl (by repeat (first | exact Pick.here _ | apply Pick.there)) (by first | (go_simp; done) | (go_simp; rfl)) _ rfl info48s (by simp [Value.oneCell', Value.cells]) (by simp [Value.cells]) rfl) ?_; rintro _ w1 ⟨rfl, H1⟩; (try simp only [putsAt, Value.cells, List.setIfInBounds_toArray, List.set_cons_zero, List.set_cons_succ, List.toList_toArray] at H1); replace H := H1; clear H1) | ((with_reducible refine gate_dst (N := 45) rfl ?_); refine Kd.event_run rfl (H.load1 4 (.tmp 44) rfl rfl (by repeat (first | exact Pick.here _ | apply Pick.there)) Try.underlying4 rfl rfl) ?_) | ((with_reducible refine gate_dst (N := 49) rfl ?_); refine gate_guard (by rfl) ?_; dsimp only; refine Kd.event_run rfl (H.loadN 48 (.tmp 8) rfl rfl (by repeat (first | exact Pick.here _ | apply Pick.there)) #[.bool true, .bool false, .bool false, .int .u64 0, .int .u32 0, .int .u64 0, .int .u16 0, .int .u16 0, .int .u16 0, .int .u16 0, .int .u16 0] Try.underlying48 rfl info48s (fun j u hj => by simpa using hj)) ?_) | ((with_reducible refine gate_dst (N := 59) rfl ?_); refine Kd.event_run rfl (H.load1 45 (.tmp 58) rfl rfl (by repeat (first | exact Pick.here _ | apply Pick.there)) Try.underlying45 rfl rfl) ?_) | ((with_reducible refine gate_dst (N := 64) rfl ?_); refine gate_guard (by rfl) ?_; dsimp only; refine Kd.event_run rfl (H.loadN 48 (.tmp 8) rfl rfl (by repeat (first | exact Pick.here _ | apply Pick.there)) #[.bool true, .bool false, .bool false, .int .u64 0, .int .u32 0, .int .u64 0, .int .u16 0, .int .u16 0, .int .u16 0, .int .u16 0, .int .u16 0] Try.underlying48 rfl info48s (fun j u hj => by simpa using hj)) ?_) | ((with_reducible refine gate_dst (N := 69) rfl ?_); refine Kd.event_run rfl (H.load1 24 (.tmp 68) rfl rfl (by repeat (first | exact Pick.here _ | apply Pick.there)) Try.underlying24 rfl rfl) ?_) | ((with_reducible refine gate_dst (N := 71) rfl ?_); refine Kd.event_run rfl (H.load1 24 (.tmp 70) rfl rfl (by repeat (first | exact Pick.here _ | apply Pick.there)) Try.underlying24 rfl rfl) ?_) | ((with_reducible refine gate_dst (N := 76) rfl ?_); refine gate_guard (by rfl) ?_; dsimp only; refine Kd.event_run rfl (H.loadN 48 (.tmp 8) rfl rfl (by repeat (first | exact Pick.here _ | apply Pick.there)) #[.bool true, .bool false, .bool false, .int .u64 0, .int .u32 0, .int .u64 0, .int .u16 0, .int .u16 0, .int .u16 0, .int .u16 0, .int .u16 0] Try.underlying48 rfl info48s (fun j u hj => by simpa using hj)) ?_) | ((with_reducible refine gate_dst (N := 83) rfl ?_); refine gate_guard (by rfl) ?_; dsimp only; refine Kd.event_run rfl (H.loadN 48 (.tmp 8) rfl rfl (by repeat (first | exact Pick.here _ | apply Pick.there)) #[.bool true, .bool false, .bool false, .int .u64 0, .int .u32 0, .int .u64 0, .int .u16 0, .int .u16 0, .int .u16 0, .int .u16 0, .int .u16 0] Try.underlying48 rfl info48s (fun j u hj => by simpa using hj)) ?_) | ((with_reducible refine gate_dst (N := 84) rfl ?_); refine gate_guard (by rfl) ?_; dsimp only; refine Kd.event_run rfl (H.loadN 48 (.tmp 3) rfl rfl (by repeat (first | exact Pick.here _ | apply Pick.there)) #[.bool true, .bool c1, .bool c2, .int .u64 r, .int .u32 co, .int .u64 br, .int .u16 po, .int .u16 q1, .int .u16 q2, .int .u16 q3, .int .u16 q4] Try.underlying48 rfl info48s (fun j u hj => by simpa using hj)) ?_))
  go_ret
  exact ⟨rfl, H.below⟩

set_option maxHeartbeats 1000000 in
set_option maxRecDepth 100000 in
theorem Back_far (w : World) (c1 c2 : Bool) (r co br po q1 q2 q3 q4 : Int) (r0 : 0 ≤ r ∧ r < 18446744073709551616) (co0 : 0 ≤ co ∧ co < 4294967296) (br0 : 0 ≤ br ∧ br < 18446744073709551616) (po0 : 0 ≤ po ∧ po < 65536) (q10 : 0 ≤ q1 ∧ q1 < 65536) (q20 : 0 ≤ q2 ∧ q2 < 65536) (q30 : 0 ≤ q3 ∧ q3 < 65536) (q40 : 0 ≤ q4 ∧ q4 < 65536) (A1 : Option Addr) (n1 c1' : Nat) (more : List Int) (cu : Int) (hm : (Kd.int .u8).C w A1 n1 more) (hn1 : n1 ≤ 2000) (hmb : ∀ y ∈ more, 0 ≤ y ∧ y ≤ 255) (cu0 : 0 ≤ cu ∧ cu < 256) (h : 2147483648 ≤ co) :
    Calls Try.prog 10 #[.agg #[.bool false, .bool c1, .bool c2, .int .u64 r, .int .u32 co, .int .u64 br, .int .u16 po, .int .u16 q1, .int .u16 q2, .int .u16 q3, .int .u16 q4], .slice A1 n1 c1', .int .u8 cu] w (fun e w' => e = .returned (.bool true) ∧ Below w.heap.size w w') := by
  have H := Hp.nothing w
  have hml : more.length = n1 := hm.1
  obtain ⟨l, hl⟩ : ∃ l, (confB c1 c2 r co br po q1 q2 q3 q4) = l := ⟨_, rfl⟩
  have hby : ∀ y ∈ l, 0 ≤ y ∧ y ≤ 255 := by rw [← hl]; exact confB_bytes _ _ _ _ _ _ _ _ _ _
  have hn : l.length = 35 := by rw [← hl]; first | decide | (rw [confB_length])
  have hg : getB (l ++ more) = ((false, false, false, 0, 0, 0, 0, 0, 0, 0, 0), 4) := by rw [← hl]; rw [get_conf c1 c2 r co br po q1 q2 q3 q4 r0 co0 br0 po0 q10 q20 q30 q40 more, if_pos h]; rfl
  have hfr : ∀ k, k < 35 → getB (l.take k) = (zM, 2) := fun k hk => by rw [← hl]; exact get_front c1 c2 r co br po q1 q2 q3 q4 k hk
  have k1 : decide (2147483648 ≤ co) = true := decide_eq_true h
  replace h := Aside0.mk h
  obtain ⟨L1, hL1⟩ : ∃ L1, l ++ more = L1 := ⟨_, rfl⟩
  have hb1 : ∀ y ∈ L1, 0 ≤ y ∧ y ≤ 255 := by
    intro y hy
    rw [← hL1] at hy
    rcases List.mem_append.1 hy with hy | hy
    · exact hby y hy
    · exact hmb y hy
  have hlen1 : L1.length = 35 + n1 := by rw [← hL1, List.length_append, hn, hml]
  obtain ⟨N1, hN1⟩ : ∃ N1, 35 + n1 = N1 := ⟨_, rfl⟩
  rw [hN1] at hlen1
  rw [hL1] at hg
  have kw1 : IntKind.i64.wrap cu = cu := by rw [IntKind.wrap_i64]; omega
  have kw4 : wrap64 cu = cu := by unfold wrap64; omega
  obtain ⟨k, hkl, hk, hk2⟩ := mod_nat cu cu0.1 35 (by decide)
  obtain ⟨kw2, kw3⟩ := small_w k (Nat.lt_trans hkl (by decide))
  clear hk
  replace hk2 := Aside0.mk hk2
  have hf := hfr k hkl
  have dn : decide (2000 < n1) = false := decide_eq_false (by omega)
  have dnI : decide ((2000 : Int) < (n1 : Int)) = false := decide_eq_false (by omega)
  have hbf : ∀ y ∈ l.take k, 0 ≤ y ∧ y ≤ 255 := fun y hy => hby y (List.mem_of_mem_take hy)
  have hNb : N1 ≤ 2035 := by omega
  clear hfr
  replace hN1 := Aside0.mk hN1
  replace hlen1 := Aside0.mk hlen1
  replace hNb := Aside0.mk hNb
  replace hL1 := Aside0.mk hL1
  replace hl := Aside0.mk hl
  replace hn := Aside0.mk hn
  replace hml := Aside0.mk hml
  replace hm := Aside0.mk hm
  replace hby := Aside0.mk hby
  replace hb1 := Aside0.mk hb1
  replace hbf := Aside0.mk hbf
  replace hmb := Aside0.mk hmb
  replace hg := Aside0.mk hg
  replace hf := Aside0.mk hf
  replace hn1 := Aside0.mk hn1
  go_enter Try.func10, Try.ntmps10
  go_wp2_with (first | (go_at_call 23; refine H.call1 (awake_calls _) ?_; intro w1 H1; replace H := H1; clear H1) | (go_at_call 24; refine H.call0 (BPut_conf _ c1 c2 r co br po q1 q2 q3 q4 r0 co0 br0 po0 q10 q20 q30 q40) ?_; rintro v l1 w1 hv H1; subst hv; rw [hl.out] at H1; obtain ⟨A5, c5, rfl, hc5, H2⟩ := named H1 35 hn.out; replace hc5 := Aside0.mk hc5; replace H := H2; clear H1 H2) | ((with_reducible refine gate_dst (N := 23) rfl ?_); refine ev_ rfl (H.lit (cs := #[]) (e := 5) (n := 0) (by first | (go_simp; done) | (go_simp; rfl))) ?_; rintro v w1 ⟨g0, rfl, H1⟩; replace H := Hp.blk_row (d := Kd.int .u8) (n := 0) ([] : List Int) H1 (.cons (.here _) (.nil _)) (fun _ _ => Reps.none _ _) rfl (by decide); clear H1) | ((with_reducible refine gate_dst (N := 25) rfl ?_); refine ev_ rfl (H.appendS (.tmp 23) (.tmp 24) 25 (.int .u8 0) 1 rfl rfl (.here _) Try.underlying25 info5 rfl (by decide) rfl (H.readsN (xs := l) (by repeat (first | exact Pick.here _ | apply Pick.there))) (by simp)) ?_; rintro v6 w6 H6; simp only [List.nil_append] at H6; obtain ⟨A6, c6, rfl, hc6, H7⟩ := named H6 35 hn.out; replace hc6 := Aside0.mk hc6; replace H := H7; clear H6 H7) | ((with_reducible refine gate_dst (N := 27) rfl ?_); refine ev_ rfl (H.appendS (.tmp 25) (.tmp 26) 25 (.int .u8 0) 1 rfl rfl (.here _) Try.underlying25 info5 rfl (by decide) rfl (H.data hm.out) (by rw [hn.out]; exact Nat.le_trans (Nat.mul_le_mul_right 1 (Nat.add_le_add_left hn1.out _)) (by decide))) ?_; rintro v6 w6 H6; rw [hL1.out] at H6; obtain ⟨A7, c7, rfl, hc7, H7⟩ := named H6 N1 hlen1.out; replace hc7 := Aside0.mk hc7; replace H := H7; clear H6 H7) | (have tk := T1; clear tk; go_at_call 26; refine H.call0 (Get_all _ A5 k c5 (l.take k) (C_front (H.readsN (xs := l) (by repeat (first | exact Pick.here _ | apply Pick.there))) k (Nat.le_of_lt hkl)) (Nat.le_trans (Nat.le_of_lt hkl) hc5.out) (Nat.le_trans (Nat.le_of_lt hkl) (by decide)) hbf.out) ?_; rintro v l1 w1 ⟨hv, rfl⟩ H1; rw [hf.out] at hv; dsimp only [zM] at hv; subst hv; replace H := H1; clear H1) | (go_at_call 26; refine H.call0 (Get_all _ A7 N1 c7 L1 (H.readsN (xs := L1) (by repeat (first | exact Pick.here _ | apply Pick.there))) hc7.out (Nat.le_trans hNb.out (by decide)) hb1.out) ?_; rintro v l1 w1 ⟨hv, rfl⟩ H1; rw [hg.out] at hv; dsimp only at hv; subst hv; replace H := H1; clear H1; have T1 : True := trivial) | ((with_reducible refine gate_dst (N := 37) rfl ?_); refine Kd.event_run rfl (v := .int .i64 (k : Int)) (w1 := _) (run_rem rfl rfl rfl (by decide) hk2.out kw2) ?_) | ((with_reducible refine gate_dst (N := 38) rfl ?_); refine Kd.event_run rfl (v := .slice A5 k c5) (w1 := _) (run_cut3 (t := 25) (e := 5) (j := k) rfl rfl rfl Try.underlying25 Wire.info5s (Nat.le_of_lt hkl) hc5.out _) ?_) | ((with_reducible refine gate_dst (N := 3) rfl ?_); refine ev_ rfl (H.box rfl (by first | (go_simp; done) | (go_simp; rfl)) rfl) ?_; rintro _ w1 ⟨g3, rfl, H1⟩; (try simp only [Value.cells] at H1); replace H := H1; clear H1) | ((with_reducible refine gate_dst (N := 20) rfl ?_); refine Kd.event_run rfl (H.loadN 48 (.tmp 3) rfl rfl (by repeat (first | exact Pick.here _ | apply Pick.there)) #[.bool false, .bool c1, .bool c2, .int .u64 r, .int .u32 co, .int .u64 br, .int .u16 po, .int .u16 q1, .int .u16 q2, .int .u16 q3, .int .u16 q4] Try.underlying48 rfl info48s (fun j u hj => by simpa using hj)) ?_) | ((with_reducible refine gate_dst (N := 8) rfl ?_); refine ev_ rfl (H.new (cs := #[.bool false, .bool false, .bool false, .int .u64 0, .int .u32 0, .int .u64 0, .int .u16 0, .int .u16 0, .int .u16 0, .int .u16 0, .int .u16 0]) (t := 48) (by first | (go_simp; done) | (go_simp; rfl))) ?_; rintro _ w1 ⟨g8, rfl, H1⟩; replace H := H1; clear H1) | ((with_reducible refine gate_store (p := 8) rfl ?_); refine ev_ rfl (H.store 48 (.tmp 8) (.tmp 29) rfl rfl (by repeat (first | exact Pick.here _ | apply Pick.there)) (by first | (go_simp; done) | (go_simp; rfl)) _ rfl info48s (by simp [Value.oneCell', Value.cells]) (by simp [Value.cells]) rfl) ?_; rintro _ w1 ⟨rfl, H1⟩; (try simp only [putsAt, Value.cells, List.setIfInBounds_toArray, List.set_cons_zero, List.set_cons_succ, List.toList_toArray] at H1); replace H := H1; clear H1) | ((with_reducible refine gate_dst (N := 10) rfl ?_); refine ev_ rfl (H.new (cs := #[.bool false, .bool false, .bool false, .int .u64 0, .int .u32 0, .int .u64 0, .int .u16 0, .int .u16 0, .int .u16 0, .int .u16 0, .int .u16 0]) (t := 48) (by first | (go_simp; done) | (go_simp; rfl))) ?_; rintro _ w1 ⟨g10, rfl, H1⟩; replace H := H1; clear H1) | ((with_reducible refine gate_store (p := 10) rfl ?_); refine ev_ rfl (H.store 48 (.tmp 10) (.tmp 40) rfl rfl (by repeat (first | exact Pick.here _ | apply Pick.there)) (by first | (go_simp; done) | (go_simp; rfl)) _ rfl info48s (by simp [Value.oneCell', Value.cells]) (by simp [Value.cells]) rfl) ?_; rintro _ w1 ⟨rfl, H1⟩; (try simp only [putsAt, Value.cells, List.setIfInBounds_toArray, List.set_cons_zero, List.set_cons_succ, List.toList_toArray] at H1); replace H := H1; clear H1) | ((with_reducible refine gate_dst (N := 45) rfl ?_); refine Kd.event_run rfl (H.load1 4 (.tmp 44) rfl rfl (by repeat (first | exact Pick.here _ | apply Pick.there)) Try.underlying4 rfl rfl) ?_) | ((with_reducible refine gate_dst (N := 49) rfl ?_); refine gate_guard (by rfl) ?_; dsimp only; refine Kd.event_run rfl (H.loadN 48 (.tmp 8) rfl rfl (by repeat (first | exact Pick.here _ | apply Pick.there)) #[.bool false, .bool false, .bool false, .int .u64 0, .int .u32 0, .int .u64 0, .int .u16 0, .int .u16 0, .int .u16 0, .int .u16 0, .int .u16 0] Try.underlying48 rfl info48s (fun j u hj => by simpa using hj)) ?_) | ((with_reducible refine gate_dst (N := 59) rfl ?_); refine Kd.event_run rfl (H.load1 45 (.tmp 58) rfl rfl (by repeat (first | exact Pick.here _ | apply Pick.there)) Try.underlying45 rfl rfl) ?_) | ((with_reducible refine gate_dst (N := 64) rfl ?_); refine gate_guard (by rfl) ?_; dsimp only; refine Kd.event_run rfl (H.loadN 48 (.tmp 8) rfl rfl (by repeat (first | exact Pick.here _ | apply Pick.there)) #[.bool false, .bool false, .bool false, .int .u64 0, .int .u32 0, .int .u64 0, .int .u16 0, .int .u16 0, .int .u16 0, .int .u16 0, .int .u16 0] Try.underlying48 rfl info48s (fun j u hj => by simpa using hj)) ?_) | ((with_reducible refine gate_dst (N := 69) rfl ?_); refine Kd.event_run rfl (H.load1 24 (.tmp 68) rfl rfl (by repeat (first | exact Pick.here _ | apply Pick.there)) Try.underlying24 rfl rfl) ?_) | ((with_reducible refine gate_dst (N := 71) rfl ?_); refine Kd.event_run rfl (H.load1 24 (.tmp 70) rfl rfl (by repeat (first | exact Pick.here _ | apply Pick.there)) Try.underlying24 rfl rfl) ?_) | ((with_reducible refine gate_dst (N := 76) rfl ?_); refine gate_guard (by rfl) ?_; dsimp only; refine Kd.event_run rfl (H.loadN 48 (.tmp 8) rfl rfl (by repeat (first | exact Pick.here _ | apply Pick.there)) #[.bool false, .bool false, .bool false, .int .u64 0, .int .u32 0, .int .u64 0, .int .u16 0, .int .u16 0, .int .u16 0, .int .u16 0, .int .u16 0] Try.underlying48 rfl info48s (fun j u hj => by simpa using hj)) ?_) | ((with_reducible refine gate_dst (N := 83) rfl ?_); refine gate_guard (by rfl) ?_; dsimp only; refine Kd.event_run rfl (H.loadN 48 (.tmp 8) rfl rfl (by repeat (first | exact Pick.here _ | apply Pick.there)) #[.bool false, .bool false, .bool false, .int .u64 0, .int .u32 0, .int .u64 0, .int .u16 0, .int .u16 0, .int .u16 0, .int .u16 0, .int .u16 0] Try.underlying48 rfl info48s (fun j u hj => by simpa using hj)) ?_) | ((with_reducible refine gate_dst (N := 84) rfl ?_); refine gate_guard (by rfl) ?_; dsimp only; refine Kd.event_run rfl (H.loadN 48 (.tmp 3) rfl rfl (by repeat (first | exact Pick.here _ | apply Pick.there)) #[.bool false, .bool c1, .bool c2, .int .u64 r, .int .u32 co, .int .u64 br, .int .u16 po, .int .u16 q1, .int .u16 q2, .int .u16 q3, .int .u16 q4] Try.underlying48 rfl info48s (fun j u hj => by simpa using hj)) ?_))
  go_ret
  exact ⟨rfl, H.below⟩

set_option maxHeartbeats 1000000 in
set_option maxRecDepth 100000 in
theorem Back_old (w : World) (c1 c2 : Bool) (r co br po q1 q2 q3 q4 : Int) (r0 : 0 ≤ r ∧ r < 18446744073709551616) (co0 : 0 ≤ co ∧ co < 4294967296) (br0 : 0 ≤ br ∧ br < 18446744073709551616) (po0 : 0 ≤ po ∧ po < 65536) (q10 : 0 ≤ q1 ∧ q1 < 65536) (q20 : 0 ≤ q2 ∧ q2 < 65536) (q30 : 0 ≤ q3 ∧ q3 < 65536) (q40 : 0 ≤ q4 ∧ q4 < 65536) (A1 : Option Addr) (n1 c1' : Nat) (more : List Int) (cu : Int) (hm : (Kd.int .u8).C w A1 n1 more) (hn1 : n1 ≤ 2000) (hmb : ∀ y ∈ more, 0 ≤ y ∧ y ≤ 255) (cu0 : 0 ≤ cu ∧ cu < 256) (h : co < 2147483648) (h3 : q2 ≤ q1) :
    Calls Try.prog 10 #[.agg #[.bool false, .bool c1, .bool c2, .int .u64 r, .int .u32 co, .int .u64 br, .int .u16 po, .int .u16 q1, .int .u16 q2, .int .u16 q3, .int .u16 q4], .slice A1 n1 c1', .int .u8 cu] w (fun e w' => e = .returned (.bool true) ∧ Below w.heap.size w w') := by
  have H := Hp.nothing w
  have hml : more.length = n1 := hm.1
  obtain ⟨l, hl⟩ : ∃ l, (confB c1 c2 r co br po q1 q2 q3 q4) = l := ⟨_, rfl⟩
  have hby : ∀ y ∈ l, 0 ≤ y ∧ y ≤ 255 := by rw [← hl]; exact confB_bytes _ _ _ _ _ _ _ _ _ _
  have hn : l.length = 35 := by rw [← hl]; first | decide | (rw [confB_length])
  have hg : getB (l ++ more) = ((false, false, false, 0, 0, 0, 0, 0, 0, 0, 0), 5) := by rw [← hl]; rw [get_conf c1 c2 r co br po q1 q2 q3 q4 r0 co0 br0 po0 q10 q20 q30 q40 more, if_neg (by omega), if_pos h3]; rfl
  have hfr : ∀ k, k < 35 → getB (l.take k) = (zM, 2) := fun k hk => by rw [← hl]; exact get_front c1 c2 r co br po q1 q2 q3 q4 k hk
  have k1 : decide (2147483648 ≤ co) = false := decide_eq_false (by omega)
  have k2 : decide (q2 ≤ q1) = true := decide_eq_true h3
  replace h := Aside0.mk h
  replace h3 := Aside0.mk h3
  obtain ⟨L1, hL1⟩ : ∃ L1, l ++ more = L1 := ⟨_, rfl⟩
  have hb1 : ∀ y ∈ L1, 0 ≤ y ∧ y ≤ 255 := by
    intro y hy
    rw [← hL1] at hy
    rcases List.mem_append.1 hy with hy | hy
    · exact hby y hy
    · exact hmb y hy
  have hlen1 : L1.length = 35 + n1 := by rw [← hL1, List.length_append, hn, hml]
  obtain ⟨N1, hN1⟩ : ∃ N1, 35 + n1 = N1 := ⟨_, rfl⟩
  rw [hN1] at hlen1
  rw [hL1] at hg
  have kw1 : IntKind.i64.wrap cu = cu := by rw [IntKind.wrap_i64]; omega
  have kw4 : wrap64 cu = cu := by unfold wrap64; omega
  obtain ⟨k, hkl, hk, hk2⟩ := mod_nat cu cu0.1 35 (by decide)
  obtain ⟨kw2, kw3⟩ := small_w k (Nat.lt_trans hkl (by decide))
  clear hk
  replace hk2 := Aside0.mk hk2
  have hf := hfr k hkl
  have dn : decide (2000 < n1) = false := decide_eq_false (by omega)
  have dnI : decide ((2000 : Int) < (n1 : Int)) = false := decide_eq_false (by omega)
  have hbf : ∀ y ∈ l.take k, 0 ≤ y ∧ y ≤ 255 := fun y hy => hby y (List.mem_of_mem_take hy)
  have hNb : N1 ≤ 2035 := by omega
  clear hfr
  replace hN1 := Aside0.mk hN1
  replace hlen1 := Aside0.mk hlen1
  replace hNb := Aside0.mk hNb
  replace hL1 := Aside0.mk hL1
  replace hl := Aside0.mk hl
  replace hn := Aside0.mk hn
  replace hml := Aside0.mk hml
  replace hm := Aside0.mk hm
  replace hby := Aside0.mk hby
  replace hb1 := Aside0.mk hb1
  replace hbf := Aside0.mk hbf
  replace hmb := Aside0.mk hmb
  replace hg := Aside0.mk hg
  replace hf := Aside0.mk hf
  replace hn1 := Aside0.mk hn1
  go_enter Try.func10, Try.ntmps10
  go_wp2_with (first | (go_at_call 23; refine H.call1 (awake_calls _) ?_; intro w1 H1; replace H := H1; clear H1) | (go_at_call 24; refine H.call0 (BPut_conf _ c1 c2 r co br po q1 q2 q3 q4 r0 co0 br0 po0 q10 q20 q30 q40) ?_; rintro v l1 w1 hv H1; subst hv; rw [hl.out] at H1; obtain ⟨A5, c5, rfl, hc5, H2⟩ := named H1 35 hn.out; replace hc5 := Aside0.mk hc5; replace H := H2; clear H1 H2) | ((with_reducible refine gate_dst (N := 23) rfl ?_); refine ev_ rfl (H.lit (cs := #[]) (e := 5) (n := 0) (by first | (go_simp; done) | (go_simp; rfl))) ?_; rintro v w1 ⟨g0, rfl, H1⟩; replace H := Hp.blk_row (d := Kd.int .u8) (n := 0) ([] : List Int) H1 (.cons (.here _) (.nil _)) (fun _ _ => Reps.none _ _) rfl (by decide); clear H1) | ((with_reducible refine gate_dst (N := 25) rfl ?_); refine ev_ rfl (H.appendS (.tmp 23) (.tmp 24) 25 (.int .u8 0) 1 rfl rfl (.here _) Try.underlying25 info5 rfl (by decide) rfl (H.readsN (xs := l) (by repeat (first | exact Pick.here _ | apply Pick.there))) (by simp)) ?_; rintro v6 w6 H6; simp only [List.nil_append] at H6; obtain ⟨A6, c6, rfl, hc6, H7⟩ := named H6 35 hn.out; replace hc6 := Aside0.mk hc6; replace H := H7; clear H6 H7) | ((with_reducible refine gate_dst (N := 27) rfl ?_); refine ev_ rfl (H.appendS (.tmp 25) (.tmp 26) 25 (.int .u8 0) 1 rfl rfl (.here _) Try.underlying25 info5 rfl (by decide) rfl (H.data hm.out) (by rw [hn.out]; exact Nat.le_trans (Nat.mul_le_mul_right 1 (Nat.add_le_add_left hn1.out _)) (by decide))) ?_; rintro v6 w6 H6; rw [hL1.out] at H6; obtain ⟨A7, c7, rfl, hc7, H7⟩ := named H6 N1 hlen1.out; replace hc7 := Aside0.mk hc7; replace H := H7; clear H6 H7) | (have tk := T1; clear tk; go_at_call 26; refine H.call0 (Get_all _ A5 k c5 (l.take k) (C_front (H.readsN (xs := l) (by repeat (first | exact Pick.here _ | apply Pick.there))) k (Nat.le_of_lt hkl)) (Nat.le_trans (Nat.le_of_lt hkl) hc5.out) (Nat.le_trans (Nat.le_of_lt hkl) (by decide)) hbf.out) ?_; rintro v l1 w1 ⟨hv, rfl⟩ H1; rw [hf.out] at hv; dsimp only [zM] at hv; subst hv; replace H := H1; clear H1) | (go_at_call 26; refine H.call0 (Get_all _ A7 N1 c7 L1 (H.readsN (xs := L1) (by repeat (first | exact Pick.here _ | apply Pick.there))) hc7.out (Nat.le_trans hNb.out (by decide)) hb1.out) ?_; rintro v l1 w1 ⟨hv, rfl⟩ H1; rw [hg.out] at hv; dsimp only at hv; subst hv; replace H := H1; clear H1; have T1 : True := trivial) | ((with_reducible refine gate_dst (N := 37) rfl ?_); refine Kd.event_run rfl (v := .int .i64 (k : Int)) (w1 := _) (run_rem rfl rfl rfl (by decide) hk2.out kw2) ?_) | ((with_reducible refine gate_dst (N := 38) rfl ?_); refine Kd.event_run rfl (v := .slice A5 k c5) (w1 := _) (run_cut3 (t := 25) (e := 5) (j := k) rfl rfl rfl Try.underlying25 Wire.info5s (Nat.le_of_lt hkl) hc5.out _) ?_) | ((with_reducible refine gate_dst (N := 3) rfl ?_); refine ev_ rfl (H.box rfl (by first | (go_simp; done) | (go_simp; rfl)) rfl) ?_; rintro _ w1 ⟨g3, rfl, H1⟩; (try simp only [Value.cells] at H1); replace H := H1; clear H1) | ((with_reducible refine gate_dst (N := 20) rfl ?_); refine Kd.event_run rfl (H.loadN 48 (.tmp 3) rfl rfl (by repeat (first | exact Pick.here _ | apply Pick.there)) #[.bool false, .bool c1, .bool c2, .int .u64 r, .int .u32 co, .int .u64 br, .int .u16 po, .int .u16 q1, .int .u16 q2, .int .u16 q3, .int .u16 q4] Try.underlying48 rfl info48s (fun j u hj => by simpa using hj)) ?_) | ((with_reducible refine gate_dst (N := 8) rfl ?_); refine ev_ rfl (H.new (cs := #[.bool false, .bool false, .bool false, .int .u64 0, .int .u32 0, .int .u64 0, .int .u16 0, .int .u16 0, .int .u16 0, .int .u16 0, .int .u16 0]) (t := 48) (by first | (go_simp; done) | (go_simp; rfl))) ?_; rintro _ w1 ⟨g8, rfl, H1⟩; replace H := H1; clear H1) | ((with_reducible refine gate_store (p := 8) rfl ?_); refine ev_ rfl (H.store 48 (.tmp 8) (.tmp 29) rfl rfl (by repeat (first | exact Pick.here _ | apply Pick.there)) (by first | (go_simp; done) | (go_simp; rfl)) _ rfl info48s (by simp [Value.oneCell', Value.cells]) (by simp [Value.cells]) rfl) ?_; rintro _ w1 ⟨rfl, H1⟩; (try simp only [putsAt, Value.cells, List.setIfInBounds_toArray, List.set_cons_zero, List.set_cons_succ, List.toList_toArray] at H1); replace H := H1; clear H1) | ((with_reducible refine gate_dst (N := 10) rfl ?_); refine ev_ rfl (H.new (cs := #[.bool false, .bool false, .bool false, .int .u64 0, .int .u32 0, .int .u64 0, .int .u16 0, .int .u16 0, .int .u16 0, .int .u16 0, .int .u16 0]) (t := 48) (by first | (go_simp; done) | (go_simp; rfl))) ?_; rintro _ w1 ⟨g10, rfl, H1⟩; replace H := H1; clear H1) | ((with_reducible refine gate_store (p := 10) rfl ?_); refine ev_ rfl (H.store 48 (.tmp 10) (.tmp 40) rfl rfl (by repeat (first | exact Pick.here _ | apply Pick.there)) (by first | (go_simp; done) | (go_simp; rfl)) _ rfl info48s (by simp [Value.oneCell', Value.cells]) (by simp [Value.cells]) rfl) ?_; rintro _ w1 ⟨rfl, H1⟩; (try simp only [putsAt, Value.cells, List.setIfInBounds_toArray, List.set_cons_zero, List.set_cons_succ, List.toList_toArray] at H1); replace H := H1; clear H1) | ((with_reducible refine gate_dst (N := 45) rfl ?_); refine Kd.event_run rfl (H.load1 4 (.tmp 44) rfl rfl (by repeat (first | exact Pick.here _ | apply Pick.there)) Try.underlying4 rfl rfl) ?_) | ((with_reducible refine gate_dst (N := 49) rfl ?_); refine gate_guard (by rfl) ?_; dsimp only; refine Kd.event_run rfl (H.loadN 48 (.tmp 8) rfl rfl (by repeat (first | exact Pick.here _ | apply Pick.there)) #[.bool false, .bool false, .bool false, .int .u64 0, .int .u32 0, .int .u64 0, .int .u16 0, .int .u16 0, .int .u16 0, .int .u16 0, .int .u16 0] Try.underlying48 rfl info48s (fun j u hj => by simpa using hj)) ?_) | ((with_reducible refine gate_dst (N := 59) rfl ?_); refine Kd.event_run rfl (H.load1 45 (.tmp 58) rfl rfl (by repeat (first | exact Pick.here _ | apply Pick.there)) Try.underlying45 rfl rfl) ?_) | ((with_reducible refine gate_dst (N := 64) rfl ?_); refine gate_guard (by rfl) ?_; dsimp only; refine Kd.event_run rfl (H.loadN 48 (.tmp 8) rfl rfl (by repeat (first | exact Pick.here _ | apply Pick.there)) #[.bool false, .bool false, .bool false, .int .u64 0, .int .u32 0, .int .u64 0, .int .u16 0, .int .u16 0, .int .u16 0, .int .u16 0, .int .u16 0] Try.underlying48 rfl info48s (fun j u hj => by simpa using hj)) ?_) | ((with_reducible refine gate_dst (N := 69) rfl ?_); refine Kd.event_run rfl (H.load1 24 (.tmp 68) rfl rfl (by repeat (first | exact Pick.here _ | apply Pick.there)) Try.underlying24 rfl rfl) ?_) | ((with_reducible refine gate_dst (N := 71) rfl ?_); refine Kd.event_run rfl (H.load1 24 (.tmp 70) rfl rfl (by repeat (first | exact Pick.here _ | apply Pick.there)) Try.underlying24 rfl rfl) ?_) | ((with_reducible refine gate_dst (N := 76) rfl ?_); refine gate_guard (by rfl) ?_; dsimp only; refine Kd.event_run rfl (H.loadN 48 (.tmp 8) rfl rfl (by repeat (first | exact Pick.here _ | apply Pick.there)) #[.bool false, .bool false, .bool false, .int .u64 0, .int .u32 0, .int .u64 0, .int .u16 0, .int .u16 0, .int .u16 0, .int .u16 0, .int .u16 0] Try.underlying48 rfl info48s (fun j u hj => by simpa using hj)) ?_) | ((with_reducible refine gate_dst (N := 83) rfl ?_); refine gate_guard (by rfl) ?_; dsimp only; refine Kd.event_run rfl (H.loadN 48 (.tmp 8) rfl rfl (by repeat (first | exact Pick.here _ | apply Pick.there)) #[.bool false, .bool false, .bool false, .int .u64 0, .int .u32 0, .int .u64 0, .int .u16 0, .int .u16 0, .int .u16 0, .int .u16 0, .int .u16 0] Try.underlying48 rfl info48s (fun j u hj => by simpa using hj)) ?_) | ((with_reducible refine gate_dst (N := 84) rfl ?_); refine gate_guard (by rfl) ?_; dsimp only; refine Kd.event_run rfl (H.loadN 48 (.tmp 3) rfl rfl (by repeat (first | exact Pick.here _ | apply Pick.there)) #[.bool false, .bool c1, .bool c2, .int .u64 r, .int .u32 co, .int .u64 br, .int .u16 po, .int .u16 q1, .int .u16 q2, .int .u16 q3, .int .u16 q4] Try.underlying48 rfl info48s (fun j u hj => by simpa using hj)) ?_))
  go_ret
  exact ⟨rfl, H.below⟩

set_option maxHeartbeats 1000000 in
set_option maxRecDepth 100000 in
theorem Back_ok (w : World) (c1 c2 : Bool) (r co br po q1 q2 q3 q4 : Int) (r0 : 0 ≤ r ∧ r < 18446744073709551616) (co0 : 0 ≤ co ∧ co < 4294967296) (br0 : 0 ≤ br ∧ br < 18446744073709551616) (po0 : 0 ≤ po ∧ po < 65536) (q10 : 0 ≤ q1 ∧ q1 < 65536) (q20 : 0 ≤ q2 ∧ q2 < 65536) (q30 : 0 ≤ q3 ∧ q3 < 65536) (q40 : 0 ≤ q4 ∧ q4 < 65536) (A1 : Option Addr) (n1 c1' : Nat) (more : List Int) (cu : Int) (hm : (Kd.int .u8).C w A1 n1 more) (hn1 : n1 ≤ 2000) (hmb : ∀ y ∈ more, 0 ≤ y ∧ y ≤ 255) (cu0 : 0 ≤ cu ∧ cu < 256) (h : co < 2147483648) (h3 : q1 < q2) :
    Calls Try.prog 10 #[.agg #[.bool false, .bool c1, .bool c2, .int .u64 r, .int .u32 co, .int .u64 br, .int .u16 po, .int .u16 q1, .int .u16 q2, .int .u16 q3, .int .u16 q4], .slice A1 n1 c1', .int .u8 cu] w (fun e w' => e = .returned (.bool true) ∧ Below w.heap.size w w') := by
  have H := Hp.nothing w
  have hml : more.length = n1 := hm.1
  obtain ⟨l, hl⟩ : ∃ l, (confB c1 c2 r co br po q1 q2 q3 q4) = l := ⟨_, rfl⟩
  have hby : ∀ y ∈ l, 0 ≤ y ∧ y ≤ 255 := by rw [← hl]; exact confB_bytes _ _ _ _ _ _ _ _ _ _
  have hn : l.length = 35 := by rw [← hl]; first | decide | (rw [confB_length])
  have hg : getB (l ++ more) = ((false, c1, c2, r, co, br, po, q1, q2, q3, q4), 0) := by rw [← hl]; rw [get_conf c1 c2 r co br po q1 q2 q3 q4 r0 co0 br0 po0 q10 q20 q30 q40 more, if_neg (by omega), if_neg (by omega)]
  have hfr : ∀ k, k < 35 → getB (l.take k) = (zM, 2) := fun k hk => by rw [← hl]; exact get_front c1 c2 r co br po q1 q2 q3 q4 k hk
  have k1 : decide (2147483648 ≤ co) = false := decide_eq_false (by omega)
  have k2 : decide (q2 ≤ q1) = false := decide_eq_false (by omega)
  replace h := Aside0.mk h
  replace h3 := Aside0.mk h3
  obtain ⟨L1, hL1⟩ : ∃ L1, l ++ more = L1 := ⟨_, rfl⟩
  have hb1 : ∀ y ∈ L1, 0 ≤ y ∧ y ≤ 255 := by
    intro y hy
    rw [← hL1] at hy
    rcases List.mem_append.1 hy with hy | hy
    · exact hby y hy
    · exact hmb y hy
  have hlen1 : L1.length = 35 + n1 := by rw [← hL1, List.length_append, hn, hml]
  obtain ⟨N1, hN1⟩ : ∃ N1, 35 + n1 = N1 := ⟨_, rfl⟩
  rw [hN1] at hlen1
  rw [hL1] at hg
  have kw1 : IntKind.i64.wrap cu = cu := by rw [IntKind.wrap_i64]; omega
  have kw4 : wrap64 cu = cu := by unfold wrap64; omega
  obtain ⟨k, hkl, hk, hk2⟩ := mod_nat cu cu0.1 35 (by decide)
  obtain ⟨kw2, kw3⟩ := small_w k (Nat.lt_trans hkl (by decide))
  clear hk
  replace hk2 := Aside0.mk hk2
  have hf := hfr k hkl
  have dn : decide (2000 < n1) = false := decide_eq_false (by omega)
  have dnI : decide ((2000 : Int) < (n1 : Int)) = false := decide_eq_false (by omega)
  have hbf : ∀ y ∈ l.take k, 0 ≤ y ∧ y ≤ 255 := fun y hy => hby y (List.mem_of_mem_take hy)
  have hNb : N1 ≤ 2035 := by omega
  clear hfr
  replace hN1 := Aside0.mk hN1
  replace hlen1 := Aside0.mk hlen1
  replace hNb := Aside0.mk hNb
  replace hL1 := Aside0.mk hL1
  replace hl := Aside0.mk hl
  replace hn := Aside0.mk hn
  replace hml := Aside0.mk hml
  replace hm := Aside0.mk hm
  replace hby := Aside0.mk hby
  replace hb1 := Aside0.mk hb1
  replace hbf := Aside0.mk hbf
  replace hmb := Aside0.mk hmb
  replace hg := Aside0.mk hg
  replace hf := Aside0.mk hf
  replace hn1 := Aside0.mk hn1
  go_enter Try.func10, Try.ntmps10
  go_wp2_with (first | (go_at_call 23; refine H.call1 (awake_calls _) ?_; intro w1 H1; replace H := H1; clear H1) | (go_at_call 24; refine H.call0 (BPut_conf _ c1 c2 r co br po q1 q2 q3 q4 r0 co0 br0 po0 q10 q20 q30 q40) ?_; rintro v l1 w1 hv H1; subst hv; rw [hl.out] at H1; obtain ⟨A5, c5, rfl, hc5, H2⟩ := named H1 35 hn.out; replace hc5 := Aside0.mk hc5; replace H := H2; clear H1 H2) | ((with_reducible refine gate_dst (N := 23) rfl ?_); refine ev_ rfl (H.lit (cs := #[]) (e := 5) (n := 0) (by first | (go_simp; done) | (go_simp; rfl))) ?_; rintro v w1 ⟨g0, rfl, H1⟩; replace H := Hp.blk_row (d := Kd.int .u8) (n := 0) ([] : List Int) H1 (.cons (.here _) (.nil _)) (fun _ _ => Reps.none _ _) rfl (by decide); clear H1) | ((with_reducible refine gate_dst (N := 25) rfl ?_); refine ev_ rfl (H.appendS (.tmp 23) (.tmp 24) 25 (.int .u8 0) 1 rfl rfl (.here _) Try.underlying25 info5 rfl (by decide) rfl (H.readsN (xs := l) (by repeat (first | exact Pick.here _ | apply Pick.there))) (by simp)) ?_; rintro v6 w6 H6; simp only [List.nil_append] at H6; obtain ⟨A6, c6, rfl, hc6, H7⟩ := named H6 35 hn.out; replace hc6 := Aside0.mk hc6; replace H := H7; clear H6 H7) | ((with_reducible refine gate_dst (N := 27) rfl ?_); refine ev_ rfl (H.appendS (.tmp 25) (.tmp 26) 25 (.int .u8 0) 1 rfl rfl (.here _) Try.underlying25 info5 rfl (by decide) rfl (H.data hm.out) (by rw [hn.out]; exact Nat.le_trans (Nat.mul_le_mul_right 1 (Nat.add_le_add_left hn1.out _)) (by decide))) ?_; rintro v6 w6 H6; rw [hL1.out] at H6; obtain ⟨A7, c7, rfl, hc7, H7⟩ := named H6 N1 hlen1.out; replace hc7 := Aside0.mk hc7; replace H := H7; clear H6 H7) | (have tk := T1; clear tk; go_at_call 26; refine H.call0 (Get_all _ A5 k c5 (l.take k) (C_front (H.readsN (xs := l) (by repeat (first | exact Pick.here _ | apply Pick.there))) k (Nat.le_of_lt hkl)) (Nat.le_trans (Nat.le_of_lt hkl) hc5.out) (Nat.le_trans (Nat.le_of_lt hkl) (by decide)) hbf.out) ?_; rintro v l1 w1 ⟨hv, rfl⟩ H1; rw [hf.out] at hv; dsimp only [zM] at hv; subst hv; replace H := H1; clear H1) | (go_at_call 26; refine H.call0 (Get_all _ A7 N1 c7 L1 (H.readsN (xs := L1) (by repeat (first | exact Pick.here _ | apply Pick.there))) hc7.out (Nat.le_trans hNb.out (by decide)) hb1.out) ?_; rintro v l1 w1 ⟨hv, rfl⟩ H1; rw [hg.out] at hv; dsimp only at hv; subst hv; replace H := H1; clear H1; have T1 : True := trivial) | ((with_reducible refine gate_dst (N := 37) rfl ?_); refine Kd.event_run rfl (v := .int .i64 (k : Int)) (w1 := _) (run_rem rfl rfl rfl (by decide) hk2.out kw2) ?_) | ((with_reducible refine gate_dst (N := 38) rfl ?_); refine Kd.event_run rfl (v := .slice A5 k c5) (w1 := _) (run_cut3 (t := 25) (e := 5) (j := k) rfl rfl rfl Try.underlying25 Wire.info5s (Nat.le_of_lt hkl) hc5.out _) ?_) | ((with_reducible refine gate_dst (N := 3) rfl ?_); refine ev_ rfl (H.box rfl (by first | (go_simp; done) | (go_simp; rfl)) rfl) ?_; rintro _ w1 ⟨g3, rfl, H1⟩; (try simp only [Value.cells] at H1); replace H := H1; clear H1) | ((with_reducible refine gate_dst (N := 20) rfl ?_); refine Kd.event_run rfl (H.loadN 48 (.tmp 3) rfl rfl (by repeat (first | exact Pick.here _ | apply Pick.there)) #[.bool false, .bool c1, .bool c2, .int .u64 r, .int .u32 co, .int .u64 br, .int .u16 po, .int .u16 q1, .int .u16 q2, .int .u16 q3, .int .u16 q4] Try.underlying48 rfl info48s (fun j u hj => by simpa using hj)) ?_) | ((with_reducible refine gate_dst (N := 8) rfl ?_); refine ev_ rfl (H.new (cs := #[.bool false, .bool false, .bool false, .int .u64 0, .int .u32 0, .int .u64 0, .int .u16 0, .int .u16 0, .int .u16 0, .int .u16 0, .int .u16 0]) (t := 48) (by first | (go_simp; done) | (go_simp; rfl))) ?_; rintro _ w1 ⟨g8, rfl, H1⟩; replace H := H1; clear H1) | ((with_reducible refine gate_store (p := 8) rfl ?_); refine ev_ rfl (H.store 48 (.tmp 8) (.tmp 29) rfl rfl (by repeat (first | exact Pick.here _ | apply Pick.there)) (by first | (go_simp; done) | (go_simp; rfl)) _ rfl info48s (by simp [Value.oneCell', Value.cells]) (by simp [Value.cells]) rfl) ?_; rintro _ w1 ⟨rfl, H1⟩; (try simp only [putsAt, Value.cells, List.setIfInBounds_toArray, List.set_cons_zero, List.set_cons_succ, List.toList_toArray] at H1); replace H := H1; clear H1) | ((with_reducible refine gate_dst (N := 10) rfl ?_); refine ev_ rfl (H.new (cs := #[.bool false, .bool false, .bool false, .int .u64 0, .int .u32 0, .int .u64 0, .int .u16 0, .int .u16 0, .int .u16 0, .int .u16 0, .int .u16 0]) (t := 48) (by first | (go_simp; done) | (go_simp; rfl))) ?_; rintro _ w1 ⟨g10, rfl, H1⟩; replace H := H1; clear H1) | ((with_reducible refine gate_store (p := 10) rfl ?_); refine ev_ rfl (H.store 48 (.tmp 10) (.tmp 40) rfl rfl (by repeat (first | exact Pick.here _ | apply Pick.there)) (by first | (go_simp; done) | (go_simp; rfl)) _ rfl info48s (by simp [Value.oneCell', Value.cells]) (by simp [Value.cells]) rfl) ?_; rintro _ w1 ⟨rfl, H1⟩; (try simp only [putsAt, Value.cells, List.setIfInBounds_toArray, List.set_cons_zero, List.set_cons_succ, List.toList_toArray] at H1); replace H := H1; clear H1) | ((with_reducible refine gate_dst (N := 45) rfl ?_); refine Kd.event_run rfl (H.load1 4 (.tmp 44) rfl rfl (by repeat (first | exact Pick.here _ | apply Pick.there)) Try.underlying4 rfl rfl) ?_) | ((with_reducible refine gate_dst (N := 49) rfl ?_); refine gate_guard (by rfl) ?_; dsimp only; refine Kd.event_run rfl (H.loadN 48 (.tmp 8) rfl rfl (by repeat (first | exact Pick.here _ | apply Pick.there)) #[.bool false, .bool c1, .bool c2, .int .u64 r, .int .u32 co, .int .u64 br, .int .u16 po, .int .u16 q1, .int .u16 q2, .int .u16 q3, .int .u16 q4] Try.underlying48 rfl info48s (fun j u hj => by simpa using hj)) ?_) | ((with_reducible refine gate_dst (N := 59) rfl ?_); refine Kd.event_run rfl (H.load1 45 (.tmp 58) rfl rfl (by repeat (first | exact Pick.here _ | apply Pick.there)) Try.underlying45 rfl rfl) ?_) | ((with_reducible refine gate_dst (N := 64) rfl ?_); refine gate_guard (by rfl) ?_; dsimp only; refine Kd.event_run rfl (H.loadN 48 (.tmp 8) rfl rfl (by repeat (first | exact Pick.here _ | apply Pick.there)) #[.bool false, .bool c1, .bool c2, .int .u64 r, .int .u32 co, .int .u64 br, .int .u16 po, .int .u16 q1, .int .u16 q2, .int .u16 q3, .int .u16 q4] Try.underlying48 rfl info48s (fun j u hj => by simpa using hj)) ?_) | ((with_reducible refine gate_dst (N := 69) rfl ?_); refine Kd.event_run rfl (H.load1 24 (.tmp 68) rfl rfl (by repeat (first | exact Pick.here _ | apply Pick.there)) Try.underlying24 rfl rfl) ?_) | ((with_reducible refine gate_dst (N := 71) rfl ?_); refine Kd.event_run rfl (H.load1 24 (.tmp 70) rfl rfl (by repeat (first | exact Pick.here _ | apply Pick.there)) Try.underlying24 rfl rfl) ?_) | ((with_reducible refine gate_dst (N := 76) rfl ?_); refine gate_guard (by rfl) ?_; dsimp only; refine Kd.event_run rfl (H.loadN 48 (.tmp 8) rfl rfl (by repeat (first | exact Pick.here _ | apply Pick.there)) #[.bool false, .bool c1, .bool c2, .int .u64 r, .int .u32 co, .int .u64 br, .int .u16 po, .int .u16 q1, .int .u16 q2, .int .u16 q3, .int .u16 q4] Try.underlying48 rfl info48s (fun j u hj => by simpa using hj)) ?_) | ((with_reducible refine gate_dst (N := 83) rfl ?_); refine gate_guard (by rfl) ?_; dsimp only; refine Kd.event_run rfl (H.loadN 48 (.tmp 8) rfl rfl (by repeat (first | exact Pick.here _ | apply Pick.there)) #[.bool false, .bool c1, .bool c2, .int .u64 r, .int .u32 co, .int .u64 br, .int .u16 po, .int .u16 q1, .int .u16 q2, .int .u16 q3, .int .u16 q4] Try.underlying48 rfl info48s (fun j u hj => by simpa using hj)) ?_) | ((with_reducible refine gate_dst (N := 84) rfl ?_); refine gate_guard (by rfl) ?_; dsimp only; refine Kd.event_run rfl (H.loadN 48 (.tmp 3) rfl rfl (by repeat (first | exact Pick.here _ | apply Pick.there)) #[.bool false, .bool c1, .bool c2, .int .u64 r, .int .u32 co, .int .u64 br, .int .u16 po, .int .u16 q1, .int .u16 q2, .int .u16 q3, .int .u16 q4] Try.underlying48 rfl info48s (fun j u hj => by simpa using hj)) ?_))
  go_ret
  exact ⟨rfl, H.below⟩

set_option maxHeartbeats 1000000 in
set_option maxRecDepth 100000 in
theorem Back_many (w : World) (v0 : Value) (A1 : Option Addr) (n1 c1' : Nat) (cu : Int) (t c1 c2 : Bool) (r co br po q1 q2 q3 q4 : Int) (hn : 2000 < n1) :
    Calls Try.prog 10 #[.agg #[.bool t, .bool c1, .bool c2, .int .u64 r, .int .u32 co, .int .u64 br, .int .u16 po, .int .u16 q1, .int .u16 q2, .int .u16 q3, .int .u16 q4], .slice A1 n1 c1', .int .u8 cu] w (fun e w' => e = .returned (.bool true) ∧ Below w.heap.size w w') := by
  have H := Hp.nothing w
  have d1 : decide (2000 < n1) = true := decide_eq_true hn
  have d2 : decide ((2000 : Int) < (n1 : Int)) = true := decide_eq_true (by omega)
  clear hn
  go_enter Try.func10, Try.ntmps10
  go_wp2_with (first | ((with_reducible refine gate_dst (N := 3) rfl ?_); refine ev_ rfl (H.box rfl (by first | (go_simp; done) | (go_simp; rfl)) rfl) ?_; rintro _ w1 ⟨g3, rfl, H1⟩; (try simp only [Value.cells] at H1); replace H := H1; clear H1) | (go_at_call 23; refine H.call1 (awake_calls _) ?_; intro w1 H1; replace H := H1; clear H1))
  go_ret
  exact ⟨rfl, H.below⟩
theorem BpduBack (W : World) (x : Bool × Bool × Bool × Int × Int × Int × Int × Int × Int × Int × Int) (l : List Int) (cu : Int) (w0 : True ∧ True ∧ True ∧ (Lit.int .u64 x.2.2.2.1).wf = true ∧ (Lit.int .u32 x.2.2.2.2.1).wf = true ∧ (Lit.int .u64 x.2.2.2.2.2.1).wf = true ∧ (Lit.int .u16 x.2.2.2.2.2.2.1).wf = true ∧ (Lit.int .u16 x.2.2.2.2.2.2.2.1).wf = true ∧ (Lit.int .u16 x.2.2.2.2.2.2.2.2.1).wf = true ∧ (Lit.int .u16 x.2.2.2.2.2.2.2.2.2.1).wf = true ∧ (Lit.int .u16 x.2.2.2.2.2.2.2.2.2.2).wf = true) (w9 : ∀ y ∈ l, (Lit.int .u8 y).wf = true) (w10 : (Lit.int .u8 cu).wf = true) {A : Option Addr} {c : Nat} (hC : (Kd.int .u8).C W A l.length l) (hc : l.length ≤ c) :
    Calls Try.prog 10 #[.agg #[.bool x.1, .bool x.2.1, .bool x.2.2.1, .int .u64 x.2.2.2.1, .int .u32 x.2.2.2.2.1, .int .u64 x.2.2.2.2.2.1, .int .u16 x.2.2.2.2.2.2.1, .int .u16 x.2.2.2.2.2.2.2.1, .int .u16 x.2.2.2.2.2.2.2.2.1, .int .u16 x.2.2.2.2.2.2.2.2.2.1, .int .u16 x.2.2.2.2.2.2.2.2.2.2], .slice A l.length c, .int .u8 cu] W (fun e w' => e = .returned (.bool true) ∧ Below W.heap.size W w') := by
  obtain ⟨t, c1, c2, r, co, br, po, q1, q2, q3, q4⟩ := x
  obtain ⟨-, -, -, w1, w2, w3, w4, w5, w6, w7, w8⟩ := w0
  dsimp only at *
  have r0 := Ar.wf_u64 w1
  have co0 := Ar.wf_u32 w2
  have br0 := Ar.wf_u64 w3
  have po0 := Ar.wf_u16 w4
  have q10 := Ar.wf_u16 w5
  have q20 := Ar.wf_u16 w6
  have q30 := Ar.wf_u16 w7
  have q40 := Ar.wf_u16 w8
  have cu0 := Ar.wf_u8 w10
  have hb : ∀ y ∈ l, 0 ≤ y ∧ y ≤ 255 := fun y hy => by have := Ar.wf_u8 (w9 y hy); omega
  by_cases hl : l.length ≤ 2000
  · cases t
    · by_cases h : 2147483648 ≤ co
      · exact Back_far W c1 c2 r co br po q1 q2 q3 q4 r0 co0 br0 po0 q10 q20 q30 q40 A _ c l cu hC hl hb cu0 h
      · by_cases h3 : q2 ≤ q1
        · exact Back_old W c1 c2 r co br po q1 q2 q3 q4 r0 co0 br0 po0 q10 q20 q30 q40 A _ c l cu hC hl hb cu0 (by omega) h3
        · exact Back_ok W c1 c2 r co br po q1 q2 q3 q4 r0 co0 br0 po0 q10 q20 q30 q40 A _ c l cu hC hl hb cu0 (by omega) (by omega)
    · exact Back_tc W c1 c2 r co br po q1 q2 q3 q4 r0 co0 br0 po0 q10 q20 q30 q40 A _ c l cu hC hl hb cu0
  · exact Back_many W undef A _ c cu t c1 c2 r co br po q1 q2 q3 q4 (by omega)

end Go.Proofs.Ytdmlpcbmmdddbaa.Pure
