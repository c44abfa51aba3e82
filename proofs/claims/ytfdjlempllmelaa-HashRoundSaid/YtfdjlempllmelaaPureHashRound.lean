/- The law HashRound over what its functions come to: an array of 501 bools, walked by hand. -/
import Derived.Test.YtfdjlempllmelaaSep
import Derived.Test.YtfdjlempllmelaaAr
import Derived.Test.YtfdjlempllmelaaPHashRoundx1
namespace Go.Proofs.Ytfdjlempllmelaa.Pure
open Go.RowKit Go.Proofs.YtfdjlempllmelaaW.PrintWords Go.Proofs.YtfdjlempllmelaaW.PrintLast Go.Proofs.YtfdjlempllmelaaW.PrintMore
set_option linter.unusedVariables false
set_option linter.unusedSimpArgs false
open Go.Proofs.Ytfdjlempllmelaa.Sep Go.Proofs.Ytfdjlempllmelaa
theorem info4s : (Try.prog.info? 4).map (·.size) = some 1 := by kernel_rfl
theorem aw : PHashRound.treelinelaw06_awake.f = some true := by kernel_rfl
theorem awake_b (w : World) : Calls Try.prog 15 #[] w (fun e w' => e = .returned (.bool true) ∧ Below w.heap.size w w') := (PHashRound.treelinelaw06_awake.calls true w aw).mono fun e w' h => ⟨h.1, h.2.below⟩
theorem next_f (p K : Nat) (hK : 1 ≤ K) (hk : K ≤ 500) (hp : p < K) : PHashRound.hash_Next.f (p : Int) (K : Int) = some ((((p + 1) % K : Nat)) : Int) := by
  unfold PHashRound.hash_Next.f
  rw [if_neg (by omega), if_neg (by omega), Ar.w64 (by omega) (by omega)]
  by_cases h : p + 1 = K
  · rw [if_pos (by omega), h, Nat.mod_self]
    rfl
  · rw [if_neg (by omega), Ar.w64 (by omega) (by omega), Nat.mod_eq_of_lt (by omega)]
    rfl
theorem next_b (w : World) (p K : Nat) (hK : 1 ≤ K) (hk : K ≤ 500) (hp : p < K) (q : Nat) (hq : (p + 1) % K = q) : Calls Try.prog 18 #[.int .i64 (p : Int), .int .i64 (K : Int)] w fun e w' => e = .returned (.int .i64 (q : Int)) ∧ Below w.heap.size w w' :=
  (PHashRound.hash_Next.calls _ _ _ w ((next_f p K hK hk hp).trans (by rw [hq]))).mono fun e w' h => ⟨h.1, h.2.below⟩
theorem run_rem {P : Program} {o : Oper} {a : Act} {W : World} {x y : Operand} {t t2 : TypeId} (ho : o.op = .binOp .rem t x y t2) {k : IntKind} {n m q : Int} (hx : a.eval x = .int k n) (hy : a.eval y = .int k m) (hm : m ≠ 0) (hk : Int.tmod n m = q) :
    (execOp a.eval o).run P W = .ok (.value (.int k q)) W := by
  unfold execOp
  simp only [ho, hx, hy]
  simp [eqGuard, binOp, Op.intDiv, Sem.run_bind, Result.andThen, hm, hk]
theorem mod_nat (x : Int) (h : 0 ≤ x) (m : Nat) (hm : 0 < m) : ∃ k : Nat, k < m ∧ Int.tmod x (m : Int) = (k : Int) := by
  have h1 := Int.emod_nonneg x (show (m : Int) ≠ 0 by omega)
  have h2 := Int.emod_lt_of_pos x (show (0 : Int) < (m : Int) by omega)
  obtain ⟨k, hk⟩ := Int.eq_ofNat_of_zero_le h1
  refine ⟨k, by omega, ?_⟩
  rw [Int.tmod_eq_emod_of_nonneg h]
  exact hk
/-- The places that were met: those that are fewer than i steps from A. -/
def Met (A K i : Nat) (cs : Array Value) : Prop := cs.size = 501 ∧ ∀ j, j < K → cs.toList[j]? = some (.bool (decide ((j + K - A) % K < i)))
theorem off_at {A K i : Nat} (hA : A < K) (hi : i < K) : ((A + i) % K + K - A) % K = i := by
  by_cases h : A + i < K
  · rw [Nat.mod_eq_of_lt h, show A + i + K - A = i + K by omega, Nat.add_mod_right, Nat.mod_eq_of_lt hi]
  · rw [show (A + i) % K = A + i - K by rw [Nat.mod_eq_sub_mod (by omega), Nat.mod_eq_of_lt (by omega)], show A + i - K + K - A = i by omega, Nat.mod_eq_of_lt hi]
theorem off_inj {A K j : Nat} (hA : A < K) (hj : j < K) : (A + (j + K - A) % K) % K = j := by
  by_cases h : A ≤ j
  · rw [show j + K - A = (j - A) + K by omega, Nat.add_mod_right, Nat.mod_eq_of_lt (show j - A < K by omega), show A + (j - A) = j by omega, Nat.mod_eq_of_lt hj]
  · rw [Nat.mod_eq_of_lt (show j + K - A < K by omega), show A + (j + K - A) = j + K by omega, Nat.add_mod_right, Nat.mod_eq_of_lt hj]
theorem Met.start (A K : Nat) (hK : K ≤ 500) : Met A K 0 (Array.replicate 501 (.bool false)) := by
  refine ⟨by simp, fun j hj => ?_⟩
  simp only [Nat.not_lt_zero, decide_false]
  rw [Array.toList_replicate, List.getElem?_replicate, if_pos (by omega)]
theorem Met.step {A K i p : Nat} {cs : Array Value} (h : Met A K i cs) (hA : A < K) (hi : i < K) (hp : p = (A + i) % K) (hpl : p < 501) : Met A K (i + 1) (cs.setIfInBounds p (.bool true)) := by
  refine ⟨by simpa using h.1, fun j hj => ?_⟩
  rw [Array.toList_setIfInBounds, List.getElem?_set]
  by_cases e : p = j
  · rw [if_pos e, if_pos (by have := h.1; simpa [this] using (show p < 501 from hpl))]
    have : (j + K - A) % K < i + 1 := by rw [← e, hp, off_at hA hi]; omega
    rw [decide_eq_true this]
  · rw [if_neg e, h.2 j hj]
    congr 2
    have hne : (j + K - A) % K ≠ i := fun he => e (by rw [hp, ← he, off_inj hA hj])
    by_cases hlt : (j + K - A) % K < i
    · rw [decide_eq_true hlt, decide_eq_true (show (j + K - A) % K < i + 1 by omega)]
    · rw [decide_eq_false hlt, decide_eq_false (show ¬ (j + K - A) % K < i + 1 by omega)]
theorem Met.at_ {A K i p : Nat} {cs : Array Value} (h : Met A K i cs) (hA : A < K) (hi : i < K) (hp : p = (A + i) % K) (hpl : p < K) : cs.toList[p]? = some (.bool false) := by
  rw [h.2 p hpl, hp, off_at hA hi, decide_eq_false (Nat.lt_irrefl _)]
theorem next_at {A K i p : Nat} (hp : p = (A + i) % K) : (p + 1) % K = (A + (i + 1)) % K := by rw [hp, Nat.mod_add_mod]; rfl
theorem last_at {A K : Nat} (hA : A < K) : (A + K) % K = A := by rw [Nat.add_mod_right, Nat.mod_eq_of_lt hA]

set_option maxHeartbeats 1000000 in
set_option maxRecDepth 100000 in
theorem HashRound (w : World) (n fr : Int) (w0 : (Lit.int .u16 n).wf = true) (w1 : (Lit.int .u16 fr).wf = true) : Calls Try.prog 4 #[.int .u16 n, .int .u16 fr] w (fun e w' => e = .returned (.bool true) ∧ Below w.heap.size w w') := by
  have H := Hp.nothing w
  have n0 := (Ar.wf_u16 w0).1
  have n1 := (Ar.wf_u16 w0).2
  have f0 := (Ar.wf_u16 w1).1
  have f1 := (Ar.wf_u16 w1).2
  have kn : IntKind.i64.wrap n = n := by rw [IntKind.wrap_i64]; omega
  have kn2 : wrap64 n = n := by unfold wrap64; omega
  have kf : IntKind.i64.wrap fr = fr := by rw [IntKind.wrap_i64]; omega
  have kf2 : wrap64 fr = fr := by unfold wrap64; omega
  obtain ⟨m, hm, hm2⟩ := mod_nat n n0 500 (by decide)
  obtain ⟨K, hK⟩ : ∃ K : Nat, K = 1 + m := ⟨_, rfl⟩
  have hK1 : 1 ≤ K := by omega
  have hK2 : K ≤ 500 := by omega
  have ka : (1 : Int) + (m : Int) = (K : Int) := by omega
  have kb : wrap64 ((1 : Int) + (m : Int)) = (K : Int) := by rw [ka]; unfold wrap64; omega
  have kc : IntKind.i64.wrap ((1 : Int) + (m : Int)) = (K : Int) := by rw [ka, IntKind.wrap_i64]; omega
  obtain ⟨A, hA, hA2⟩ := mod_nat fr f0 K (by omega)
  have hK0 : (K : Int) ≠ 0 := by omega
  clear n0 n1 f0 f1 w0 w1
  replace hm := Aside0.mk hm
  replace hm2 := Aside0.mk hm2
  replace hA2 := Aside0.mk hA2
  replace hK := Aside0.mk hK
  replace hK0 := Aside0.mk hK0
  go_enter Try.func4, Try.ntmps4
  go_wp2_with (first | (go_at_call 15; refine H.call1 (awake_b _) ?_; intro w1 H1; replace H := H1; clear H1) | ((with_reducible refine gate_dst (N := 13) rfl ?_); refine Kd.event_run rfl (w1 := _) (run_rem rfl rfl rfl (by decide) hm2.out) ?_) | ((with_reducible refine gate_dst (N := 18) rfl ?_); refine Kd.event_run rfl (w1 := _) (run_rem rfl rfl rfl hK0.out hA2.out) ?_) | ((with_reducible refine gate_dst (N := 7) rfl ?_); refine ev_ rfl (H.new (cs := Array.replicate 501 (.bool false)) (t := 27) (by first | (go_simp; done) | (go_simp; rfl))) ?_; rintro _ w1 ⟨g7, rfl, H1⟩; replace H := H1; clear H1))
  replace H := Aside0.mk H
  go_loopw [6, 8] (fun v6 v8 wr => ∃ (i p : Nat) (cs : Array Value), i ≤ K ∧ v8 = .int .i64 (i : Int) ∧ v6 = .int .i64 (p : Int) ∧ p < K ∧ Aside0 (p = (A + i) % K) ∧ Aside0 (Met A K i cs) ∧ Aside0 (Hp (fun _ => False) w wr [blk g7 cs 27])) (fun _ v8 _ => 501 - (intOf v8).toNat)
  case atStart => exact ⟨0, A, _, Nat.zero_le _, rfl, rfl, hA, ⟨(Nat.mod_eq_of_lt hA).symm⟩, ⟨Met.start A K hK2⟩, ⟨H.out.take (.cons (by repeat (first | exact Pick.here _ | apply Pick.there)) (.nil _))⟩⟩
  case round =>
    obtain ⟨i, p, cs, hi, rfl, rfl, hp, hpe, hmet, H⟩ := hrel
    by_cases hlt : i < K
    · have d1 : decide (i < K) = true := decide_eq_true hlt
      have d2 : decide ((i : Int) < (K : Int)) = true := decide_eq_true (by omega)
      have d3 : decide ((p : Int) < 0) = false := decide_eq_false (by omega)
      have d4 : decide (K ≤ p) = false := decide_eq_false (by omega)
      have d5 : decide ((K : Int) ≤ (p : Int)) = false := decide_eq_false (by omega)
      have l0 : p < 501 := by omega
      have l1 : (p : Int) < 501 := by omega
      have l2 : 0 ≤ (p : Int) := by omega
      have hcell := hmet.out.at_ hA hlt hpe.out hp
      have hmet2 := hmet.out.step hA hlt hpe.out l0
      have hsz : cs.size = 501 := hmet.out.1
      obtain ⟨q, hq⟩ : ∃ q, (p + 1) % K = q := ⟨_, rfl⟩
      have hqK : q < K := by rw [← hq]; exact Nat.mod_lt _ (by omega)
      have hqe := hq.symm.trans (next_at hpe.out)
      replace hcell := Aside0.mk hcell
      replace hmet2 := Aside0.mk hmet2
      replace hsz := Aside0.mk hsz
      replace hq := Aside0.mk hq
      replace hqe := Aside0.mk hqe
      replace hqK := Aside0.mk hqK
      go_wp2_with (first | ((with_reducible refine gate_dst (N := 34) rfl ?_); refine gate_guard (by rfl) ?_; dsimp only; refine Kd.event_run rfl (H.out.load1 4 (.tmp 33) rfl rfl (.here _) Try.underlying4 rfl hcell.out) ?_) | ((with_reducible refine gate_store (p := 37) rfl ?_); refine ev_ rfl (H.out.store 4 (.tmp 37) (.const (.bool true)) rfl rfl (.here _) (v := .bool true) rfl #[.bool true] rfl info4s (by simp [Value.oneCell']) (by have := hsz.out; simp; omega) rfl) ?_; rintro _ w1 ⟨rfl, H1⟩; (try simp only [putsAt, Value.cells, List.setIfInBounds_toArray, List.set_cons_zero, List.set_cons_succ, List.toList_toArray] at H1); replace H := Aside0.mk H1; clear H1) | (go_at_call 18; refine H.out.call1 (next_b _ p K hK1 hK2 hp q hq.out) ?_; intro w1 H1; replace H := Aside0.mk H1; clear H1))
      go_roundw
      case rel => exact ⟨i + 1, q, _, by omega, by go_num, rfl, hqK.out, hqe, hmet2, H⟩
      case measure => simp [intOf] <;> omega
    · have hie : i = K := by omega
      subst hie
      have hpA : p = A := hpe.out.trans (last_at hA)
      subst hpA
      have d1 : decide (i < i) = false := decide_eq_false (Nat.lt_irrefl _)
      have d2 : decide ((i : Int) < (i : Int)) = false := decide_eq_false (by omega)
      go_wp2_with (first | ((with_reducible refine gate_dst (N := 45) rfl ?_); refine Kd.event_run rfl (w1 := _) (run_rem rfl rfl rfl hK0.out hA2.out) ?_))
      go_ret
      exact ⟨rfl, H.out.below⟩

end Go.Proofs.Ytfdjlempllmelaa.Pure
