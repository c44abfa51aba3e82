/- What functions that deal with frames of bridges come to. Walked by hand. -/
import Derived.Test.YtdmlpcbmmdddbaaDoorLlcR
import Derived.Test.YtdmlpcbmmdddbaaDoorOFrameOpensx2
import Derived.Test.YtdmlpcbmmdddbaaDoorAr
namespace Go.Proofs.YtdmlpcbmmdddbaaDoor.Pure
open Go.RowKit Go.Proofs.YtdmlpcbmmdddbaaDoorW.PrintWords Go.Proofs.YtdmlpcbmmdddbaaDoorW.PrintLast Go.Proofs.YtdmlpcbmmdddbaaDoorW.PrintMore
set_option linter.unusedVariables false
set_option linter.unusedSimpArgs false
open Go.Proofs.YtdmlpcbmmdddbaaDoor.Sep Go.Proofs.YtdmlpcbmmdddbaaDoor.Llc
theorem info27s : (Tryd.prog.info? 27).map (·.size) = some 4 := by kernel_rfl
open Go.Proofs.YtdmlpcbmmdddbaaDoor

def chk (a b kd n : Int) : Int := if a ≥ 281474976710656 ∨ b ≥ 281474976710656 then 1 else if n > 1500 then 4 else if kd > 1500 ∧ kd < 1536 then 3 else if kd ≤ 1500 ∧ kd ≠ n then 3 else 0
theorem check_eq (k : Nat) (a b kd : Int) (l : List Int) (h : 0 ≤ kd ∧ kd < 65536) : PFrameOpens.frame_Check.f (k + 2) a b kd l = some (chk a b kd (l.length : Int)) := by
  have e : wrap64 kd = kd := Ar.w64 (by omega) (by omega)
  have B : ∀ (c d : Bool), (some (if c = true then (1 : Int) else if d = true then 3 else 0)) = some (if c then 1 else if d then 3 else 0) := fun _ _ => rfl
  unfold PFrameOpens.frame_Check.f chk
  by_cases ha : a ≥ 281474976710656
  · rw [if_pos ha, if_pos (.inl ha)]
    simp only [PFrameOpens.frame_Check.j0, if_true]
  · rw [if_neg ha]
    by_cases hb : b ≥ 281474976710656
    · rw [decide_eq_true hb, if_pos (.inr hb)]
      simp only [PFrameOpens.frame_Check.j0, if_true]
    · rw [decide_eq_false hb, if_neg (by omega)]
      simp only [PFrameOpens.frame_Check.j0, Bool.false_eq_true, if_false]
      by_cases c : (l.length : Int) > 1500
      · rw [if_pos c, if_pos c]
      · rw [if_neg c, if_neg c]
        by_cases d : kd > 1500
        · rw [if_pos d]
          simp only [PFrameOpens.frame_Check.j1, e]
          by_cases f : kd < 1536
          · rw [decide_eq_true f, if_pos rfl, if_pos ⟨d, f⟩]
          · rw [decide_eq_false f]
            simp only [Bool.false_eq_true, if_false]
            repeat' split
            all_goals first | rfl | (exfalso; omega)
        · rw [if_neg d]
          simp only [PFrameOpens.frame_Check.j1, Bool.false_eq_true, if_false, e]
          repeat' split
          all_goals first | rfl | (exfalso; omega)

theorem aw : PFrameOpens.treelinelaw04_awake.f 20 = some true := by kernel_rfl
theorem run_remU {P : Program} {o : Oper} {a : Act} {W : World} {x y : Operand} {t t2 : TypeId} (ho : o.op = .binOp .rem t x y t2) {k : IntKind} {n m q : Int} (hx : a.eval x = .int k n) (hy : a.eval y = .int k m) (hm : m ≠ 0) (hk : Int.tmod n m = q) :
    (execOp a.eval o).run P W = .ok (.value (.int k q)) W := by
  unfold execOp
  simp only [ho, hx, hy]
  simp [eqGuard, binOp, Op.intDiv, Sem.run_bind, Result.andThen, hm, hk]
theorem rem_48 (x : Int) (h : 0 ≤ x) : ∃ y, Int.tmod x 281474976710656 = y ∧ 0 ≤ y ∧ y < 281474976710656 := ⟨x % 281474976710656, Int.tmod_eq_emod_of_nonneg h, by omega, by omega⟩

set_option maxHeartbeats 1000000 in
set_option maxRecDepth 100000 in
theorem Opens_yes (w : World) (a b q fr : Int) (A : Option Addr) (n c : Nat) (d : List Int) (A1 : Option Addr) (n1 c1 : Nat) (bb : List Int) (hG : Glob w) (hd : (Kd.int .u8).C w A n d) (hc : n ≤ c) (hb : (Kd.int .u8).C w A1 n1 bb) (hc1 : n1 ≤ c1) (fr0 : 0 ≤ fr) (hn : n ≤ 3000) (hn1 : n1 ≤ 1497) (hB : isB a q d = true) :
    Calls Tryd.prog 3 #[.agg #[.int .u64 a, .int .u64 b, .int .u16 q, .slice A n c], .int .u64 fr, .slice A1 n1 c1] w (fun e w' => e = .returned (.bool true) ∧ Below w.heap.size w w') := by
  have H := Hp.nothing w
  obtain rfl : bb.length = n1 := hb.1
  obtain ⟨O, hO⟩ : ∃ O, openL a q d = O := ⟨_, rfl⟩
  obtain ⟨L, hL⟩ : ∃ L, [66, 66, 3] ++ bb = L := ⟨_, rfl⟩
  have hLl : L.length = 3 + bb.length := by rw [← hL]; simp; omega
  have hB2 : isB 1652522221568 (L.length : Int) L = true := by
    unfold isB
    rw [decide_eq_true rfl, decide_eq_true (show (L.length : Int) ≤ 1500 by omega), ← hL]
    rfl
  have hO2 : openL 1652522221568 (L.length : Int) L = bb := by
    unfold openL
    rw [hB2, if_pos rfl, ← hL]
    rfl
  obtain ⟨x, hx, x0, x1⟩ := rem_48 fr fr0
  have hck : PFrameOpens.frame_Check.f 2 1652522221568 x (L.length : Int) L = some 0 := by
    rw [check_eq 0 1652522221568 x (L.length : Int) L (by omega)]
    unfold chk
    rw [if_neg (by omega), if_neg (by omega), if_neg (by omega), if_neg (by omega)]
  have d1 : decide (3000 < n) = false := decide_eq_false (by omega)
  have d1I : decide ((3000 : Int) < (n : Int)) = false := decide_eq_false (by omega)
  have d2 : decide (1497 < bb.length) = false := decide_eq_false (by omega)
  have d2I : decide ((1497 : Int) < (bb.length : Int)) = false := decide_eq_false (by omega)
  have hD : d.drop 3 = O := by rw [← hO]; unfold openL; rw [hB, if_pos rfl]
  have h3 : 3 ≤ n := by
    have hq := hB
    unfold isB at hq
    simp at hq
    have := congrArg List.length hq.2.2
    have hl := hd.1
    simp at this
    omega
  replace h3 := Aside0.mk h3
  replace hD := Aside0.mk hD
  have h3n : n ≤ 3000 := hn
  clear hn
  replace h3n := Aside0.mk h3n
  replace hLl := Aside0.mk hLl
  replace hn1 := Aside0.mk hn1
  replace hG := Aside0.mk hG
  replace hd := Aside0.mk hd
  replace hc := Aside0.mk hc
  replace hb := Aside0.mk hb
  replace hc1 := Aside0.mk hc1
  replace hO := Aside0.mk hO
  replace hL := Aside0.mk hL
  replace hB2 := Aside0.mk hB2
  replace hO2 := Aside0.mk hO2
  replace hx := Aside0.mk hx
  replace hck := Aside0.mk hck
  replace hB := Aside0.mk hB
  clear x0 x1 fr0
  go_enter Tryd.func3, Tryd.ntmps3
  go_wp2_with (first | (go_at_call 4; refine H.call1 (PFrameOpens.treelinelaw04_awake.calls 20 true _ aw) ?_; intro w1 H1; replace H := H1; clear H1) | (have tk := T1; clear tk; go_at_call 5; refine H.call0 (Open_all _ 1652522221568 x (L.length : Int) A9 L.length c9 L (hG.out.hp H.only) (H.readsN (xs := L) (by repeat (first | exact Pick.here _ | apply Pick.there))) hc9.out (by have := hLl.out; have := hn1.out; omega)) ?_; rintro v l1 w1 ⟨bv, hv, hl1⟩ H1; rw [hB2.out] at hv; rw [hO2.out] at hl1; subst hv; subst hl1; obtain ⟨A13, c13, rfl, -, -⟩ := H1.reads (.here _); replace H := H1; clear H1) | (go_at_call 5; refine H.call0 (Open_all _ a b q A n c d (hG.out.hp H.only) (H.data hd.out) hc.out (by have := h3n.out; omega)) ?_; rintro v l1 w1 ⟨bv, hv, hl1⟩ H1; rw [hB.out] at hv; rw [hO.out] at hl1; subst hv; subst hl1; obtain ⟨A7, c7, rfl, -, -⟩ := H1.reads (.here _); replace H := H1; clear H1; have T1 : True := trivial) | (go_at_call 6; refine H.call0 (RefOpen_all _ a b q A n c d (H.data hd.out) hc.out) ?_; rintro v l1 w1 ⟨hv, rfl⟩ H1; rw [hB.out] at hv; simp only [if_true, Bool.false_eq_true, if_false] at hv; subst hv; replace H := H1; clear H1) | (go_at_call 7; refine H.call0 (Wrap_calls _ x A1 bb.length c1 bb (hG.out.hp H.only) (H.data hb.out) (by have := hn1.out; omega) L hL.out) ?_; rintro v l1 w1 ⟨A9, c9, rfl, rfl, hc9⟩ H1; replace hc9 := Aside0.mk hc9; replace H := H1; clear H1) | (go_at_call 8; refine H.call1 (PFrameOpens.frame_Check.calls 2 1652522221568 x (L.length : Int) A9 c9 L 0 _ (H.readsN (xs := L) (by repeat (first | exact Pick.here _ | apply Pick.there))) hc9.out hck.out) ?_; intro w1 H1; replace H := H1; clear H1) | ((with_reducible refine gate_dst (N := 45) rfl ?_); refine gate_guard (by rfl) ?_; dsimp only; refine Kd.event_run rfl (v := .string (strOfNums O)) (run_str rfl rfl Tryd.underlying25 Tryd.underlying5 Tryd.underlying9 (H.readsN (xs := O) (by repeat (first | exact Pick.here _ | apply Pick.there)))) ?_) | ((with_reducible refine gate_dst (N := 47) rfl ?_); refine gate_guard (by rfl) ?_; dsimp only; refine Kd.event_run rfl (v := .string (strOfNums O)) ((run_str rfl rfl Tryd.underlying25 Tryd.underlying5 Tryd.underlying9 (C_cutS (H.data hd.out) 3 h3.out hc.out)).trans (by rw [hD.out])) ?_) | ((with_reducible refine gate_dst (N := 63) rfl ?_); refine gate_guard (by rfl) ?_; dsimp only; refine Kd.event_run rfl (v := .string (strOfNums bb)) (run_str rfl rfl Tryd.underlying25 Tryd.underlying5 Tryd.underlying9 (H.readsN (xs := bb) (by repeat (first | exact Pick.here _ | apply Pick.there)))) ?_) | ((with_reducible refine gate_dst (N := 65) rfl ?_); refine gate_guard (by rfl) ?_; dsimp only; refine Kd.event_run rfl (v := .string (strOfNums bb)) (run_str rfl rfl Tryd.underlying25 Tryd.underlying5 Tryd.underlying9 (H.data hb.out)) ?_) | ((with_reducible refine gate_dst (N := 51) rfl ?_); refine Kd.event_run rfl (v := .int .u64 x) (w1 := _) (run_remU rfl rfl rfl (by decide) hx.out) ?_) | ((with_reducible refine gate_dst (N := 3) rfl ?_); refine ev_ rfl (H.box rfl (by first | (go_simp; done) | (go_simp; rfl)) rfl) ?_; rintro _ w1 ⟨g3, rfl, H1⟩; (try simp only [Value.cells] at H1); replace H := H1; clear H1) | ((with_reducible refine gate_dst (N := 19) rfl ?_); refine gate_guard (by rfl) ?_; dsimp only; refine Kd.event_run rfl (H.load1 25 (.tmp 18) rfl rfl (by repeat (first | exact Pick.here _ | apply Pick.there)) Tryd.underlying25 rfl rfl) ?_) | ((with_reducible refine gate_dst (N := 30) rfl ?_); refine Kd.event_run rfl (H.loadN 27 (.tmp 3) rfl rfl (by repeat (first | exact Pick.here _ | apply Pick.there)) #[.int .u64 a, .int .u64 b, .int .u16 q, .slice A n c] Tryd.underlying27 rfl info27s (fun j u hj => by simpa using hj)) ?_) | ((with_reducible refine gate_dst (N := 35) rfl ?_); refine Kd.event_run rfl (H.loadN 27 (.tmp 3) rfl rfl (by repeat (first | exact Pick.here _ | apply Pick.there)) #[.int .u64 a, .int .u64 b, .int .u16 q, .slice A n c] Tryd.underlying27 rfl info27s (fun j u hj => by simpa using hj)) ?_) | ((with_reducible refine gate_dst (N := 12) rfl ?_); refine ev_ rfl (H.new (cs := #[.int .u64 0, .int .u64 0, .int .u16 0, .slice none 0 0]) (t := 27) (by first | (go_simp; done) | (go_simp; rfl))) ?_; rintro _ w1 ⟨g12, rfl, H1⟩; replace H := H1; clear H1) | ((with_reducible refine gate_store (p := 12) rfl ?_); refine ev_ rfl (H.store 27 (.tmp 12) (.tmp 54) rfl rfl (by repeat (first | exact Pick.here _ | apply Pick.there)) (by first | (go_simp; done) | (go_simp; rfl)) _ rfl info27s (by simp [Value.oneCell', Value.cells]) (by simp [Value.cells]) rfl) ?_; rintro _ w1 ⟨rfl, H1⟩; (try simp only [putsAt, Value.cells, List.setIfInBounds_toArray, List.set_cons_zero, List.set_cons_succ, List.toList_toArray] at H1); replace H := H1; clear H1) | ((with_reducible refine gate_dst (N := 56) rfl ?_); refine Kd.event_run rfl (H.loadN 27 (.tmp 12) rfl rfl (by repeat (first | exact Pick.here _ | apply Pick.there)) #[.int .u64 1652522221568, .int .u64 x, .int .u16 (L.length : Int), .slice A9 L.length c9] Tryd.underlying27 rfl info27s (fun j u hj => by simpa using hj)) ?_) | ((with_reducible refine gate_dst (N := 70) rfl ?_); refine gate_guard (by rfl) ?_; dsimp only; refine Kd.event_run rfl (H.load1 23 (.tmp 69) rfl rfl (by repeat (first | exact Pick.here _ | apply Pick.there)) Tryd.underlying23 rfl rfl) ?_) | ((with_reducible refine gate_dst (N := 76) rfl ?_); refine gate_guard (by rfl) ?_; dsimp only; refine Kd.event_run rfl (H.load1 23 (.tmp 75) rfl rfl (by repeat (first | exact Pick.here _ | apply Pick.there)) Tryd.underlying23 rfl rfl) ?_) | ((with_reducible refine gate_dst (N := 80) rfl ?_); refine gate_guard (by rfl) ?_; dsimp only; refine Kd.event_run rfl (H.loadN 27 (.tmp 12) rfl rfl (by repeat (first | exact Pick.here _ | apply Pick.there)) #[.int .u64 1652522221568, .int .u64 x, .int .u16 (L.length : Int), .slice A9 L.length c9] Tryd.underlying27 rfl info27s (fun j u hj => by simpa using hj)) ?_))
  go_ret
  exact ⟨rfl, H.below⟩

set_option maxHeartbeats 1000000 in
set_option maxRecDepth 100000 in
theorem Opens_no (w : World) (a b q fr : Int) (A : Option Addr) (n c : Nat) (d : List Int) (A1 : Option Addr) (n1 c1 : Nat) (bb : List Int) (hG : Glob w) (hd : (Kd.int .u8).C w A n d) (hc : n ≤ c) (hb : (Kd.int .u8).C w A1 n1 bb) (hc1 : n1 ≤ c1) (fr0 : 0 ≤ fr) (hn : n ≤ 3000) (hn1 : n1 ≤ 1497) (hB : isB a q d = false) :
    Calls Tryd.prog 3 #[.agg #[.int .u64 a, .int .u64 b, .int .u16 q, .slice A n c], .int .u64 fr, .slice A1 n1 c1] w (fun e w' => e = .returned (.bool true) ∧ Below w.heap.size w w') := by
  have H := Hp.nothing w
  obtain rfl : bb.length = n1 := hb.1
  obtain ⟨O, hO⟩ : ∃ O, openL a q d = O := ⟨_, rfl⟩
  obtain ⟨L, hL⟩ : ∃ L, [66, 66, 3] ++ bb = L := ⟨_, rfl⟩
  have hLl : L.length = 3 + bb.length := by rw [← hL]; simp; omega
  have hB2 : isB 1652522221568 (L.length : Int) L = true := by
    unfold isB
    rw [decide_eq_true rfl, decide_eq_true (show (L.length : Int) ≤ 1500 by omega), ← hL]
    rfl
  have hO2 : openL 1652522221568 (L.length : Int) L = bb := by
    unfold openL
    rw [hB2, if_pos rfl, ← hL]
    rfl
  obtain ⟨x, hx, x0, x1⟩ := rem_48 fr fr0
  have hck : PFrameOpens.frame_Check.f 2 1652522221568 x (L.length : Int) L = some 0 := by
    rw [check_eq 0 1652522221568 x (L.length : Int) L (by omega)]
    unfold chk
    rw [if_neg (by omega), if_neg (by omega), if_neg (by omega), if_neg (by omega)]
  have d1 : decide (3000 < n) = false := decide_eq_false (by omega)
  have d1I : decide ((3000 : Int) < (n : Int)) = false := decide_eq_false (by omega)
  have d2 : decide (1497 < bb.length) = false := decide_eq_false (by omega)
  have d2I : decide ((1497 : Int) < (bb.length : Int)) = false := decide_eq_false (by omega)
  have hD : ([] : List Int) = O := by rw [← hO]; unfold openL; rw [hB]; rfl
  replace hD := Aside0.mk hD
  have h3n : n ≤ 3000 := hn
  clear hn
  replace h3n := Aside0.mk h3n
  replace hLl := Aside0.mk hLl
  replace hn1 := Aside0.mk hn1
  replace hG := Aside0.mk hG
  replace hd := Aside0.mk hd
  replace hc := Aside0.mk hc
  replace hb := Aside0.mk hb
  replace hc1 := Aside0.mk hc1
  replace hO := Aside0.mk hO
  replace hL := Aside0.mk hL
  replace hB2 := Aside0.mk hB2
  replace hO2 := Aside0.mk hO2
  replace hx := Aside0.mk hx
  replace hck := Aside0.mk hck
  replace hB := Aside0.mk hB
  clear x0 x1 fr0
  go_enter Tryd.func3, Tryd.ntmps3
  go_wp2_with (first | (go_at_call 4; refine H.call1 (PFrameOpens.treelinelaw04_awake.calls 20 true _ aw) ?_; intro w1 H1; replace H := H1; clear H1) | (have tk := T1; clear tk; go_at_call 5; refine H.call0 (Open_all _ 1652522221568 x (L.length : Int) A9 L.length c9 L (hG.out.hp H.only) (H.readsN (xs := L) (by repeat (first | exact Pick.here _ | apply Pick.there))) hc9.out (by have := hLl.out; have := hn1.out; omega)) ?_; rintro v l1 w1 ⟨bv, hv, hl1⟩ H1; rw [hB2.out] at hv; rw [hO2.out] at hl1; subst hv; subst hl1; obtain ⟨A13, c13, rfl, -, -⟩ := H1.reads (.here _); replace H := H1; clear H1) | (go_at_call 5; refine H.call0 (Open_all _ a b q A n c d (hG.out.hp H.only) (H.data hd.out) hc.out (by have := h3n.out; omega)) ?_; rintro v l1 w1 ⟨bv, hv, hl1⟩ H1; rw [hB.out] at hv; rw [hO.out] at hl1; subst hv; subst hl1; obtain ⟨A7, c7, rfl, -, -⟩ := H1.reads (.here _); replace H := H1; clear H1; have T1 : True := trivial) | (go_at_call 6; refine H.call0 (RefOpen_all _ a b q A n c d (H.data hd.out) hc.out) ?_; rintro v l1 w1 ⟨hv, rfl⟩ H1; rw [hB.out] at hv; simp only [if_true, Bool.false_eq_true, if_false] at hv; subst hv; replace H := H1; clear H1) | (go_at_call 7; refine H.call0 (Wrap_calls _ x A1 bb.length c1 bb (hG.out.hp H.only) (H.data hb.out) (by have := hn1.out; omega) L hL.out) ?_; rintro v l1 w1 ⟨A9, c9, rfl, rfl, hc9⟩ H1; replace hc9 := Aside0.mk hc9; replace H := H1; clear H1) | (go_at_call 8; refine H.call1 (PFrameOpens.frame_Check.calls 2 1652522221568 x (L.length : Int) A9 c9 L 0 _ (H.readsN (xs := L) (by repeat (first | exact Pick.here _ | apply Pick.there))) hc9.out hck.out) ?_; intro w1 H1; replace H := H1; clear H1) | ((with_reducible refine gate_dst (N := 45) rfl ?_); refine gate_guard (by rfl) ?_; dsimp only; refine Kd.event_run rfl (v := .string (strOfNums O)) (run_str rfl rfl Tryd.underlying25 Tryd.underlying5 Tryd.underlying9 (H.readsN (xs := O) (by repeat (first | exact Pick.here _ | apply Pick.there)))) ?_) | ((with_reducible refine gate_dst (N := 47) rfl ?_); refine gate_guard (by rfl) ?_; dsimp only; refine Kd.event_run rfl (v := .string (strOfNums O)) ((run_str rfl rfl Tryd.underlying25 Tryd.underlying5 Tryd.underlying9 (Kd.C_nil _ _)).trans (by rw [hD.out])) ?_) | ((with_reducible refine gate_dst (N := 63) rfl ?_); refine gate_guard (by rfl) ?_; dsimp only; refine Kd.event_run rfl (v := .string (strOfNums bb)) (run_str rfl rfl Tryd.underlying25 Tryd.underlying5 Tryd.underlying9 (H.readsN (xs := bb) (by repeat (first | exact Pick.here _ | apply Pick.there)))) ?_) | ((with_reducible refine gate_dst (N := 65) rfl ?_); refine gate_guard (by rfl) ?_; dsimp only; refine Kd.event_run rfl (v := .string (strOfNums bb)) (run_str rfl rfl Tryd.underlying25 Tryd.underlying5 Tryd.underlying9 (H.data hb.out)) ?_) | ((with_reducible refine gate_dst (N := 51) rfl ?_); refine Kd.event_run rfl (v := .int .u64 x) (w1 := _) (run_remU rfl rfl rfl (by decide) hx.out) ?_) | ((with_reducible refine gate_dst (N := 3) rfl ?_); refine ev_ rfl (H.box rfl (by first | (go_simp; done) | (go_simp; rfl)) rfl) ?_; rintro _ w1 ⟨g3, rfl, H1⟩; (try simp only [Value.cells] at H1); replace H := H1; clear H1) | ((with_reducible refine gate_dst (N := 19) rfl ?_); refine gate_guard (by rfl) ?_; dsimp only; refine Kd.event_run rfl (H.load1 25 (.tmp 18) rfl rfl (by repeat (first | exact Pick.here _ | apply Pick.there)) Tryd.underlying25 rfl rfl) ?_) | ((with_reducible refine gate_dst (N := 30) rfl ?_); refine Kd.event_run rfl (H.loadN 27 (.tmp 3) rfl rfl (by repeat (first | exact Pick.here _ | apply Pick.there)) #[.int .u64 a, .int .u64 b, .int .u16 q, .slice A n c] Tryd.underlying27 rfl info27s (fun j u hj => by simpa using hj)) ?_) | ((with_reducible refine gate_dst (N := 35) rfl ?_); refine Kd.event_run rfl (H.loadN 27 (.tmp 3) rfl rfl (by repeat (first | exact Pick.here _ | apply Pick.there)) #[.int .u64 a, .int .u64 b, .int .u16 q, .slice A n c] Tryd.underlying27 rfl info27s (fun j u hj => by simpa using hj)) ?_) | ((with_reducible refine gate_dst (N := 12) rfl ?_); refine ev_ rfl (H.new (cs := #[.int .u64 0, .int .u64 0, .int .u16 0, .slice none 0 0]) (t := 27) (by first | (go_simp; done) | (go_simp; rfl))) ?_; rintro _ w1 ⟨g12, rfl, H1⟩; replace H := H1; clear H1) | ((with_reducible refine gate_store (p := 12) rfl ?_); refine ev_ rfl (H.store 27 (.tmp 12) (.tmp 54) rfl rfl (by repeat (first | exact Pick.here _ | apply Pick.there)) (by first | (go_simp; done) | (go_simp; rfl)) _ rfl info27s (by simp [Value.oneCell', Value.cells]) (by simp [Value.cells]) rfl) ?_; rintro _ w1 ⟨rfl, H1⟩; (try simp only [putsAt, Value.cells, List.setIfInBounds_toArray, List.set_cons_zero, List.set_cons_succ, List.toList_toArray] at H1); replace H := H1; clear H1) | ((with_reducible refine gate_dst (N := 56) rfl ?_); refine Kd.event_run rfl (H.loadN 27 (.tmp 12) rfl rfl (by repeat (first | exact Pick.here _ | apply Pick.there)) #[.int .u64 1652522221568, .int .u64 x, .int .u16 (L.length : Int), .slice A9 L.length c9] Tryd.underlying27 rfl info27s (fun j u hj => by simpa using hj)) ?_) | ((with_reducible refine gate_dst (N := 70) rfl ?_); refine gate_guard (by rfl) ?_; dsimp only; refine Kd.event_run rfl (H.load1 23 (.tmp 69) rfl rfl (by repeat (first | exact Pick.here _ | apply Pick.there)) Tryd.underlying23 rfl rfl) ?_) | ((with_reducible refine gate_dst (N := 76) rfl ?_); refine gate_guard (by rfl) ?_; dsimp only; refine Kd.event_run rfl (H.load1 23 (.tmp 75) rfl rfl (by repeat (first | exact Pick.here _ | apply Pick.there)) Tryd.underlying23 rfl rfl) ?_) | ((with_reducible refine gate_dst (N := 80) rfl ?_); refine gate_guard (by rfl) ?_; dsimp only; refine Kd.event_run rfl (H.loadN 27 (.tmp 12) rfl rfl (by repeat (first | exact Pick.here _ | apply Pick.there)) #[.int .u64 1652522221568, .int .u64 x, .int .u16 (L.length : Int), .slice A9 L.length c9] Tryd.underlying27 rfl info27s (fun j u hj => by simpa using hj)) ?_))
  go_ret
  exact ⟨rfl, H.below⟩

set_option maxHeartbeats 1000000 in
set_option maxRecDepth 100000 in
theorem Opens_many (w : World) (a b q fr : Int) (A : Option Addr) (n c : Nat) (A1 : Option Addr) (n1 c1 : Nat) (hn : 3000 < n) :
    Calls Tryd.prog 3 #[.agg #[.int .u64 a, .int .u64 b, .int .u16 q, .slice A n c], .int .u64 fr, .slice A1 n1 c1] w (fun e w' => e = .returned (.bool true) ∧ Below w.heap.size w w') := by
  have H := Hp.nothing w
  have d1 : decide (3000 < n) = true := decide_eq_true hn
  have d1I : decide ((3000 : Int) < (n : Int)) = true := decide_eq_true (by omega)
  clear hn
  go_enter Tryd.func3, Tryd.ntmps3
  go_wp2_with (first | (go_at_call 4; refine H.call1 (PFrameOpens.treelinelaw04_awake.calls 20 true _ aw) ?_; intro w1 H1; replace H := H1; clear H1) | ((with_reducible refine gate_dst (N := 3) rfl ?_); refine ev_ rfl (H.box rfl (by first | (go_simp; done) | (go_simp; rfl)) rfl) ?_; rintro _ w1 ⟨g3, rfl, H1⟩; (try simp only [Value.cells] at H1); replace H := H1; clear H1) | ((with_reducible refine gate_dst (N := 19) rfl ?_); refine gate_guard (by rfl) ?_; dsimp only; refine Kd.event_run rfl (H.load1 25 (.tmp 18) rfl rfl (by repeat (first | exact Pick.here _ | apply Pick.there)) Tryd.underlying25 rfl rfl) ?_))
  go_ret
  exact ⟨rfl, H.below⟩

set_option maxHeartbeats 1000000 in
set_option maxRecDepth 100000 in
theorem Opens_long (w : World) (a b q fr : Int) (A : Option Addr) (n c : Nat) (A1 : Option Addr) (n1 c1 : Nat) (hn : n ≤ 3000) (hn1 : 1497 < n1) :
    Calls Tryd.prog 3 #[.agg #[.int .u64 a, .int .u64 b, .int .u16 q, .slice A n c], .int .u64 fr, .slice A1 n1 c1] w (fun e w' => e = .returned (.bool true) ∧ Below w.heap.size w w') := by
  have H := Hp.nothing w
  have d1 : decide (3000 < n) = false := decide_eq_false (by omega)
  have d1I : decide ((3000 : Int) < (n : Int)) = false := decide_eq_false (by omega)
  have d2 : decide (1497 < n1) = true := decide_eq_true hn1
  have d2I : decide ((1497 : Int) < (n1 : Int)) = true := decide_eq_true (by omega)
  clear hn hn1
  go_enter Tryd.func3, Tryd.ntmps3
  go_wp2_with (first | (go_at_call 4; refine H.call1 (PFrameOpens.treelinelaw04_awake.calls 20 true _ aw) ?_; intro w1 H1; replace H := H1; clear H1) | ((with_reducible refine gate_dst (N := 3) rfl ?_); refine ev_ rfl (H.box rfl (by first | (go_simp; done) | (go_simp; rfl)) rfl) ?_; rintro _ w1 ⟨g3, rfl, H1⟩; (try simp only [Value.cells] at H1); replace H := H1; clear H1) | ((with_reducible refine gate_dst (N := 19) rfl ?_); refine gate_guard (by rfl) ?_; dsimp only; refine Kd.event_run rfl (H.load1 25 (.tmp 18) rfl rfl (by repeat (first | exact Pick.here _ | apply Pick.there)) Tryd.underlying25 rfl rfl) ?_))
  go_ret
  exact ⟨rfl, H.below⟩

theorem FrameOpens (W : World) (x : Int × Int × Int × List Int) (fr : Int) (bb : List Int) (w0 : (Lit.int .u64 x.1).wf = true ∧ (Lit.int .u64 x.2.1).wf = true ∧ (Lit.int .u16 x.2.2.1).wf = true ∧ (∀ y ∈ x.2.2.2, (Lit.int .u8 y).wf = true)) (w1 : (Lit.int .u64 fr).wf = true) (w2 : ∀ y ∈ bb, (Lit.int .u8 y).wf = true) (hG : Glob W)
    {A : Option Addr} {c : Nat} (hC : (Kd.int .u8).C W A x.2.2.2.length x.2.2.2) (hc : x.2.2.2.length ≤ c) {A1 : Option Addr} {c1 : Nat} (hC1 : (Kd.int .u8).C W A1 bb.length bb) (hc1 : bb.length ≤ c1) :
    Calls Tryd.prog 3 #[.agg #[.int .u64 x.1, .int .u64 x.2.1, .int .u16 x.2.2.1, .slice A x.2.2.2.length c], .int .u64 fr, .slice A1 bb.length c1] W (fun e w' => e = .returned (.bool true) ∧ Below W.heap.size W w') := by
  obtain ⟨a, b, q, d⟩ := x
  dsimp only at *
  have fr0 := (Ar.wf_u64 w1).1
  by_cases h : d.length ≤ 3000
  · by_cases h1 : bb.length ≤ 1497
    · cases hB : isB a q d
      · exact Opens_no W a b q fr A _ c d A1 _ c1 bb hG hC hc hC1 hc1 fr0 h h1 hB
      · exact Opens_yes W a b q fr A _ c d A1 _ c1 bb hG hC hc hC1 hc1 fr0 h h1 hB
    · exact Opens_long W a b q fr A _ c A1 _ c1 h (by omega)
  · exact Opens_many W a b q fr A _ c A1 _ c1 (by omega)

end Go.Proofs.YtdmlpcbmmdddbaaDoor.Pure
