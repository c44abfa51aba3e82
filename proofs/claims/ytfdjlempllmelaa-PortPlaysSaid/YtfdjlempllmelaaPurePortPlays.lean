/- For every port the law PortPlays answers true: what becomes of a port in any state is the document's. -/
import Derived.Test.YtfdjlempllmelaaPort
import Derived.Test.YtfdjlempllmelaaAr
import Derived.Test.YtfdjlempllmelaaShapePortPlays
import Derived.Deep.RegionHeld3
import Derived.Deep.QuietTactic
import Derived.BigQuiet
namespace Go.Proofs.Ytfdjlempllmelaa.Pure
open Go.Proofs.Ytfdjlempllmelaa.Port Go.Proofs.Ytfdjlempllmelaa.PPortPlays Go.Proofs.Ytfdjlempllmelaa.Ar
open Go.RowKit Go.Proofs.YtfdjlempllmelaaW.PrintWords Go.Proofs.YtfdjlempllmelaaW.PrintLast Go.Proofs.YtfdjlempllmelaaW.PrintMore
set_option linter.unusedVariables false
set_option linter.unusedSimpArgs false
attribute [local go_sem high] eqE
/-- One, two, three ports in memory, and nothing else changed: what holds all along a region that draws. -/
structure B1 (w : World) (g1 : Nat) (c1 : Array Value) (W : World) : Prop where
  k1 : W.heap[g1]? = some (.cells c1 58 (0, 0))
  below : Below w.heap.size w W
structure B2 (w : World) (g1 g2 : Nat) (c1 c2 : Array Value) (W : World) : Prop where
  k1 : W.heap[g1]? = some (.cells c1 58 (0, 0))
  k2 : W.heap[g2]? = some (.cells c2 58 (0, 0))
  below : Below w.heap.size w W
structure B3 (w : World) (g1 g2 g3 : Nat) (c1 c2 c3 : Array Value) (W : World) : Prop where
  k1 : W.heap[g1]? = some (.cells c1 58 (0, 0))
  k2 : W.heap[g2]? = some (.cells c2 58 (0, 0))
  k3 : W.heap[g3]? = some (.cells c3 58 (0, 0))
  below : Below w.heap.size w W
theorem B1.step {w : World} {g1 : Nat} {c1 : Array Value} {W W' : World} (h : B1 w g1 c1 W) (hb : Below W.heap.size W W') : B1 w g1 c1 W' := ⟨blk_below h.k1 hb, below_step h.below hb⟩
theorem B2.step {w : World} {g1 g2 : Nat} {c1 c2 : Array Value} {W W' : World} (h : B2 w g1 g2 c1 c2 W) (hb : Below W.heap.size W W') : B2 w g1 g2 c1 c2 W' := ⟨blk_below h.k1 hb, blk_below h.k2 hb, below_step h.below hb⟩
theorem B3.step {w : World} {g1 g2 g3 : Nat} {c1 c2 c3 : Array Value} {W W' : World} (h : B3 w g1 g2 g3 c1 c2 c3 W) (hb : Below W.heap.size W W') : B3 w g1 g2 g3 c1 c2 c3 W' := ⟨blk_below h.k1 hb, blk_below h.k2 hb, blk_below h.k3 hb, below_step h.below hb⟩
theorem drewB (W : World) : Below W.heap.size W W.drew := below_drew (Below.refl _ _)
theorem startB {P : Program} {ops : Array Oper} {Q : Exit → Act → World → Prop} {W : World} {S : World → Prop} (hS : S W.drew) (ds : List Nat) {id n : Nat} {a : Act} (lits : Array Bool) (hm : P.follows .mixedOrders = true) (hn : ops.size = n) (hl : Array.replicate n false = lits)
    (h : S W.drew → wpAnyLast P .any ops Q S ds n lits a W.drew) : (Code.region id ops true).wp P Q a W := start_ (S := S) (ds := ds) lits hm hn hl hS h
section
variable {o : Oper} {a : Act} {W : World}
theorem run_ldN {g i : Nat} {cs : Array Value} {t : TypeId} (K : W.heap[g]? = some (.cells cs t (0, 0))) (ty : TypeId) (x : Operand) (ho : o.op = .load ty x) (hx : a.eval x = .pointer (some ⟨g, i, none⟩)) (v : Array Value) {d : TypeDesc}
    (hu : Try.prog.underlying ty = some d) (hd : d.isRow = true) (hi : (Try.prog.info? ty).map (·.size) = some v.size) (hv : ∀ j u, v[j]? = some u → cs[i + j]? = some u) : (execOp a.eval o).run Try.prog W = .ok (.value (.agg v)) W := by
  have hr := run_loadVar_mid (P := Try.prog) W g i ty v.toList d (fun j u hj => (cell_of_row W g (i + j) cs t _ K).trans (hv j u (by simpa using hj))) hu hd (by simpa using hi)
  unfold execOp
  simp [ho, hx, Instr.loadAt, Instr.sureAddr, hr]
theorem run_ld58 {g : Nat} {p : Pt} (K : W.heap[g]? = some (.cells (enc p) 58 (0, 0))) (x : Operand) (ho : o.op = .load 58 x) (hx : a.eval x = .pointer (some ⟨g, 0, none⟩)) : (execOp a.eval o).run Try.prog W = .ok (.value (.agg (enc p))) W :=
  run_ldN K 58 x ho hx (enc p) Try.underlying58 rfl (by rw [enc_size]; exact info58) (fun j u hj => by simpa using hj)
theorem run_ld1 {g i : Nat} {cs : Array Value} {t : TypeId} (K : W.heap[g]? = some (.cells cs t (0, 0))) (ty : TypeId) (x : Operand) (ho : o.op = .load ty x) (hx : a.eval x = .pointer (some ⟨g, i, none⟩)) {u : Value} {d : TypeDesc}
    (hu : Try.prog.underlying ty = some d) (hd : d.isRow = false) (hv : cs[i]? = some u) : (execOp a.eval o).run Try.prog W = .ok (.value u) W := by
  have hc : W.cell? ⟨g, i, none⟩ = some u := (cell_of_row W g i cs t _ K).trans hv
  have hagg : (isAgg ty).run Try.prog W = .ok false W := by
    unfold isAgg
    rw [Sem.run_bind, run_underlying hu W]
    cases d <;> simp_all [TypeDesc.isRow]
  unfold execOp
  simp [ho, hx, Instr.loadAt, Instr.sureAddr, loadVar, hagg, hc]
end
set_option maxHeartbeats 8000000 in
set_option maxRecDepth 100000 in
theorem Plays_bad (p : Pt) (F : ∀ w, Calls Try.prog 33 #[.agg (enc p)] w fun e w' => e = .returned (.bool false) ∧ Below w.heap.size w w') (w : World) : Calls Try.prog 13 #[.agg (enc p)] w fun e w' => e = .returned (.bool true) ∧ Below w.heap.size w w' := by
  have HB := Aside0.mk (Below.refl w.heap.size w)
  go_enter Try.func13, Try.ntmps13
  go_wp2_with (first | ((with_reducible refine gate_dst (N := 1) rfl ?_); refine box_event rfl (N := 1) rfl (cs := enc p) (t := 58) (by first | (go_simp; done) | (go_simp; rfl)) ?_; intro g1 eg1 v1 Kg1 b1; have Gg1 := Aside0.mk (show w.heap.size ≤ g1 from by rw [eg1]; exact HB.out.size); replace HB := Aside0.mk (below_step HB.out b1); replace Kg1 := Aside0.mk Kg1; clear b1 eg1) | ((with_reducible refine gate_dst (N := 13) rfl ?_); refine goesL_ (some 13) rfl rfl Try.func32 (by kernel_rfl) rfl #[] rfl (by (try simp only [List.map_toArray, List.map_cons, List.map_nil]); first | done | rfl) ?_; refine (awake_calls _).mono ?_; rintro e v2 ⟨rfl, b2⟩; refine ⟨_, rfl, ?_⟩; replace Kg1 := Aside0.mk (blk_below Kg1.out b2); replace HB := Aside0.mk (below_step HB.out b2); clear b2) | ((with_reducible refine gate_dst (N := 16) rfl ?_); (refine gate_guard (by rfl) ?_; dsimp only); refine ld58 Kg1.out rfl _ rfl rfl ?_) | (go_at_call 33; refine (F _).mono ?_; rintro e v3 ⟨rfl, b3⟩; replace Kg1 := Aside0.mk (blk_below Kg1.out b3); replace HB := Aside0.mk (below_step HB.out b3); clear b3) | ((with_reducible refine gate_dst (N := 20) rfl ?_); refine goesL_ (some 20) rfl rfl Try.func32 (by kernel_rfl) rfl #[] rfl (by (try simp only [List.map_toArray, List.map_cons, List.map_nil]); first | done | rfl) ?_; refine (awake_calls _).mono ?_; rintro e v4 ⟨rfl, b4⟩; refine ⟨_, rfl, ?_⟩; replace Kg1 := Aside0.mk (blk_below Kg1.out b4); replace HB := Aside0.mk (below_step HB.out b4); clear b4))
  go_ret
  exact ⟨rfl, HB.out⟩

theorem Learns_z (s : Int) (c : (s == 3) = false) (d : (s == 4) = false) (w : World) : Calls Try.prog 43 #[.int .i64 s] w fun e w' => e = .returned (.bool false) ∧ Below w.heap.size w w' := by
  have h := Learns_n s c w
  rw [d] at h
  exact h
theorem Forwards_z (s : Int) (d : (s == 4) = false) (w : World) : Calls Try.prog 44 #[.int .i64 s] w fun e w' => e = .returned (.bool false) ∧ Below w.heap.size w w' := by
  have h := Forwards_calls s w
  rw [d] at h
  exact h

set_option maxHeartbeats 8000000 in
set_option maxRecDepth 100000 in
theorem Plays_0 (p : Pt) (F : ∀ w, Calls Try.prog 33 #[.agg (enc p)] w fun e w' => e = .returned (.bool true) ∧ Below w.heap.size w w') (h : p.st = 0) (w : World) : Calls Try.prog 13 #[.agg (enc p)] w fun e w' => e = .returned (.bool true) ∧ Below w.heap.size w w' := by
  have c0 : (p.st == 0) = true := by rw [h]; rfl
  have c1 : (p.st == 1) = false := by rw [h]; rfl
  have c2 : (p.st == 2) = false := by rw [h]; rfl
  have c3 : (p.st == 3) = false := by rw [h]; rfl
  have c4 : (p.st == 4) = false := by rw [h]; rfl
  have H := Aside0.mk h
  clear h
  have HB := Aside0.mk (Below.refl w.heap.size w)
  go_enter Try.func13, Try.ntmps13
  go_wp2_with (first | ((with_reducible refine gate_dst (N := 1) rfl ?_); refine box_event rfl (N := 1) rfl (cs := enc p) (t := 58) (by first | (go_simp; done) | (go_simp; rfl)) ?_; intro g1 eg1 v1 Kg1 b1; have Gg1 := Aside0.mk (show w.heap.size ≤ g1 from by rw [eg1]; exact HB.out.size); replace HB := Aside0.mk (below_step HB.out b1); replace Kg1 := Aside0.mk Kg1; clear b1 eg1) | ((with_reducible refine gate_dst (N := 13) rfl ?_); refine goesL_ (some 13) rfl rfl Try.func32 (by kernel_rfl) rfl #[] rfl (by (try simp only [List.map_toArray, List.map_cons, List.map_nil]); first | done | rfl) ?_; refine (awake_calls _).mono ?_; rintro e v2 ⟨rfl, b2⟩; refine ⟨_, rfl, ?_⟩; replace Kg1 := Aside0.mk (blk_below Kg1.out b2); replace HB := Aside0.mk (below_step HB.out b2); clear b2) | ((with_reducible refine gate_dst (N := 16) rfl ?_); (refine gate_guard (by rfl) ?_; dsimp only); refine ld58 Kg1.out rfl _ rfl rfl ?_) | (go_at_call 33; refine (F _).mono ?_; rintro e v3 ⟨rfl, b3⟩; replace Kg1 := Aside0.mk (blk_below Kg1.out b3); replace HB := Aside0.mk (below_step HB.out b3); clear b3) | ((with_reducible refine gate_dst (N := 21) rfl ?_); refine ld58 Kg1.out rfl _ rfl rfl ?_) | ((with_reducible refine gate_dst (N := 3) rfl ?_); refine box_event rfl (N := 3) rfl (cs := #[.int .u16 0, .int .i64 0, .int .u32 0, .int .u64 0, .int .u32 0, .int .u64 0, .int .u16 0, .bool false, .bool false, .bool false, .int .i64 0, .bool false, .int .i64 0, .bool false, .int .i64 0]) (t := 58) (by first | (go_simp; done) | (go_simp; rfl)) ?_; intro g3 eg3 v4 Kg3 b4; have Dg1_g3 := Aside0.mk (show g1 ≠ g3 from by have := blk_lt Kg1.out; omega); replace Kg1 := Aside0.mk (blk_below Kg1.out b4); have Gg3 := Aside0.mk (show w.heap.size ≤ g3 from by rw [eg3]; exact HB.out.size); replace HB := Aside0.mk (below_step HB.out b4); replace Kg3 := Aside0.mk Kg3; clear b4 eg3) | ((with_reducible refine gate_store (p := 3) rfl ?_); refine st58 (p := p) Kg3.out (by first | exact enc_size _ | rfl) rfl _ _ rfl rfl rfl ?_; intro v5 q5 b5; replace Kg1 := Aside0.mk (b5.keep Kg1.out Dg1_g3.out); replace HB := Aside0.mk (b5.below HB.out Gg3.out HB.out.size); replace Kg3 := Aside0.mk q5; clear b5) | ((with_reducible refine gate_dst (N := 24) rfl ?_); refine ev_ld1 rfl _ _ rfl g1 1 rfl Kg1.out (.int .i64 p.st) Try.underlying3 rfl (enc_1 p) ?_) | ((with_reducible refine gate_dst (N := 25) rfl ?_); refine goesL_ (some 25) rfl rfl Try.func40 (by kernel_rfl) rfl #[.int .i64 p.st] rfl (by (try simp only [List.map_toArray, List.map_cons, List.map_nil]); first | done | rfl) ?_; refine (refRise_0 _ c1 _).mono ?_; rintro e v6 ⟨rfl, b6⟩; refine ⟨_, rfl, ?_⟩; replace Kg1 := Aside0.mk (blk_below Kg1.out b6); replace Kg3 := Aside0.mk (blk_below Kg3.out b6); replace HB := Aside0.mk (below_step HB.out b6); clear b6) | ((with_reducible refine gate_store (p := 29) rfl ?_); refine ev_st rfl 3 _ _ rfl g3 1 rfl rfl #[.int .i64 (p.st)] rfl info3 (by simp [Value.oneCell']) Kg3.out (by first | (rw [enc_size]; simp; done) | simp) (enc (p)) (enc_st _ _) ?_; intro v7 q7 b7; replace Kg1 := Aside0.mk (b7.keep Kg1.out Dg1_g3.out); replace HB := Aside0.mk (b7.below HB.out Gg3.out HB.out.size); replace Kg3 := Aside0.mk q7; clear b7))
  have SS : B2 w g1 g3 (enc p) (enc (p)) _ := ⟨Kg1.out, Kg3.out, HB.out⟩
  clear Kg1 Kg3
  refine startB (SS.step (drewB _)) (n := 4) [] #[false, false, false, false] (by kernel_rfl) rfl rfl (fun hHeld => ?_)
  refine take_ (i := 0) (N := some 34) (v := _) (a' := ?_) #[true, false, false, false] rfl rfl (by kernel_rfl) (fun _ _ _ h => h) (Or.inl ⟨by rfl, fun w2 h => run_ld58 h.k1 (.tmp 1) rfl rfl⟩) hHeld ?_ ?_
  rotate_left
  · simp only [Act.put, List.setIfInBounds_toArray, List.set_cons_zero, List.set_cons_succ, i64_w, i32_w]
    rfl
  refine take_ (i := 2) (N := some 36) (v := _) (a' := ?_) #[true, false, true, false] rfl rfl (by kernel_rfl) (fun _ _ _ h => h) (Or.inl ⟨by rfl, fun w2 h => run_ld58 h.k2 (.tmp 3) rfl rfl⟩) hHeld ?_ ?_
  rotate_left
  · simp only [Act.put, List.setIfInBounds_toArray, List.set_cons_zero, List.set_cons_succ, i64_w, i32_w]
    rfl
  refine one_ (i := 1) (N := some 35) #[true, true, true, false] rfl rfl (by kernel_rfl) (by decide) (fun K hK => ?_)
  refine goes_ Try.func38 (by kernel_rfl) rfl #[.agg (enc p)] (by rfl) rfl rfl (by (try simp only [List.map_toArray, List.map_cons, List.map_nil]); first | done | rfl) ?_
  refine (Rise_0 p (by rw [H.out]; decide) _).mono ?_
  rintro e w3 ⟨rfl, hb⟩
  refine ⟨_, rfl, ?_⟩
  refine hK.out _ _ (hHeld.step hb) (fun hHeld => ?_)
  clear hK K
  refine norm_ (a' := ?_) ?_ ?_
  rotate_left
  · show Act.put _ (some 35) _ = _
    simp only [Act.put, List.setIfInBounds_toArray, List.set_cons_zero, List.set_cons_succ, i64_w, i32_w]
    rfl
  refine pure_ (i := 3) (N := some 37) (v := ?_) (a' := ?_) #[true, true, true, true] rfl rfl (by kernel_rfl) (fun _ _ _ h => h) (Or.inl ⟨by rfl, ?_⟩) ?_ ?_
  rotate_left
  · intro w'
    go_simp
    with_reducible rfl
  rotate_left
  · simp only [Act.put, List.setIfInBounds_toArray, List.set_cons_zero, List.set_cons_succ, i64_w, i32_w]
    rfl
  refine done_ (by kernel_rfl) ?_
  have Kg1 := Aside0.mk hHeld.k1
  have Kg3 := Aside0.mk hHeld.k2
  replace HB := Aside0.mk hHeld.below
  clear hHeld SS
  go_wp2_with (first | ((with_reducible refine gate_store (p := 11) rfl ?_); refine st58 (p := p) Kg11.out (by first | exact enc_size _ | rfl) rfl _ _ rfl rfl rfl ?_; intro v19 q19 b19; replace Kg1 := Aside0.mk (b19.keep Kg1.out Dg1_g11.out); replace Kg3 := Aside0.mk (b19.keep Kg3.out Dg3_g11.out); replace Kg8 := Aside0.mk (b19.keep Kg8.out Dg8_g11.out); replace HB := Aside0.mk (b19.below HB.out Gg11.out HB.out.size); replace Kg11 := Aside0.mk q19; clear b19) | ((with_reducible refine gate_dst (N := 11) rfl ?_); refine box_event rfl (N := 11) rfl (cs := #[.int .u16 0, .int .i64 0, .int .u32 0, .int .u64 0, .int .u32 0, .int .u64 0, .int .u16 0, .bool false, .bool false, .bool false, .int .i64 0, .bool false, .int .i64 0, .bool false, .int .i64 0]) (t := 58) (by first | (go_simp; done) | (go_simp; rfl)) ?_; intro g11 eg11 v18 Kg11 b18; have Dg1_g11 := Aside0.mk (show g1 ≠ g11 from by have := blk_lt Kg1.out; omega); replace Kg1 := Aside0.mk (blk_below Kg1.out b18); have Dg3_g11 := Aside0.mk (show g3 ≠ g11 from by have := blk_lt Kg3.out; omega); replace Kg3 := Aside0.mk (blk_below Kg3.out b18); have Dg8_g11 := Aside0.mk (show g8 ≠ g11 from by have := blk_lt Kg8.out; omega); replace Kg8 := Aside0.mk (blk_below Kg8.out b18); have Gg11 := Aside0.mk (show w.heap.size ≤ g11 from by rw [eg11]; exact HB.out.size); replace HB := Aside0.mk (below_step HB.out b18); replace Kg11 := Aside0.mk Kg11; clear b18 eg11) | ((with_reducible refine gate_dst (N := 82) rfl ?_); refine goesL_ (some 82) rfl rfl Try.func39 (by kernel_rfl) rfl #[.agg (enc p)] rfl (by (try simp only [List.map_toArray, List.map_cons, List.map_nil]); first | done | rfl) ?_; refine (Next_0 p (by rw [H.out]; decide) (by rw [H.out]; decide) _).mono ?_; rintro e v17 ⟨rfl, b17⟩; refine ⟨_, rfl, ?_⟩; replace Kg1 := Aside0.mk (blk_below Kg1.out b17); replace Kg3 := Aside0.mk (blk_below Kg3.out b17); replace Kg8 := Aside0.mk (blk_below Kg8.out b17); replace HB := Aside0.mk (below_step HB.out b17); clear b17) | ((with_reducible refine gate_dst (N := 81) rfl ?_); refine ld58 Kg1.out rfl _ rfl rfl ?_) | ((with_reducible refine gate_store (p := 75) rfl ?_); refine ev_st rfl 3 _ _ rfl g3 1 rfl rfl #[.int .i64 (p.st)] rfl info3 (by simp [Value.oneCell']) Kg3.out (by first | (rw [enc_size]; simp; done) | simp) (enc (p)) (enc_st _ _) ?_; intro v16 q16 b16; replace Kg1 := Aside0.mk (b16.keep Kg1.out Dg1_g3.out); replace Kg8 := Aside0.mk (b16.keep Kg8.out Dg3_g8.out.symm); replace HB := Aside0.mk (b16.below HB.out Gg3.out HB.out.size); replace Kg3 := Aside0.mk q16; clear b16) | ((with_reducible refine gate_dst (N := 70) rfl ?_); refine goesL_ (some 70) rfl rfl Try.func42 (by kernel_rfl) rfl #[.int .i64 p.st] rfl (by (try simp only [List.map_toArray, List.map_cons, List.map_nil]); first | done | rfl) ?_; refine (refNext_0 _ c2 c3 _).mono ?_; rintro e v15 ⟨rfl, b15⟩; refine ⟨_, rfl, ?_⟩; replace Kg1 := Aside0.mk (blk_below Kg1.out b15); replace Kg3 := Aside0.mk (blk_below Kg3.out b15); replace Kg8 := Aside0.mk (blk_below Kg8.out b15); replace HB := Aside0.mk (below_step HB.out b15); clear b15) | ((with_reducible refine gate_dst (N := 69) rfl ?_); refine ev_ld1 rfl _ _ rfl g1 1 rfl Kg1.out (.int .i64 p.st) Try.underlying3 rfl (enc_1 p) ?_) | ((with_reducible refine gate_store (p := 3) rfl ?_); refine st58 (p := p) Kg3.out (by first | exact enc_size _ | rfl) rfl _ _ rfl rfl rfl ?_; intro v14 q14 b14; replace Kg1 := Aside0.mk (b14.keep Kg1.out Dg1_g3.out); replace Kg8 := Aside0.mk (b14.keep Kg8.out Dg3_g8.out.symm); replace HB := Aside0.mk (b14.below HB.out Gg3.out HB.out.size); replace Kg3 := Aside0.mk q14; clear b14) | ((with_reducible refine gate_dst (N := 66) rfl ?_); refine ld58 Kg1.out rfl _ rfl rfl ?_) | ((with_reducible refine gate_dst (N := 58) rfl ?_); refine ld58 Kg3.out rfl _ rfl rfl ?_) | ((with_reducible refine gate_dst (N := 57) rfl ?_); refine ld58 Kg8.out rfl _ rfl rfl ?_) | ((with_reducible refine gate_store (p := 8) rfl ?_); refine st58 (p := p) Kg8.out (by first | exact enc_size _ | rfl) rfl _ _ rfl rfl rfl ?_; intro v13 q13 b13; replace Kg1 := Aside0.mk (b13.keep Kg1.out Dg1_g8.out); replace Kg3 := Aside0.mk (b13.keep Kg3.out Dg3_g8.out); replace HB := Aside0.mk (b13.below HB.out Gg8.out HB.out.size); replace Kg8 := Aside0.mk q13; clear b13) | ((with_reducible refine gate_dst (N := 8) rfl ?_); refine box_event rfl (N := 8) rfl (cs := #[.int .u16 0, .int .i64 0, .int .u32 0, .int .u64 0, .int .u32 0, .int .u64 0, .int .u16 0, .bool false, .bool false, .bool false, .int .i64 0, .bool false, .int .i64 0, .bool false, .int .i64 0]) (t := 58) (by first | (go_simp; done) | (go_simp; rfl)) ?_; intro g8 eg8 v12 Kg8 b12; have Dg1_g8 := Aside0.mk (show g1 ≠ g8 from by have := blk_lt Kg1.out; omega); replace Kg1 := Aside0.mk (blk_below Kg1.out b12); have Dg3_g8 := Aside0.mk (show g3 ≠ g8 from by have := blk_lt Kg3.out; omega); replace Kg3 := Aside0.mk (blk_below Kg3.out b12); have Gg8 := Aside0.mk (show w.heap.size ≤ g8 from by rw [eg8]; exact HB.out.size); replace HB := Aside0.mk (below_step HB.out b12); replace Kg8 := Aside0.mk Kg8; clear b12 eg8) | ((with_reducible refine gate_dst (N := 54) rfl ?_); refine goesL_ (some 54) rfl rfl Try.func37 (by kernel_rfl) rfl #[.agg (enc p)] rfl (by (try simp only [List.map_toArray, List.map_cons, List.map_nil]); first | done | rfl) ?_; refine (Block_0 p H.out _).mono ?_; rintro e v11 ⟨rfl, b11⟩; refine ⟨_, rfl, ?_⟩; replace Kg1 := Aside0.mk (blk_below Kg1.out b11); replace Kg3 := Aside0.mk (blk_below Kg3.out b11); replace HB := Aside0.mk (below_step HB.out b11); clear b11) | ((with_reducible refine gate_dst (N := 53) rfl ?_); refine ld58 Kg1.out rfl _ rfl rfl ?_) | ((with_reducible refine gate_store (p := 47) rfl ?_); refine ev_st rfl 3 _ _ rfl g3 1 rfl rfl #[.int .i64 (p.st)] rfl info3 (by simp [Value.oneCell']) Kg3.out (by first | (rw [enc_size]; simp; done) | simp) (enc (p)) (enc_st _ _) ?_; intro v10 q10 b10; replace Kg1 := Aside0.mk (b10.keep Kg1.out Dg1_g3.out); replace HB := Aside0.mk (b10.below HB.out Gg3.out HB.out.size); replace Kg3 := Aside0.mk q10; clear b10) | ((with_reducible refine gate_dst (N := 42) rfl ?_); refine goesL_ (some 42) rfl rfl Try.func41 (by kernel_rfl) rfl #[.int .i64 p.st] rfl (by (try simp only [List.map_toArray, List.map_cons, List.map_nil]); first | done | rfl) ?_; refine (refBlock_0 _ c0 _).mono ?_; rintro e v9 ⟨rfl, b9⟩; refine ⟨_, rfl, ?_⟩; replace Kg1 := Aside0.mk (blk_below Kg1.out b9); replace Kg3 := Aside0.mk (blk_below Kg3.out b9); replace HB := Aside0.mk (below_step HB.out b9); clear b9) | ((with_reducible refine gate_dst (N := 41) rfl ?_); refine ev_ld1 rfl _ _ rfl g1 1 rfl Kg1.out (.int .i64 p.st) Try.underlying3 rfl (enc_1 p) ?_) | ((with_reducible refine gate_store (p := 3) rfl ?_); refine st58 (p := p) Kg3.out (by first | exact enc_size _ | rfl) rfl _ _ rfl rfl rfl ?_; intro v8 q8 b8; replace Kg1 := Aside0.mk (b8.keep Kg1.out Dg1_g3.out); replace HB := Aside0.mk (b8.below HB.out Gg3.out HB.out.size); replace Kg3 := Aside0.mk q8; clear b8) | ((with_reducible refine gate_dst (N := 38) rfl ?_); refine ld58 Kg1.out rfl _ rfl rfl ?_))
  have SS : B3 w g1 g3 g11 (enc p) (enc (p)) (enc (p)) _ := ⟨Kg1.out, Kg3.out, Kg11.out, HB.out⟩
  clear Kg1 Kg3 Kg8 Kg11
  refine startB (SS.step (drewB _)) (n := 33) [] #[false, false, false, false, false, false, false, false, false, false, false, false, false, false, false, false, false, false, false, false, false, false, false, false, false, false, false, false, false, false, false, false, false] (by kernel_rfl) rfl rfl (fun hHeld => ?_)
  refine take_ (i := 0) (N := some 85) (v := _) (a' := ?_) #[true, false, false, false, false, false, false, false, false, false, false, false, false, false, false, false, false, false, false, false, false, false, false, false, false, false, false, false, false, false, false, false, false] rfl rfl (by kernel_rfl) (fun _ _ _ h => h) (Or.inl ⟨by rfl, fun w2 h => run_ld58 h.k3 (.tmp 11) rfl rfl⟩) hHeld ?_ ?_
  rotate_left
  · simp only [Act.put, List.setIfInBounds_toArray, List.set_cons_zero, List.set_cons_succ, i64_w, i32_w]
    rfl
  refine take_ (i := 1) (N := some 86) (v := _) (a' := ?_) #[true, true, false, false, false, false, false, false, false, false, false, false, false, false, false, false, false, false, false, false, false, false, false, false, false, false, false, false, false, false, false, false, false] rfl rfl (by kernel_rfl) (fun _ _ _ h => h) (Or.inl ⟨by rfl, fun w2 h => run_ld58 h.k2 (.tmp 3) rfl rfl⟩) hHeld ?_ ?_
  rotate_left
  · simp only [Act.put, List.setIfInBounds_toArray, List.set_cons_zero, List.set_cons_succ, i64_w, i32_w]
    rfl
  refine pure_ (i := 2) (N := some 87) (v := ?_) (a' := ?_) #[true, true, true, false, false, false, false, false, false, false, false, false, false, false, false, false, false, false, false, false, false, false, false, false, false, false, false, false, false, false, false, false, false] rfl rfl (by kernel_rfl) (fun _ _ _ h => h) (Or.inl ⟨by rfl, ?_⟩) ?_ ?_
  rotate_left
  · intro w'
    go_simp
    with_reducible rfl
  rotate_left
  · simp only [Act.put, List.setIfInBounds_toArray, List.set_cons_zero, List.set_cons_succ, i64_w, i32_w]
    rfl
  refine pure_ (i := 3) (N := some 88) (v := ?_) (a' := ?_) #[true, true, true, true, false, false, false, false, false, false, false, false, false, false, false, false, false, false, false, false, false, false, false, false, false, false, false, false, false, false, false, false, false] rfl rfl (by kernel_rfl) (fun _ _ _ h => h) (Or.inl ⟨by rfl, ?_⟩) ?_ ?_
  rotate_left
  · intro w'
    go_simp
    with_reducible rfl
  rotate_left
  · simp only [Act.put, List.setIfInBounds_toArray, List.set_cons_zero, List.set_cons_succ, i64_w, i32_w]
    rfl
  refine pure_ (i := 4) (N := some 89) (v := ?_) (a' := ?_) #[true, true, true, true, true, false, false, false, false, false, false, false, false, false, false, false, false, false, false, false, false, false, false, false, false, false, false, false, false, false, false, false, false] rfl rfl (by kernel_rfl) (fun _ _ _ h => h) (Or.inl ⟨by rfl, ?_⟩) ?_ ?_
  rotate_left
  · intro w'
    go_simp
    with_reducible rfl
  rotate_left
  · simp only [Act.put, List.setIfInBounds_toArray, List.set_cons_zero, List.set_cons_succ, i64_w, i32_w]
    rfl
  refine pure_ (i := 5) (N := some 90) (v := ?_) (a' := ?_) #[true, true, true, true, true, true, false, false, false, false, false, false, false, false, false, false, false, false, false, false, false, false, false, false, false, false, false, false, false, false, false, false, false] rfl rfl (by kernel_rfl) (fun _ _ _ h => h) (Or.inl ⟨by rfl, ?_⟩) ?_ ?_
  rotate_left
  · intro w'
    go_simp
    with_reducible rfl
  rotate_left
  · simp only [Act.put, List.setIfInBounds_toArray, List.set_cons_zero, List.set_cons_succ, i64_w, i32_w]
    rfl
  refine pure_ (i := 6) (N := some 91) (v := ?_) (a' := ?_) #[true, true, true, true, true, true, true, false, false, false, false, false, false, false, false, false, false, false, false, false, false, false, false, false, false, false, false, false, false, false, false, false, false] rfl rfl (by kernel_rfl) (fun _ _ _ h => h) (Or.inl ⟨by rfl, ?_⟩) ?_ ?_
  rotate_left
  · intro w'
    go_simp
    with_reducible rfl
  rotate_left
  · simp only [Act.put, List.setIfInBounds_toArray, List.set_cons_zero, List.set_cons_succ, i64_w, i32_w]
    rfl
  refine pure_ (i := 7) (N := some 92) (v := ?_) (a' := ?_) #[true, true, true, true, true, true, true, true, false, false, false, false, false, false, false, false, false, false, false, false, false, false, false, false, false, false, false, false, false, false, false, false, false] rfl rfl (by kernel_rfl) (fun _ _ _ h => h) (Or.inl ⟨by rfl, ?_⟩) ?_ ?_
  rotate_left
  · intro w'
    go_simp
    with_reducible rfl
  rotate_left
  · simp only [Act.put, List.setIfInBounds_toArray, List.set_cons_zero, List.set_cons_succ, i64_w, i32_w]
    rfl
  refine pure_ (i := 8) (N := some 93) (v := ?_) (a' := ?_) #[true, true, true, true, true, true, true, true, true, false, false, false, false, false, false, false, false, false, false, false, false, false, false, false, false, false, false, false, false, false, false, false, false] rfl rfl (by kernel_rfl) (fun _ _ _ h => h) (Or.inl ⟨by rfl, ?_⟩) ?_ ?_
  rotate_left
  · intro w'
    go_simp
    with_reducible rfl
  rotate_left
  · simp only [Act.put, List.setIfInBounds_toArray, List.set_cons_zero, List.set_cons_succ, i64_w, i32_w]
    rfl
  refine pure_ (i := 9) (N := some 94) (v := ?_) (a' := ?_) #[true, true, true, true, true, true, true, true, true, true, false, false, false, false, false, false, false, false, false, false, false, false, false, false, false, false, false, false, false, false, false, false, false] rfl rfl (by kernel_rfl) (fun _ _ _ h => h) (Or.inl ⟨by rfl, ?_⟩) ?_ ?_
  rotate_left
  · intro w'
    go_simp
    with_reducible rfl
  rotate_left
  · simp only [Act.put, List.setIfInBounds_toArray, List.set_cons_zero, List.set_cons_succ, i64_w, i32_w]
    rfl
  refine pure_ (i := 10) (N := some 95) (v := ?_) (a' := ?_) #[true, true, true, true, true, true, true, true, true, true, true, false, false, false, false, false, false, false, false, false, false, false, false, false, false, false, false, false, false, false, false, false, false] rfl rfl (by kernel_rfl) (fun _ _ _ h => h) (Or.inl ⟨by rfl, ?_⟩) ?_ ?_
  rotate_left
  · intro w'
    go_simp
    with_reducible rfl
  rotate_left
  · simp only [Act.put, List.setIfInBounds_toArray, List.set_cons_zero, List.set_cons_succ, i64_w, i32_w]
    rfl
  refine pure_ (i := 13) (N := some 98) (v := ?_) (a' := ?_) #[true, true, true, true, true, true, true, true, true, true, true, false, false, true, false, false, false, false, false, false, false, false, false, false, false, false, false, false, false, false, false, false, false] rfl rfl (by kernel_rfl) (fun _ _ _ h => h) (Or.inl ⟨by rfl, ?_⟩) ?_ ?_
  rotate_left
  · intro w'
    go_simp
    with_reducible rfl
  rotate_left
  · simp only [Act.put, List.setIfInBounds_toArray, List.set_cons_zero, List.set_cons_succ, i64_w, i32_w]
    rfl
  refine take_ (i := 11) (N := some 96) (v := _) (a' := ?_) #[true, true, true, true, true, true, true, true, true, true, true, true, false, true, false, false, false, false, false, false, false, false, false, false, false, false, false, false, false, false, false, false, false] rfl rfl (by kernel_rfl) (fun _ _ _ h => h) (Or.inl ⟨by rfl, fun w2 h => run_ld1 h.k1 3 (.tmp 95) rfl rfl (u := .int .i64 0) Try.underlying3 rfl ((enc_1 p).trans (congrArg (fun x => some (Value.int .i64 x)) H.out))⟩) hHeld ?_ ?_
  rotate_left
  · simp only [Act.put, List.setIfInBounds_toArray, List.set_cons_zero, List.set_cons_succ, i64_w, i32_w]
    rfl
  refine take_ (i := 14) (N := some 99) (v := _) (a' := ?_) #[true, true, true, true, true, true, true, true, true, true, true, true, false, true, true, false, false, false, false, false, false, false, false, false, false, false, false, false, false, false, false, false, false] rfl rfl (by kernel_rfl) (fun _ _ _ h => h) (Or.inl ⟨by rfl, fun w2 h => run_ld1 h.k1 3 (.tmp 98) rfl rfl (u := .int .i64 0) Try.underlying3 rfl ((enc_1 p).trans (congrArg (fun x => some (Value.int .i64 x)) H.out))⟩) hHeld ?_ ?_
  rotate_left
  · simp only [Act.put, List.setIfInBounds_toArray, List.set_cons_zero, List.set_cons_succ, i64_w, i32_w]
    rfl
  refine pure_ (i := 15) (N := some 100) (v := ?_) (a' := ?_) #[true, true, true, true, true, true, true, true, true, true, true, true, false, true, true, true, false, false, false, false, false, false, false, false, false, false, false, false, false, false, false, false, false] rfl rfl (by kernel_rfl) (fun _ _ _ h => h) (Or.inl ⟨by rfl, ?_⟩) ?_ ?_
  rotate_left
  · intro w'
    go_simp
    with_reducible rfl
  rotate_left
  · simp only [Act.put, List.setIfInBounds_toArray, List.set_cons_zero, List.set_cons_succ, i64_w, i32_w]
    rfl
  refine one_ (i := 12) (N := some 97) #[true, true, true, true, true, true, true, true, true, true, true, true, true, true, true, true, false, false, false, false, false, false, false, false, false, false, false, false, false, false, false, false, false] rfl rfl (by kernel_rfl) (by decide) (fun K hK => ?_)
  refine goes_ Try.func43 (by kernel_rfl) rfl #[.int .i64 0] (by rfl) rfl rfl (by (try simp only [List.map_toArray, List.map_cons, List.map_nil]); first | done | rfl) ?_
  refine (Learns_n 0 rfl _).mono ?_
  rintro e w3 ⟨rfl, hb⟩
  refine ⟨_, rfl, ?_⟩
  refine hK.out _ _ (hHeld.step hb) (fun hHeld => ?_)
  clear hK K
  refine norm_ (a' := ?_) ?_ ?_
  rotate_left
  · show Act.put _ (some 97) _ = _
    simp only [Act.put, List.setIfInBounds_toArray, List.set_cons_zero, List.set_cons_succ, i64_w, i32_w]
    rfl
  refine pure_ (i := 16) (N := some 101) (v := ?_) (a' := ?_) #[true, true, true, true, true, true, true, true, true, true, true, true, true, true, true, true, true, false, false, false, false, false, false, false, false, false, false, false, false, false, false, false, false] rfl rfl (by kernel_rfl) (fun _ _ _ h => h) (Or.inl ⟨by rfl, ?_⟩) ?_ ?_
  rotate_left
  · intro w'
    go_simp
    with_reducible rfl
  rotate_left
  · simp only [Act.put, List.setIfInBounds_toArray, List.set_cons_zero, List.set_cons_succ, i64_w, i32_w]
    rfl
  refine pure_ (i := 17) (N := some 102) (v := ?_) (a' := ?_) #[true, true, true, true, true, true, true, true, true, true, true, true, true, true, true, true, true, true, false, false, false, false, false, false, false, false, false, false, false, false, false, false, false] rfl rfl (by kernel_rfl) (fun _ _ _ h => h) (Or.inl ⟨by rfl, ?_⟩) ?_ ?_
  rotate_left
  · intro w'
    go_simp
    with_reducible rfl
  rotate_left
  · simp only [Act.put, List.setIfInBounds_toArray, List.set_cons_zero, List.set_cons_succ, i64_w, i32_w]
    rfl
  refine take_ (i := 18) (N := some 103) (v := _) (a' := ?_) #[true, true, true, true, true, true, true, true, true, true, true, true, true, true, true, true, true, true, true, false, false, false, false, false, false, false, false, false, false, false, false, false, false] rfl rfl (by kernel_rfl) (fun _ _ _ h => h) (Or.inl ⟨by rfl, fun w2 h => run_ld1 h.k1 3 (.tmp 102) rfl rfl (u := .int .i64 0) Try.underlying3 rfl ((enc_1 p).trans (congrArg (fun x => some (Value.int .i64 x)) H.out))⟩) hHeld ?_ ?_
  rotate_left
  · simp only [Act.put, List.setIfInBounds_toArray, List.set_cons_zero, List.set_cons_succ, i64_w, i32_w]
    rfl
  refine pure_ (i := 19) (N := some 104) (v := ?_) (a' := ?_) #[true, true, true, true, true, true, true, true, true, true, true, true, true, true, true, true, true, true, true, true, false, false, false, false, false, false, false, false, false, false, false, false, false] rfl rfl (by kernel_rfl) (fun _ _ _ h => h) (Or.inl ⟨by rfl, ?_⟩) ?_ ?_
  rotate_left
  · intro w'
    go_simp
    with_reducible rfl
  rotate_left
  · simp only [Act.put, List.setIfInBounds_toArray, List.set_cons_zero, List.set_cons_succ, i64_w, i32_w]
    rfl
  refine pure_ (i := 20) (N := some 105) (v := ?_) (a' := ?_) #[true, true, true, true, true, true, true, true, true, true, true, true, true, true, true, true, true, true, true, true, true, false, false, false, false, false, false, false, false, false, false, false, false] rfl rfl (by kernel_rfl) (fun _ _ _ h => h) (Or.inl ⟨by rfl, ?_⟩) ?_ ?_
  rotate_left
  · intro w'
    go_simp
    with_reducible rfl
  rotate_left
  · simp only [Act.put, List.setIfInBounds_toArray, List.set_cons_zero, List.set_cons_succ, i64_w, i32_w]
    rfl
  refine pure_ (i := 21) (N := some 106) (v := ?_) (a' := ?_) #[true, true, true, true, true, true, true, true, true, true, true, true, true, true, true, true, true, true, true, true, true, true, false, false, false, false, false, false, false, false, false, false, false] rfl rfl (by kernel_rfl) (fun _ _ _ h => h) (Or.inl ⟨by rfl, ?_⟩) ?_ ?_
  rotate_left
  · intro w'
    go_simp
    with_reducible rfl
  rotate_left
  · simp only [Act.put, List.setIfInBounds_toArray, List.set_cons_zero, List.set_cons_succ, i64_w, i32_w]
    rfl
  refine pure_ (i := 22) (N := some 107) (v := ?_) (a' := ?_) #[true, true, true, true, true, true, true, true, true, true, true, true, true, true, true, true, true, true, true, true, true, true, true, false, false, false, false, false, false, false, false, false, false] rfl rfl (by kernel_rfl) (fun _ _ _ h => h) (Or.inl ⟨by rfl, ?_⟩) ?_ ?_
  rotate_left
  · intro w'
    go_simp
    with_reducible rfl
  rotate_left
  · simp only [Act.put, List.setIfInBounds_toArray, List.set_cons_zero, List.set_cons_succ, i64_w, i32_w]
    rfl
  refine pure_ (i := 23) (N := some 108) (v := ?_) (a' := ?_) #[true, true, true, true, true, true, true, true, true, true, true, true, true, true, true, true, true, true, true, true, true, true, true, true, false, false, false, false, false, false, false, false, false] rfl rfl (by kernel_rfl) (fun _ _ _ h => h) (Or.inl ⟨by rfl, ?_⟩) ?_ ?_
  rotate_left
  · intro w'
    go_simp
    with_reducible rfl
  rotate_left
  · simp only [Act.put, List.setIfInBounds_toArray, List.set_cons_zero, List.set_cons_succ, i64_w, i32_w]
    rfl
  refine pure_ (i := 24) (N := some 109) (v := ?_) (a' := ?_) #[true, true, true, true, true, true, true, true, true, true, true, true, true, true, true, true, true, true, true, true, true, true, true, true, true, false, false, false, false, false, false, false, false] rfl rfl (by kernel_rfl) (fun _ _ _ h => h) (Or.inl ⟨by rfl, ?_⟩) ?_ ?_
  rotate_left
  · intro w'
    go_simp
    with_reducible rfl
  rotate_left
  · simp only [Act.put, List.setIfInBounds_toArray, List.set_cons_zero, List.set_cons_succ, i64_w, i32_w]
    rfl
  refine pure_ (i := 27) (N := some 112) (v := ?_) (a' := ?_) #[true, true, true, true, true, true, true, true, true, true, true, true, true, true, true, true, true, true, true, true, true, true, true, true, true, false, false, true, false, false, false, false, false] rfl rfl (by kernel_rfl) (fun _ _ _ h => h) (Or.inl ⟨by rfl, ?_⟩) ?_ ?_
  rotate_left
  · intro w'
    go_simp
    with_reducible rfl
  rotate_left
  · simp only [Act.put, List.setIfInBounds_toArray, List.set_cons_zero, List.set_cons_succ, i64_w, i32_w]
    rfl
  refine take_ (i := 25) (N := some 110) (v := _) (a' := ?_) #[true, true, true, true, true, true, true, true, true, true, true, true, true, true, true, true, true, true, true, true, true, true, true, true, true, true, false, true, false, false, false, false, false] rfl rfl (by kernel_rfl) (fun _ _ _ h => h) (Or.inl ⟨by rfl, fun w2 h => run_ld1 h.k1 3 (.tmp 109) rfl rfl (u := .int .i64 0) Try.underlying3 rfl ((enc_1 p).trans (congrArg (fun x => some (Value.int .i64 x)) H.out))⟩) hHeld ?_ ?_
  rotate_left
  · simp only [Act.put, List.setIfInBounds_toArray, List.set_cons_zero, List.set_cons_succ, i64_w, i32_w]
    rfl
  refine take_ (i := 28) (N := some 113) (v := _) (a' := ?_) #[true, true, true, true, true, true, true, true, true, true, true, true, true, true, true, true, true, true, true, true, true, true, true, true, true, true, false, true, true, false, false, false, false] rfl rfl (by kernel_rfl) (fun _ _ _ h => h) (Or.inl ⟨by rfl, fun w2 h => run_ld1 h.k1 3 (.tmp 112) rfl rfl (u := .int .i64 0) Try.underlying3 rfl ((enc_1 p).trans (congrArg (fun x => some (Value.int .i64 x)) H.out))⟩) hHeld ?_ ?_
  rotate_left
  · simp only [Act.put, List.setIfInBounds_toArray, List.set_cons_zero, List.set_cons_succ, i64_w, i32_w]
    rfl
  refine pure_ (i := 29) (N := some 114) (v := ?_) (a' := ?_) #[true, true, true, true, true, true, true, true, true, true, true, true, true, true, true, true, true, true, true, true, true, true, true, true, true, true, false, true, true, true, false, false, false] rfl rfl (by kernel_rfl) (fun _ _ _ h => h) (Or.inl ⟨by rfl, ?_⟩) ?_ ?_
  rotate_left
  · intro w'
    go_simp
    with_reducible rfl
  rotate_left
  · simp only [Act.put, List.setIfInBounds_toArray, List.set_cons_zero, List.set_cons_succ, i64_w, i32_w]
    rfl
  refine one_ (i := 26) (N := some 111) #[true, true, true, true, true, true, true, true, true, true, true, true, true, true, true, true, true, true, true, true, true, true, true, true, true, true, true, true, true, true, false, false, false] rfl rfl (by kernel_rfl) (by decide) (fun K hK => ?_)
  refine goes_ Try.func44 (by kernel_rfl) rfl #[.int .i64 0] (by rfl) rfl rfl (by (try simp only [List.map_toArray, List.map_cons, List.map_nil]); first | done | rfl) ?_
  refine (Forwards_calls 0 _).mono ?_
  rintro e w3 ⟨rfl, hb⟩
  refine ⟨_, rfl, ?_⟩
  refine hK.out _ _ (hHeld.step hb) (fun hHeld => ?_)
  clear hK K
  refine norm_ (a' := ?_) ?_ ?_
  rotate_left
  · show Act.put _ (some 111) _ = _
    simp only [Act.put, List.setIfInBounds_toArray, List.set_cons_zero, List.set_cons_succ, i64_w, i32_w]
    rfl
  refine pure_ (i := 30) (N := some 115) (v := ?_) (a' := ?_) #[true, true, true, true, true, true, true, true, true, true, true, true, true, true, true, true, true, true, true, true, true, true, true, true, true, true, true, true, true, true, true, false, false] rfl rfl (by kernel_rfl) (fun _ _ _ h => h) (Or.inl ⟨by rfl, ?_⟩) ?_ ?_
  rotate_left
  · intro w'
    go_simp
    with_reducible rfl
  rotate_left
  · simp only [Act.put, List.setIfInBounds_toArray, List.set_cons_zero, List.set_cons_succ, i64_w, i32_w]
    rfl
  refine pure_ (i := 31) (N := some 116) (v := ?_) (a' := ?_) #[true, true, true, true, true, true, true, true, true, true, true, true, true, true, true, true, true, true, true, true, true, true, true, true, true, true, true, true, true, true, true, true, false] rfl rfl (by kernel_rfl) (fun _ _ _ h => h) (Or.inl ⟨by rfl, ?_⟩) ?_ ?_
  rotate_left
  · intro w'
    go_simp
    with_reducible rfl
  rotate_left
  · simp only [Act.put, List.setIfInBounds_toArray, List.set_cons_zero, List.set_cons_succ, i64_w, i32_w]
    rfl
  refine pure_ (i := 32) (N := some 2) (v := ?_) (a' := ?_) #[true, true, true, true, true, true, true, true, true, true, true, true, true, true, true, true, true, true, true, true, true, true, true, true, true, true, true, true, true, true, true, true, true] rfl rfl (by kernel_rfl) (fun _ _ _ h => h) (Or.inl ⟨by rfl, ?_⟩) ?_ ?_
  rotate_left
  · intro w'
    go_simp
    with_reducible rfl
  rotate_left
  · simp only [Act.put, List.setIfInBounds_toArray, List.set_cons_zero, List.set_cons_succ, i64_w, i32_w]
    rfl
  refine done_ (by kernel_rfl) ?_
  go_wp2_with fail
  go_ret
  exact ⟨by simp, hHeld.below⟩

set_option maxHeartbeats 8000000 in
set_option maxRecDepth 100000 in
theorem Plays_1 (p : Pt) (F : ∀ w, Calls Try.prog 33 #[.agg (enc p)] w fun e w' => e = .returned (.bool true) ∧ Below w.heap.size w w') (h : p.st = 1) (w : World) : Calls Try.prog 13 #[.agg (enc p)] w fun e w' => e = .returned (.bool true) ∧ Below w.heap.size w w' := by
  have c0 : (p.st == 0) = false := by rw [h]; rfl
  have c1 : (p.st == 1) = true := by rw [h]; rfl
  have c2 : (p.st == 2) = false := by rw [h]; rfl
  have c3 : (p.st == 3) = false := by rw [h]; rfl
  have c4 : (p.st == 4) = false := by rw [h]; rfl
  have H := Aside0.mk h
  clear h
  have HB := Aside0.mk (Below.refl w.heap.size w)
  go_enter Try.func13, Try.ntmps13
  go_wp2_with (first | ((with_reducible refine gate_dst (N := 1) rfl ?_); refine box_event rfl (N := 1) rfl (cs := enc p) (t := 58) (by first | (go_simp; done) | (go_simp; rfl)) ?_; intro g1 eg1 v1 Kg1 b1; have Gg1 := Aside0.mk (show w.heap.size ≤ g1 from by rw [eg1]; exact HB.out.size); replace HB := Aside0.mk (below_step HB.out b1); replace Kg1 := Aside0.mk Kg1; clear b1 eg1) | ((with_reducible refine gate_dst (N := 13) rfl ?_); refine goesL_ (some 13) rfl rfl Try.func32 (by kernel_rfl) rfl #[] rfl (by (try simp only [List.map_toArray, List.map_cons, List.map_nil]); first | done | rfl) ?_; refine (awake_calls _).mono ?_; rintro e v2 ⟨rfl, b2⟩; refine ⟨_, rfl, ?_⟩; replace Kg1 := Aside0.mk (blk_below Kg1.out b2); replace HB := Aside0.mk (below_step HB.out b2); clear b2) | ((with_reducible refine gate_dst (N := 16) rfl ?_); (refine gate_guard (by rfl) ?_; dsimp only); refine ld58 Kg1.out rfl _ rfl rfl ?_) | (go_at_call 33; refine (F _).mono ?_; rintro e v3 ⟨rfl, b3⟩; replace Kg1 := Aside0.mk (blk_below Kg1.out b3); replace HB := Aside0.mk (below_step HB.out b3); clear b3) | ((with_reducible refine gate_dst (N := 21) rfl ?_); refine ld58 Kg1.out rfl _ rfl rfl ?_) | ((with_reducible refine gate_dst (N := 3) rfl ?_); refine box_event rfl (N := 3) rfl (cs := #[.int .u16 0, .int .i64 0, .int .u32 0, .int .u64 0, .int .u32 0, .int .u64 0, .int .u16 0, .bool false, .bool false, .bool false, .int .i64 0, .bool false, .int .i64 0, .bool false, .int .i64 0]) (t := 58) (by first | (go_simp; done) | (go_simp; rfl)) ?_; intro g3 eg3 v4 Kg3 b4; have Dg1_g3 := Aside0.mk (show g1 ≠ g3 from by have := blk_lt Kg1.out; omega); replace Kg1 := Aside0.mk (blk_below Kg1.out b4); have Gg3 := Aside0.mk (show w.heap.size ≤ g3 from by rw [eg3]; exact HB.out.size); replace HB := Aside0.mk (below_step HB.out b4); replace Kg3 := Aside0.mk Kg3; clear b4 eg3) | ((with_reducible refine gate_store (p := 3) rfl ?_); refine st58 (p := p) Kg3.out (by first | exact enc_size _ | rfl) rfl _ _ rfl rfl rfl ?_; intro v5 q5 b5; replace Kg1 := Aside0.mk (b5.keep Kg1.out Dg1_g3.out); replace HB := Aside0.mk (b5.below HB.out Gg3.out HB.out.size); replace Kg3 := Aside0.mk q5; clear b5) | ((with_reducible refine gate_dst (N := 24) rfl ?_); refine ev_ld1 rfl _ _ rfl g1 1 rfl Kg1.out (.int .i64 p.st) Try.underlying3 rfl (enc_1 p) ?_) | ((with_reducible refine gate_dst (N := 25) rfl ?_); refine goesL_ (some 25) rfl rfl Try.func40 (by kernel_rfl) rfl #[.int .i64 p.st] rfl (by (try simp only [List.map_toArray, List.map_cons, List.map_nil]); first | done | rfl) ?_; refine (refRise_1 _ c1 _).mono ?_; rintro e v6 ⟨rfl, b6⟩; refine ⟨_, rfl, ?_⟩; replace Kg1 := Aside0.mk (blk_below Kg1.out b6); replace Kg3 := Aside0.mk (blk_below Kg3.out b6); replace HB := Aside0.mk (below_step HB.out b6); clear b6) | ((with_reducible refine gate_store (p := 29) rfl ?_); refine ev_st rfl 3 _ _ rfl g3 1 rfl rfl #[.int .i64 2] rfl info3 (by simp [Value.oneCell']) Kg3.out (by first | (rw [enc_size]; simp; done) | simp) (enc ({ p with st := 2 })) (enc_st _ _) ?_; intro v7 q7 b7; replace Kg1 := Aside0.mk (b7.keep Kg1.out Dg1_g3.out); replace HB := Aside0.mk (b7.below HB.out Gg3.out HB.out.size); replace Kg3 := Aside0.mk q7; clear b7) | ((with_reducible refine gate_store (p := 33) rfl ?_); refine ev_st rfl 39 _ _ rfl g3 11 rfl rfl #[.bool true, .int .i64 0] rfl info39 (by simp [Value.oneCell']) Kg3.out (by first | (rw [enc_size]; simp; done) | simp) (enc ({ p with st := 2, dOn := true, dV := 0 })) (enc_delay _ _ _) ?_; intro v8 q8 b8; replace Kg1 := Aside0.mk (b8.keep Kg1.out Dg1_g3.out); replace HB := Aside0.mk (b8.below HB.out Gg3.out HB.out.size); replace Kg3 := Aside0.mk q8; clear b8))
  have SS : B2 w g1 g3 (enc p) (enc ({ p with st := 2, dOn := true, dV := 0 })) _ := ⟨Kg1.out, Kg3.out, HB.out⟩
  clear Kg1 Kg3
  refine startB (SS.step (drewB _)) (n := 4) [] #[false, false, false, false] (by kernel_rfl) rfl rfl (fun hHeld => ?_)
  refine take_ (i := 0) (N := some 34) (v := _) (a' := ?_) #[true, false, false, false] rfl rfl (by kernel_rfl) (fun _ _ _ h => h) (Or.inl ⟨by rfl, fun w2 h => run_ld58 h.k1 (.tmp 1) rfl rfl⟩) hHeld ?_ ?_
  rotate_left
  · simp only [Act.put, List.setIfInBounds_toArray, List.set_cons_zero, List.set_cons_succ, i64_w, i32_w]
    rfl
  refine take_ (i := 2) (N := some 36) (v := _) (a' := ?_) #[true, false, true, false] rfl rfl (by kernel_rfl) (fun _ _ _ h => h) (Or.inl ⟨by rfl, fun w2 h => run_ld58 h.k2 (.tmp 3) rfl rfl⟩) hHeld ?_ ?_
  rotate_left
  · simp only [Act.put, List.setIfInBounds_toArray, List.set_cons_zero, List.set_cons_succ, i64_w, i32_w]
    rfl
  refine one_ (i := 1) (N := some 35) #[true, true, true, false] rfl rfl (by kernel_rfl) (by decide) (fun K hK => ?_)
  refine goes_ Try.func38 (by kernel_rfl) rfl #[.agg (enc p)] (by rfl) rfl rfl (by (try simp only [List.map_toArray, List.map_cons, List.map_nil]); first | done | rfl) ?_
  refine (Rise_1 p H.out _).mono ?_
  rintro e w3 ⟨rfl, hb⟩
  refine ⟨_, rfl, ?_⟩
  refine hK.out _ _ (hHeld.step hb) (fun hHeld => ?_)
  clear hK K
  refine norm_ (a' := ?_) ?_ ?_
  rotate_left
  · show Act.put _ (some 35) _ = _
    simp only [Act.put, List.setIfInBounds_toArray, List.set_cons_zero, List.set_cons_succ, i64_w, i32_w]
    rfl
  refine pure_ (i := 3) (N := some 37) (v := ?_) (a' := ?_) #[true, true, true, true] rfl rfl (by kernel_rfl) (fun _ _ _ h => h) (Or.inl ⟨by rfl, ?_⟩) ?_ ?_
  rotate_left
  · intro w'
    go_simp
    with_reducible rfl
  rotate_left
  · simp only [Act.put, List.setIfInBounds_toArray, List.set_cons_zero, List.set_cons_succ, i64_w, i32_w]
    rfl
  refine done_ (by kernel_rfl) ?_
  have Kg1 := Aside0.mk hHeld.k1
  have Kg3 := Aside0.mk hHeld.k2
  replace HB := Aside0.mk hHeld.below
  clear hHeld SS
  go_wp2_with (first | ((with_reducible refine gate_store (p := 11) rfl ?_); refine st58 (p := p) Kg11.out (by first | exact enc_size _ | rfl) rfl _ _ rfl rfl rfl ?_; intro v20 q20 b20; replace Kg1 := Aside0.mk (b20.keep Kg1.out Dg1_g11.out); replace Kg3 := Aside0.mk (b20.keep Kg3.out Dg3_g11.out); replace Kg8 := Aside0.mk (b20.keep Kg8.out Dg8_g11.out); replace HB := Aside0.mk (b20.below HB.out Gg11.out HB.out.size); replace Kg11 := Aside0.mk q20; clear b20) | ((with_reducible refine gate_dst (N := 11) rfl ?_); refine box_event rfl (N := 11) rfl (cs := #[.int .u16 0, .int .i64 0, .int .u32 0, .int .u64 0, .int .u32 0, .int .u64 0, .int .u16 0, .bool false, .bool false, .bool false, .int .i64 0, .bool false, .int .i64 0, .bool false, .int .i64 0]) (t := 58) (by first | (go_simp; done) | (go_simp; rfl)) ?_; intro g11 eg11 v19 Kg11 b19; have Dg1_g11 := Aside0.mk (show g1 ≠ g11 from by have := blk_lt Kg1.out; omega); replace Kg1 := Aside0.mk (blk_below Kg1.out b19); have Dg3_g11 := Aside0.mk (show g3 ≠ g11 from by have := blk_lt Kg3.out; omega); replace Kg3 := Aside0.mk (blk_below Kg3.out b19); have Dg8_g11 := Aside0.mk (show g8 ≠ g11 from by have := blk_lt Kg8.out; omega); replace Kg8 := Aside0.mk (blk_below Kg8.out b19); have Gg11 := Aside0.mk (show w.heap.size ≤ g11 from by rw [eg11]; exact HB.out.size); replace HB := Aside0.mk (below_step HB.out b19); replace Kg11 := Aside0.mk Kg11; clear b19 eg11) | ((with_reducible refine gate_dst (N := 82) rfl ?_); refine goesL_ (some 82) rfl rfl Try.func39 (by kernel_rfl) rfl #[.agg (enc p)] rfl (by (try simp only [List.map_toArray, List.map_cons, List.map_nil]); first | done | rfl) ?_; refine (Next_0 p (by rw [H.out]; decide) (by rw [H.out]; decide) _).mono ?_; rintro e v18 ⟨rfl, b18⟩; refine ⟨_, rfl, ?_⟩; replace Kg1 := Aside0.mk (blk_below Kg1.out b18); replace Kg3 := Aside0.mk (blk_below Kg3.out b18); replace Kg8 := Aside0.mk (blk_below Kg8.out b18); replace HB := Aside0.mk (below_step HB.out b18); clear b18) | ((with_reducible refine gate_dst (N := 81) rfl ?_); refine ld58 Kg1.out rfl _ rfl rfl ?_) | ((with_reducible refine gate_store (p := 75) rfl ?_); refine ev_st rfl 3 _ _ rfl g3 1 rfl rfl #[.int .i64 (p.st)] rfl info3 (by simp [Value.oneCell']) Kg3.out (by first | (rw [enc_size]; simp; done) | simp) (enc (p)) (enc_st _ _) ?_; intro v17 q17 b17; replace Kg1 := Aside0.mk (b17.keep Kg1.out Dg1_g3.out); replace Kg8 := Aside0.mk (b17.keep Kg8.out Dg3_g8.out.symm); replace HB := Aside0.mk (b17.below HB.out Gg3.out HB.out.size); replace Kg3 := Aside0.mk q17; clear b17) | ((with_reducible refine gate_dst (N := 70) rfl ?_); refine goesL_ (some 70) rfl rfl Try.func42 (by kernel_rfl) rfl #[.int .i64 p.st] rfl (by (try simp only [List.map_toArray, List.map_cons, List.map_nil]); first | done | rfl) ?_; refine (refNext_0 _ c2 c3 _).mono ?_; rintro e v16 ⟨rfl, b16⟩; refine ⟨_, rfl, ?_⟩; replace Kg1 := Aside0.mk (blk_below Kg1.out b16); replace Kg3 := Aside0.mk (blk_below Kg3.out b16); replace Kg8 := Aside0.mk (blk_below Kg8.out b16); replace HB := Aside0.mk (below_step HB.out b16); clear b16) | ((with_reducible refine gate_dst (N := 69) rfl ?_); refine ev_ld1 rfl _ _ rfl g1 1 rfl Kg1.out (.int .i64 p.st) Try.underlying3 rfl (enc_1 p) ?_) | ((with_reducible refine gate_store (p := 3) rfl ?_); refine st58 (p := p) Kg3.out (by first | exact enc_size _ | rfl) rfl _ _ rfl rfl rfl ?_; intro v15 q15 b15; replace Kg1 := Aside0.mk (b15.keep Kg1.out Dg1_g3.out); replace Kg8 := Aside0.mk (b15.keep Kg8.out Dg3_g8.out.symm); replace HB := Aside0.mk (b15.below HB.out Gg3.out HB.out.size); replace Kg3 := Aside0.mk q15; clear b15) | ((with_reducible refine gate_dst (N := 66) rfl ?_); refine ld58 Kg1.out rfl _ rfl rfl ?_) | ((with_reducible refine gate_dst (N := 58) rfl ?_); refine ld58 Kg3.out rfl _ rfl rfl ?_) | ((with_reducible refine gate_dst (N := 57) rfl ?_); refine ld58 Kg8.out rfl _ rfl rfl ?_) | ((with_reducible refine gate_store (p := 8) rfl ?_); refine st58 (p := p) Kg8.out (by first | exact enc_size _ | rfl) rfl _ _ rfl rfl rfl ?_; intro v14 q14 b14; replace Kg1 := Aside0.mk (b14.keep Kg1.out Dg1_g8.out); replace Kg3 := Aside0.mk (b14.keep Kg3.out Dg3_g8.out); replace HB := Aside0.mk (b14.below HB.out Gg8.out HB.out.size); replace Kg8 := Aside0.mk q14; clear b14) | ((with_reducible refine gate_dst (N := 8) rfl ?_); refine box_event rfl (N := 8) rfl (cs := #[.int .u16 0, .int .i64 0, .int .u32 0, .int .u64 0, .int .u32 0, .int .u64 0, .int .u16 0, .bool false, .bool false, .bool false, .int .i64 0, .bool false, .int .i64 0, .bool false, .int .i64 0]) (t := 58) (by first | (go_simp; done) | (go_simp; rfl)) ?_; intro g8 eg8 v13 Kg8 b13; have Dg1_g8 := Aside0.mk (show g1 ≠ g8 from by have := blk_lt Kg1.out; omega); replace Kg1 := Aside0.mk (blk_below Kg1.out b13); have Dg3_g8 := Aside0.mk (show g3 ≠ g8 from by have := blk_lt Kg3.out; omega); replace Kg3 := Aside0.mk (blk_below Kg3.out b13); have Gg8 := Aside0.mk (show w.heap.size ≤ g8 from by rw [eg8]; exact HB.out.size); replace HB := Aside0.mk (below_step HB.out b13); replace Kg8 := Aside0.mk Kg8; clear b13 eg8) | ((with_reducible refine gate_dst (N := 54) rfl ?_); refine goesL_ (some 54) rfl rfl Try.func37 (by kernel_rfl) rfl #[.agg (enc p)] rfl (by (try simp only [List.map_toArray, List.map_cons, List.map_nil]); first | done | rfl) ?_; refine (Block_1 p H.out _).mono ?_; rintro e v12 ⟨rfl, b12⟩; refine ⟨_, rfl, ?_⟩; replace Kg1 := Aside0.mk (blk_below Kg1.out b12); replace Kg3 := Aside0.mk (blk_below Kg3.out b12); replace HB := Aside0.mk (below_step HB.out b12); clear b12) | ((with_reducible refine gate_dst (N := 53) rfl ?_); refine ld58 Kg1.out rfl _ rfl rfl ?_) | ((with_reducible refine gate_store (p := 47) rfl ?_); refine ev_st rfl 3 _ _ rfl g3 1 rfl rfl #[.int .i64 (p.st)] rfl info3 (by simp [Value.oneCell']) Kg3.out (by first | (rw [enc_size]; simp; done) | simp) (enc (p)) (enc_st _ _) ?_; intro v11 q11 b11; replace Kg1 := Aside0.mk (b11.keep Kg1.out Dg1_g3.out); replace HB := Aside0.mk (b11.below HB.out Gg3.out HB.out.size); replace Kg3 := Aside0.mk q11; clear b11) | ((with_reducible refine gate_dst (N := 42) rfl ?_); refine goesL_ (some 42) rfl rfl Try.func41 (by kernel_rfl) rfl #[.int .i64 p.st] rfl (by (try simp only [List.map_toArray, List.map_cons, List.map_nil]); first | done | rfl) ?_; refine (refBlock_1 _ c0 c1 _).mono ?_; rintro e v10 ⟨rfl, b10⟩; refine ⟨_, rfl, ?_⟩; replace Kg1 := Aside0.mk (blk_below Kg1.out b10); replace Kg3 := Aside0.mk (blk_below Kg3.out b10); replace HB := Aside0.mk (below_step HB.out b10); clear b10) | ((with_reducible refine gate_dst (N := 41) rfl ?_); refine ev_ld1 rfl _ _ rfl g1 1 rfl Kg1.out (.int .i64 p.st) Try.underlying3 rfl (enc_1 p) ?_) | ((with_reducible refine gate_store (p := 3) rfl ?_); refine st58 (p := p) Kg3.out (by first | exact enc_size _ | rfl) rfl _ _ rfl rfl rfl ?_; intro v9 q9 b9; replace Kg1 := Aside0.mk (b9.keep Kg1.out Dg1_g3.out); replace HB := Aside0.mk (b9.below HB.out Gg3.out HB.out.size); replace Kg3 := Aside0.mk q9; clear b9) | ((with_reducible refine gate_dst (N := 38) rfl ?_); refine ld58 Kg1.out rfl _ rfl rfl ?_))
  have SS : B3 w g1 g3 g11 (enc p) (enc (p)) (enc (p)) _ := ⟨Kg1.out, Kg3.out, Kg11.out, HB.out⟩
  clear Kg1 Kg3 Kg8 Kg11
  refine startB (SS.step (drewB _)) (n := 33) [] #[false, false, false, false, false, false, false, false, false, false, false, false, false, false, false, false, false, false, false, false, false, false, false, false, false, false, false, false, false, false, false, false, false] (by kernel_rfl) rfl rfl (fun hHeld => ?_)
  refine take_ (i := 0) (N := some 85) (v := _) (a' := ?_) #[true, false, false, false, false, false, false, false, false, false, false, false, false, false, false, false, false, false, false, false, false, false, false, false, false, false, false, false, false, false, false, false, false] rfl rfl (by kernel_rfl) (fun _ _ _ h => h) (Or.inl ⟨by rfl, fun w2 h => run_ld58 h.k3 (.tmp 11) rfl rfl⟩) hHeld ?_ ?_
  rotate_left
  · simp only [Act.put, List.setIfInBounds_toArray, List.set_cons_zero, List.set_cons_succ, i64_w, i32_w]
    rfl
  refine take_ (i := 1) (N := some 86) (v := _) (a' := ?_) #[true, true, false, false, false, false, false, false, false, false, false, false, false, false, false, false, false, false, false, false, false, false, false, false, false, false, false, false, false, false, false, false, false] rfl rfl (by kernel_rfl) (fun _ _ _ h => h) (Or.inl ⟨by rfl, fun w2 h => run_ld58 h.k2 (.tmp 3) rfl rfl⟩) hHeld ?_ ?_
  rotate_left
  · simp only [Act.put, List.setIfInBounds_toArray, List.set_cons_zero, List.set_cons_succ, i64_w, i32_w]
    rfl
  refine pure_ (i := 2) (N := some 87) (v := ?_) (a' := ?_) #[true, true, true, false, false, false, false, false, false, false, false, false, false, false, false, false, false, false, false, false, false, false, false, false, false, false, false, false, false, false, false, false, false] rfl rfl (by kernel_rfl) (fun _ _ _ h => h) (Or.inl ⟨by rfl, ?_⟩) ?_ ?_
  rotate_left
  · intro w'
    go_simp
    with_reducible rfl
  rotate_left
  · simp only [Act.put, List.setIfInBounds_toArray, List.set_cons_zero, List.set_cons_succ, i64_w, i32_w]
    rfl
  refine pure_ (i := 3) (N := some 88) (v := ?_) (a' := ?_) #[true, true, true, true, false, false, false, false, false, false, false, false, false, false, false, false, false, false, false, false, false, false, false, false, false, false, false, false, false, false, false, false, false] rfl rfl (by kernel_rfl) (fun _ _ _ h => h) (Or.inl ⟨by rfl, ?_⟩) ?_ ?_
  rotate_left
  · intro w'
    go_simp
    with_reducible rfl
  rotate_left
  · simp only [Act.put, List.setIfInBounds_toArray, List.set_cons_zero, List.set_cons_succ, i64_w, i32_w]
    rfl
  refine pure_ (i := 4) (N := some 89) (v := ?_) (a' := ?_) #[true, true, true, true, true, false, false, false, false, false, false, false, false, false, false, false, false, false, false, false, false, false, false, false, false, false, false, false, false, false, false, false, false] rfl rfl (by kernel_rfl) (fun _ _ _ h => h) (Or.inl ⟨by rfl, ?_⟩) ?_ ?_
  rotate_left
  · intro w'
    go_simp
    with_reducible rfl
  rotate_left
  · simp only [Act.put, List.setIfInBounds_toArray, List.set_cons_zero, List.set_cons_succ, i64_w, i32_w]
    rfl
  refine pure_ (i := 5) (N := some 90) (v := ?_) (a' := ?_) #[true, true, true, true, true, true, false, false, false, false, false, false, false, false, false, false, false, false, false, false, false, false, false, false, false, false, false, false, false, false, false, false, false] rfl rfl (by kernel_rfl) (fun _ _ _ h => h) (Or.inl ⟨by rfl, ?_⟩) ?_ ?_
  rotate_left
  · intro w'
    go_simp
    with_reducible rfl
  rotate_left
  · simp only [Act.put, List.setIfInBounds_toArray, List.set_cons_zero, List.set_cons_succ, i64_w, i32_w]
    rfl
  refine pure_ (i := 6) (N := some 91) (v := ?_) (a' := ?_) #[true, true, true, true, true, true, true, false, false, false, false, false, false, false, false, false, false, false, false, false, false, false, false, false, false, false, false, false, false, false, false, false, false] rfl rfl (by kernel_rfl) (fun _ _ _ h => h) (Or.inl ⟨by rfl, ?_⟩) ?_ ?_
  rotate_left
  · intro w'
    go_simp
    with_reducible rfl
  rotate_left
  · simp only [Act.put, List.setIfInBounds_toArray, List.set_cons_zero, List.set_cons_succ, i64_w, i32_w]
    rfl
  refine pure_ (i := 7) (N := some 92) (v := ?_) (a' := ?_) #[true, true, true, true, true, true, true, true, false, false, false, false, false, false, false, false, false, false, false, false, false, false, false, false, false, false, false, false, false, false, false, false, false] rfl rfl (by kernel_rfl) (fun _ _ _ h => h) (Or.inl ⟨by rfl, ?_⟩) ?_ ?_
  rotate_left
  · intro w'
    go_simp
    with_reducible rfl
  rotate_left
  · simp only [Act.put, List.setIfInBounds_toArray, List.set_cons_zero, List.set_cons_succ, i64_w, i32_w]
    rfl
  refine pure_ (i := 8) (N := some 93) (v := ?_) (a' := ?_) #[true, true, true, true, true, true, true, true, true, false, false, false, false, false, false, false, false, false, false, false, false, false, false, false, false, false, false, false, false, false, false, false, false] rfl rfl (by kernel_rfl) (fun _ _ _ h => h) (Or.inl ⟨by rfl, ?_⟩) ?_ ?_
  rotate_left
  · intro w'
    go_simp
    with_reducible rfl
  rotate_left
  · simp only [Act.put, List.setIfInBounds_toArray, List.set_cons_zero, List.set_cons_succ, i64_w, i32_w]
    rfl
  refine pure_ (i := 9) (N := some 94) (v := ?_) (a' := ?_) #[true, true, true, true, true, true, true, true, true, true, false, false, false, false, false, false, false, false, false, false, false, false, false, false, false, false, false, false, false, false, false, false, false] rfl rfl (by kernel_rfl) (fun _ _ _ h => h) (Or.inl ⟨by rfl, ?_⟩) ?_ ?_
  rotate_left
  · intro w'
    go_simp
    with_reducible rfl
  rotate_left
  · simp only [Act.put, List.setIfInBounds_toArray, List.set_cons_zero, List.set_cons_succ, i64_w, i32_w]
    rfl
  refine pure_ (i := 10) (N := some 95) (v := ?_) (a' := ?_) #[true, true, true, true, true, true, true, true, true, true, true, false, false, false, false, false, false, false, false, false, false, false, false, false, false, false, false, false, false, false, false, false, false] rfl rfl (by kernel_rfl) (fun _ _ _ h => h) (Or.inl ⟨by rfl, ?_⟩) ?_ ?_
  rotate_left
  · intro w'
    go_simp
    with_reducible rfl
  rotate_left
  · simp only [Act.put, List.setIfInBounds_toArray, List.set_cons_zero, List.set_cons_succ, i64_w, i32_w]
    rfl
  refine pure_ (i := 13) (N := some 98) (v := ?_) (a' := ?_) #[true, true, true, true, true, true, true, true, true, true, true, false, false, true, false, false, false, false, false, false, false, false, false, false, false, false, false, false, false, false, false, false, false] rfl rfl (by kernel_rfl) (fun _ _ _ h => h) (Or.inl ⟨by rfl, ?_⟩) ?_ ?_
  rotate_left
  · intro w'
    go_simp
    with_reducible rfl
  rotate_left
  · simp only [Act.put, List.setIfInBounds_toArray, List.set_cons_zero, List.set_cons_succ, i64_w, i32_w]
    rfl
  refine take_ (i := 11) (N := some 96) (v := _) (a' := ?_) #[true, true, true, true, true, true, true, true, true, true, true, true, false, true, false, false, false, false, false, false, false, false, false, false, false, false, false, false, false, false, false, false, false] rfl rfl (by kernel_rfl) (fun _ _ _ h => h) (Or.inl ⟨by rfl, fun w2 h => run_ld1 h.k1 3 (.tmp 95) rfl rfl (u := .int .i64 1) Try.underlying3 rfl ((enc_1 p).trans (congrArg (fun x => some (Value.int .i64 x)) H.out))⟩) hHeld ?_ ?_
  rotate_left
  · simp only [Act.put, List.setIfInBounds_toArray, List.set_cons_zero, List.set_cons_succ, i64_w, i32_w]
    rfl
  refine take_ (i := 14) (N := some 99) (v := _) (a' := ?_) #[true, true, true, true, true, true, true, true, true, true, true, true, false, true, true, false, false, false, false, false, false, false, false, false, false, false, false, false, false, false, false, false, false] rfl rfl (by kernel_rfl) (fun _ _ _ h => h) (Or.inl ⟨by rfl, fun w2 h => run_ld1 h.k1 3 (.tmp 98) rfl rfl (u := .int .i64 1) Try.underlying3 rfl ((enc_1 p).trans (congrArg (fun x => some (Value.int .i64 x)) H.out))⟩) hHeld ?_ ?_
  rotate_left
  · simp only [Act.put, List.setIfInBounds_toArray, List.set_cons_zero, List.set_cons_succ, i64_w, i32_w]
    rfl
  refine pure_ (i := 15) (N := some 100) (v := ?_) (a' := ?_) #[true, true, true, true, true, true, true, true, true, true, true, true, false, true, true, true, false, false, false, false, false, false, false, false, false, false, false, false, false, false, false, false, false] rfl rfl (by kernel_rfl) (fun _ _ _ h => h) (Or.inl ⟨by rfl, ?_⟩) ?_ ?_
  rotate_left
  · intro w'
    go_simp
    with_reducible rfl
  rotate_left
  · simp only [Act.put, List.setIfInBounds_toArray, List.set_cons_zero, List.set_cons_succ, i64_w, i32_w]
    rfl
  refine one_ (i := 12) (N := some 97) #[true, true, true, true, true, true, true, true, true, true, true, true, true, true, true, true, false, false, false, false, false, false, false, false, false, false, false, false, false, false, false, false, false] rfl rfl (by kernel_rfl) (by decide) (fun K hK => ?_)
  refine goes_ Try.func43 (by kernel_rfl) rfl #[.int .i64 1] (by rfl) rfl rfl (by (try simp only [List.map_toArray, List.map_cons, List.map_nil]); first | done | rfl) ?_
  refine (Learns_n 1 rfl _).mono ?_
  rintro e w3 ⟨rfl, hb⟩
  refine ⟨_, rfl, ?_⟩
  refine hK.out _ _ (hHeld.step hb) (fun hHeld => ?_)
  clear hK K
  refine norm_ (a' := ?_) ?_ ?_
  rotate_left
  · show Act.put _ (some 97) _ = _
    simp only [Act.put, List.setIfInBounds_toArray, List.set_cons_zero, List.set_cons_succ, i64_w, i32_w]
    rfl
  refine pure_ (i := 16) (N := some 101) (v := ?_) (a' := ?_) #[true, true, true, true, true, true, true, true, true, true, true, true, true, true, true, true, true, false, false, false, false, false, false, false, false, false, false, false, false, false, false, false, false] rfl rfl (by kernel_rfl) (fun _ _ _ h => h) (Or.inl ⟨by rfl, ?_⟩) ?_ ?_
  rotate_left
  · intro w'
    go_simp
    with_reducible rfl
  rotate_left
  · simp only [Act.put, List.setIfInBounds_toArray, List.set_cons_zero, List.set_cons_succ, i64_w, i32_w]
    rfl
  refine pure_ (i := 17) (N := some 102) (v := ?_) (a' := ?_) #[true, true, true, true, true, true, true, true, true, true, true, true, true, true, true, true, true, true, false, false, false, false, false, false, false, false, false, false, false, false, false, false, false] rfl rfl (by kernel_rfl) (fun _ _ _ h => h) (Or.inl ⟨by rfl, ?_⟩) ?_ ?_
  rotate_left
  · intro w'
    go_simp
    with_reducible rfl
  rotate_left
  · simp only [Act.put, List.setIfInBounds_toArray, List.set_cons_zero, List.set_cons_succ, i64_w, i32_w]
    rfl
  refine take_ (i := 18) (N := some 103) (v := _) (a' := ?_) #[true, true, true, true, true, true, true, true, true, true, true, true, true, true, true, true, true, true, true, false, false, false, false, false, false, false, false, false, false, false, false, false, false] rfl rfl (by kernel_rfl) (fun _ _ _ h => h) (Or.inl ⟨by rfl, fun w2 h => run_ld1 h.k1 3 (.tmp 102) rfl rfl (u := .int .i64 1) Try.underlying3 rfl ((enc_1 p).trans (congrArg (fun x => some (Value.int .i64 x)) H.out))⟩) hHeld ?_ ?_
  rotate_left
  · simp only [Act.put, List.setIfInBounds_toArray, List.set_cons_zero, List.set_cons_succ, i64_w, i32_w]
    rfl
  refine pure_ (i := 19) (N := some 104) (v := ?_) (a' := ?_) #[true, true, true, true, true, true, true, true, true, true, true, true, true, true, true, true, true, true, true, true, false, false, false, false, false, false, false, false, false, false, false, false, false] rfl rfl (by kernel_rfl) (fun _ _ _ h => h) (Or.inl ⟨by rfl, ?_⟩) ?_ ?_
  rotate_left
  · intro w'
    go_simp
    with_reducible rfl
  rotate_left
  · simp only [Act.put, List.setIfInBounds_toArray, List.set_cons_zero, List.set_cons_succ, i64_w, i32_w]
    rfl
  refine pure_ (i := 20) (N := some 105) (v := ?_) (a' := ?_) #[true, true, true, true, true, true, true, true, true, true, true, true, true, true, true, true, true, true, true, true, true, false, false, false, false, false, false, false, false, false, false, false, false] rfl rfl (by kernel_rfl) (fun _ _ _ h => h) (Or.inl ⟨by rfl, ?_⟩) ?_ ?_
  rotate_left
  · intro w'
    go_simp
    with_reducible rfl
  rotate_left
  · simp only [Act.put, List.setIfInBounds_toArray, List.set_cons_zero, List.set_cons_succ, i64_w, i32_w]
    rfl
  refine pure_ (i := 21) (N := some 106) (v := ?_) (a' := ?_) #[true, true, true, true, true, true, true, true, true, true, true, true, true, true, true, true, true, true, true, true, true, true, false, false, false, false, false, false, false, false, false, false, false] rfl rfl (by kernel_rfl) (fun _ _ _ h => h) (Or.inl ⟨by rfl, ?_⟩) ?_ ?_
  rotate_left
  · intro w'
    go_simp
    with_reducible rfl
  rotate_left
  · simp only [Act.put, List.setIfInBounds_toArray, List.set_cons_zero, List.set_cons_succ, i64_w, i32_w]
    rfl
  refine pure_ (i := 22) (N := some 107) (v := ?_) (a' := ?_) #[true, true, true, true, true, true, true, true, true, true, true, true, true, true, true, true, true, true, true, true, true, true, true, false, false, false, false, false, false, false, false, false, false] rfl rfl (by kernel_rfl) (fun _ _ _ h => h) (Or.inl ⟨by rfl, ?_⟩) ?_ ?_
  rotate_left
  · intro w'
    go_simp
    with_reducible rfl
  rotate_left
  · simp only [Act.put, List.setIfInBounds_toArray, List.set_cons_zero, List.set_cons_succ, i64_w, i32_w]
    rfl
  refine pure_ (i := 23) (N := some 108) (v := ?_) (a' := ?_) #[true, true, true, true, true, true, true, true, true, true, true, true, true, true, true, true, true, true, true, true, true, true, true, true, false, false, false, false, false, false, false, false, false] rfl rfl (by kernel_rfl) (fun _ _ _ h => h) (Or.inl ⟨by rfl, ?_⟩) ?_ ?_
  rotate_left
  · intro w'
    go_simp
    with_reducible rfl
  rotate_left
  · simp only [Act.put, List.setIfInBounds_toArray, List.set_cons_zero, List.set_cons_succ, i64_w, i32_w]
    rfl
  refine pure_ (i := 24) (N := some 109) (v := ?_) (a' := ?_) #[true, true, true, true, true, true, true, true, true, true, true, true, true, true, true, true, true, true, true, true, true, true, true, true, true, false, false, false, false, false, false, false, false] rfl rfl (by kernel_rfl) (fun _ _ _ h => h) (Or.inl ⟨by rfl, ?_⟩) ?_ ?_
  rotate_left
  · intro w'
    go_simp
    with_reducible rfl
  rotate_left
  · simp only [Act.put, List.setIfInBounds_toArray, List.set_cons_zero, List.set_cons_succ, i64_w, i32_w]
    rfl
  refine pure_ (i := 27) (N := some 112) (v := ?_) (a' := ?_) #[true, true, true, true, true, true, true, true, true, true, true, true, true, true, true, true, true, true, true, true, true, true, true, true, true, false, false, true, false, false, false, false, false] rfl rfl (by kernel_rfl) (fun _ _ _ h => h) (Or.inl ⟨by rfl, ?_⟩) ?_ ?_
  rotate_left
  · intro w'
    go_simp
    with_reducible rfl
  rotate_left
  · simp only [Act.put, List.setIfInBounds_toArray, List.set_cons_zero, List.set_cons_succ, i64_w, i32_w]
    rfl
  refine take_ (i := 25) (N := some 110) (v := _) (a' := ?_) #[true, true, true, true, true, true, true, true, true, true, true, true, true, true, true, true, true, true, true, true, true, true, true, true, true, true, false, true, false, false, false, false, false] rfl rfl (by kernel_rfl) (fun _ _ _ h => h) (Or.inl ⟨by rfl, fun w2 h => run_ld1 h.k1 3 (.tmp 109) rfl rfl (u := .int .i64 1) Try.underlying3 rfl ((enc_1 p).trans (congrArg (fun x => some (Value.int .i64 x)) H.out))⟩) hHeld ?_ ?_
  rotate_left
  · simp only [Act.put, List.setIfInBounds_toArray, List.set_cons_zero, List.set_cons_succ, i64_w, i32_w]
    rfl
  refine take_ (i := 28) (N := some 113) (v := _) (a' := ?_) #[true, true, true, true, true, true, true, true, true, true, true, true, true, true, true, true, true, true, true, true, true, true, true, true, true, true, false, true, true, false, false, false, false] rfl rfl (by kernel_rfl) (fun _ _ _ h => h) (Or.inl ⟨by rfl, fun w2 h => run_ld1 h.k1 3 (.tmp 112) rfl rfl (u := .int .i64 1) Try.underlying3 rfl ((enc_1 p).trans (congrArg (fun x => some (Value.int .i64 x)) H.out))⟩) hHeld ?_ ?_
  rotate_left
  · simp only [Act.put, List.setIfInBounds_toArray, List.set_cons_zero, List.set_cons_succ, i64_w, i32_w]
    rfl
  refine pure_ (i := 29) (N := some 114) (v := ?_) (a' := ?_) #[true, true, true, true, true, true, true, true, true, true, true, true, true, true, true, true, true, true, true, true, true, true, true, true, true, true, false, true, true, true, false, false, false] rfl rfl (by kernel_rfl) (fun _ _ _ h => h) (Or.inl ⟨by rfl, ?_⟩) ?_ ?_
  rotate_left
  · intro w'
    go_simp
    with_reducible rfl
  rotate_left
  · simp only [Act.put, List.setIfInBounds_toArray, List.set_cons_zero, List.set_cons_succ, i64_w, i32_w]
    rfl
  refine one_ (i := 26) (N := some 111) #[true, true, true, true, true, true, true, true, true, true, true, true, true, true, true, true, true, true, true, true, true, true, true, true, true, true, true, true, true, true, false, false, false] rfl rfl (by kernel_rfl) (by decide) (fun K hK => ?_)
  refine goes_ Try.func44 (by kernel_rfl) rfl #[.int .i64 1] (by rfl) rfl rfl (by (try simp only [List.map_toArray, List.map_cons, List.map_nil]); first | done | rfl) ?_
  refine (Forwards_calls 1 _).mono ?_
  rintro e w3 ⟨rfl, hb⟩
  refine ⟨_, rfl, ?_⟩
  refine hK.out _ _ (hHeld.step hb) (fun hHeld => ?_)
  clear hK K
  refine norm_ (a' := ?_) ?_ ?_
  rotate_left
  · show Act.put _ (some 111) _ = _
    simp only [Act.put, List.setIfInBounds_toArray, List.set_cons_zero, List.set_cons_succ, i64_w, i32_w]
    rfl
  refine pure_ (i := 30) (N := some 115) (v := ?_) (a' := ?_) #[true, true, true, true, true, true, true, true, true, true, true, true, true, true, true, true, true, true, true, true, true, true, true, true, true, true, true, true, true, true, true, false, false] rfl rfl (by kernel_rfl) (fun _ _ _ h => h) (Or.inl ⟨by rfl, ?_⟩) ?_ ?_
  rotate_left
  · intro w'
    go_simp
    with_reducible rfl
  rotate_left
  · simp only [Act.put, List.setIfInBounds_toArray, List.set_cons_zero, List.set_cons_succ, i64_w, i32_w]
    rfl
  refine pure_ (i := 31) (N := some 116) (v := ?_) (a' := ?_) #[true, true, true, true, true, true, true, true, true, true, true, true, true, true, true, true, true, true, true, true, true, true, true, true, true, true, true, true, true, true, true, true, false] rfl rfl (by kernel_rfl) (fun _ _ _ h => h) (Or.inl ⟨by rfl, ?_⟩) ?_ ?_
  rotate_left
  · intro w'
    go_simp
    with_reducible rfl
  rotate_left
  · simp only [Act.put, List.setIfInBounds_toArray, List.set_cons_zero, List.set_cons_succ, i64_w, i32_w]
    rfl
  refine pure_ (i := 32) (N := some 2) (v := ?_) (a' := ?_) #[true, true, true, true, true, true, true, true, true, true, true, true, true, true, true, true, true, true, true, true, true, true, true, true, true, true, true, true, true, true, true, true, true] rfl rfl (by kernel_rfl) (fun _ _ _ h => h) (Or.inl ⟨by rfl, ?_⟩) ?_ ?_
  rotate_left
  · intro w'
    go_simp
    with_reducible rfl
  rotate_left
  · simp only [Act.put, List.setIfInBounds_toArray, List.set_cons_zero, List.set_cons_succ, i64_w, i32_w]
    rfl
  refine done_ (by kernel_rfl) ?_
  go_wp2_with fail
  go_ret
  exact ⟨by simp, hHeld.below⟩

set_option maxHeartbeats 8000000 in
set_option maxRecDepth 100000 in
theorem Plays_2 (p : Pt) (F : ∀ w, Calls Try.prog 33 #[.agg (enc p)] w fun e w' => e = .returned (.bool true) ∧ Below w.heap.size w w') (h : p.st = 2) (w : World) : Calls Try.prog 13 #[.agg (enc p)] w fun e w' => e = .returned (.bool true) ∧ Below w.heap.size w w' := by
  have c0 : (p.st == 0) = false := by rw [h]; rfl
  have c1 : (p.st == 1) = false := by rw [h]; rfl
  have c2 : (p.st == 2) = true := by rw [h]; rfl
  have c3 : (p.st == 3) = false := by rw [h]; rfl
  have c4 : (p.st == 4) = false := by rw [h]; rfl
  have H := Aside0.mk h
  clear h
  have HB := Aside0.mk (Below.refl w.heap.size w)
  go_enter Try.func13, Try.ntmps13
  go_wp2_with (first | ((with_reducible refine gate_dst (N := 1) rfl ?_); refine box_event rfl (N := 1) rfl (cs := enc p) (t := 58) (by first | (go_simp; done) | (go_simp; rfl)) ?_; intro g1 eg1 v1 Kg1 b1; have Gg1 := Aside0.mk (show w.heap.size ≤ g1 from by rw [eg1]; exact HB.out.size); replace HB := Aside0.mk (below_step HB.out b1); replace Kg1 := Aside0.mk Kg1; clear b1 eg1) | ((with_reducible refine gate_dst (N := 13) rfl ?_); refine goesL_ (some 13) rfl rfl Try.func32 (by kernel_rfl) rfl #[] rfl (by (try simp only [List.map_toArray, List.map_cons, List.map_nil]); first | done | rfl) ?_; refine (awake_calls _).mono ?_; rintro e v2 ⟨rfl, b2⟩; refine ⟨_, rfl, ?_⟩; replace Kg1 := Aside0.mk (blk_below Kg1.out b2); replace HB := Aside0.mk (below_step HB.out b2); clear b2) | ((with_reducible refine gate_dst (N := 16) rfl ?_); (refine gate_guard (by rfl) ?_; dsimp only); refine ld58 Kg1.out rfl _ rfl rfl ?_) | (go_at_call 33; refine (F _).mono ?_; rintro e v3 ⟨rfl, b3⟩; replace Kg1 := Aside0.mk (blk_below Kg1.out b3); replace HB := Aside0.mk (below_step HB.out b3); clear b3) | ((with_reducible refine gate_dst (N := 21) rfl ?_); refine ld58 Kg1.out rfl _ rfl rfl ?_) | ((with_reducible refine gate_dst (N := 3) rfl ?_); refine box_event rfl (N := 3) rfl (cs := #[.int .u16 0, .int .i64 0, .int .u32 0, .int .u64 0, .int .u32 0, .int .u64 0, .int .u16 0, .bool false, .bool false, .bool false, .int .i64 0, .bool false, .int .i64 0, .bool false, .int .i64 0]) (t := 58) (by first | (go_simp; done) | (go_simp; rfl)) ?_; intro g3 eg3 v4 Kg3 b4; have Dg1_g3 := Aside0.mk (show g1 ≠ g3 from by have := blk_lt Kg1.out; omega); replace Kg1 := Aside0.mk (blk_below Kg1.out b4); have Gg3 := Aside0.mk (show w.heap.size ≤ g3 from by rw [eg3]; exact HB.out.size); replace HB := Aside0.mk (below_step HB.out b4); replace Kg3 := Aside0.mk Kg3; clear b4 eg3) | ((with_reducible refine gate_store (p := 3) rfl ?_); refine st58 (p := p) Kg3.out (by first | exact enc_size _ | rfl) rfl _ _ rfl rfl rfl ?_; intro v5 q5 b5; replace Kg1 := Aside0.mk (b5.keep Kg1.out Dg1_g3.out); replace HB := Aside0.mk (b5.below HB.out Gg3.out HB.out.size); replace Kg3 := Aside0.mk q5; clear b5) | ((with_reducible refine gate_dst (N := 24) rfl ?_); refine ev_ld1 rfl _ _ rfl g1 1 rfl Kg1.out (.int .i64 p.st) Try.underlying3 rfl (enc_1 p) ?_) | ((with_reducible refine gate_dst (N := 25) rfl ?_); refine goesL_ (some 25) rfl rfl Try.func40 (by kernel_rfl) rfl #[.int .i64 p.st] rfl (by (try simp only [List.map_toArray, List.map_cons, List.map_nil]); first | done | rfl) ?_; refine (refRise_0 _ c1 _).mono ?_; rintro e v6 ⟨rfl, b6⟩; refine ⟨_, rfl, ?_⟩; replace Kg1 := Aside0.mk (blk_below Kg1.out b6); replace Kg3 := Aside0.mk (blk_below Kg3.out b6); replace HB := Aside0.mk (below_step HB.out b6); clear b6) | ((with_reducible refine gate_store (p := 29) rfl ?_); refine ev_st rfl 3 _ _ rfl g3 1 rfl rfl #[.int .i64 (p.st)] rfl info3 (by simp [Value.oneCell']) Kg3.out (by first | (rw [enc_size]; simp; done) | simp) (enc (p)) (enc_st _ _) ?_; intro v7 q7 b7; replace Kg1 := Aside0.mk (b7.keep Kg1.out Dg1_g3.out); replace HB := Aside0.mk (b7.below HB.out Gg3.out HB.out.size); replace Kg3 := Aside0.mk q7; clear b7))
  have SS : B2 w g1 g3 (enc p) (enc (p)) _ := ⟨Kg1.out, Kg3.out, HB.out⟩
  clear Kg1 Kg3
  refine startB (SS.step (drewB _)) (n := 4) [] #[false, false, false, false] (by kernel_rfl) rfl rfl (fun hHeld => ?_)
  refine take_ (i := 0) (N := some 34) (v := _) (a' := ?_) #[true, false, false, false] rfl rfl (by kernel_rfl) (fun _ _ _ h => h) (Or.inl ⟨by rfl, fun w2 h => run_ld58 h.k1 (.tmp 1) rfl rfl⟩) hHeld ?_ ?_
  rotate_left
  · simp only [Act.put, List.setIfInBounds_toArray, List.set_cons_zero, List.set_cons_succ, i64_w, i32_w]
    rfl
  refine take_ (i := 2) (N := some 36) (v := _) (a' := ?_) #[true, false, true, false] rfl rfl (by kernel_rfl) (fun _ _ _ h => h) (Or.inl ⟨by rfl, fun w2 h => run_ld58 h.k2 (.tmp 3) rfl rfl⟩) hHeld ?_ ?_
  rotate_left
  · simp only [Act.put, List.setIfInBounds_toArray, List.set_cons_zero, List.set_cons_succ, i64_w, i32_w]
    rfl
  refine one_ (i := 1) (N := some 35) #[true, true, true, false] rfl rfl (by kernel_rfl) (by decide) (fun K hK => ?_)
  refine goes_ Try.func38 (by kernel_rfl) rfl #[.agg (enc p)] (by rfl) rfl rfl (by (try simp only [List.map_toArray, List.map_cons, List.map_nil]); first | done | rfl) ?_
  refine (Rise_0 p (by rw [H.out]; decide) _).mono ?_
  rintro e w3 ⟨rfl, hb⟩
  refine ⟨_, rfl, ?_⟩
  refine hK.out _ _ (hHeld.step hb) (fun hHeld => ?_)
  clear hK K
  refine norm_ (a' := ?_) ?_ ?_
  rotate_left
  · show Act.put _ (some 35) _ = _
    simp only [Act.put, List.setIfInBounds_toArray, List.set_cons_zero, List.set_cons_succ, i64_w, i32_w]
    rfl
  refine pure_ (i := 3) (N := some 37) (v := ?_) (a' := ?_) #[true, true, true, true] rfl rfl (by kernel_rfl) (fun _ _ _ h => h) (Or.inl ⟨by rfl, ?_⟩) ?_ ?_
  rotate_left
  · intro w'
    go_simp
    with_reducible rfl
  rotate_left
  · simp only [Act.put, List.setIfInBounds_toArray, List.set_cons_zero, List.set_cons_succ, i64_w, i32_w]
    rfl
  refine done_ (by kernel_rfl) ?_
  have Kg1 := Aside0.mk hHeld.k1
  have Kg3 := Aside0.mk hHeld.k2
  replace HB := Aside0.mk hHeld.below
  clear hHeld SS
  go_wp2_with (first | ((with_reducible refine gate_store (p := 11) rfl ?_); refine st58 (p := { p with st := 3, dOn := true, dV := 0 }) Kg11.out (by first | exact enc_size _ | rfl) rfl _ _ rfl rfl rfl ?_; intro v21 q21 b21; replace Kg1 := Aside0.mk (b21.keep Kg1.out Dg1_g11.out); replace Kg3 := Aside0.mk (b21.keep Kg3.out Dg3_g11.out); replace Kg8 := Aside0.mk (b21.keep Kg8.out Dg8_g11.out); replace HB := Aside0.mk (b21.below HB.out Gg11.out HB.out.size); replace Kg11 := Aside0.mk q21; clear b21) | ((with_reducible refine gate_dst (N := 11) rfl ?_); refine box_event rfl (N := 11) rfl (cs := #[.int .u16 0, .int .i64 0, .int .u32 0, .int .u64 0, .int .u32 0, .int .u64 0, .int .u16 0, .bool false, .bool false, .bool false, .int .i64 0, .bool false, .int .i64 0, .bool false, .int .i64 0]) (t := 58) (by first | (go_simp; done) | (go_simp; rfl)) ?_; intro g11 eg11 v20 Kg11 b20; have Dg1_g11 := Aside0.mk (show g1 ≠ g11 from by have := blk_lt Kg1.out; omega); replace Kg1 := Aside0.mk (blk_below Kg1.out b20); have Dg3_g11 := Aside0.mk (show g3 ≠ g11 from by have := blk_lt Kg3.out; omega); replace Kg3 := Aside0.mk (blk_below Kg3.out b20); have Dg8_g11 := Aside0.mk (show g8 ≠ g11 from by have := blk_lt Kg8.out; omega); replace Kg8 := Aside0.mk (blk_below Kg8.out b20); have Gg11 := Aside0.mk (show w.heap.size ≤ g11 from by rw [eg11]; exact HB.out.size); replace HB := Aside0.mk (below_step HB.out b20); replace Kg11 := Aside0.mk Kg11; clear b20 eg11) | ((with_reducible refine gate_dst (N := 82) rfl ?_); refine goesL_ (some 82) rfl rfl Try.func39 (by kernel_rfl) rfl #[.agg (enc p)] rfl (by (try simp only [List.map_toArray, List.map_cons, List.map_nil]); first | done | rfl) ?_; refine (Next_2 p H.out _).mono ?_; rintro e v19 ⟨rfl, b19⟩; refine ⟨_, rfl, ?_⟩; replace Kg1 := Aside0.mk (blk_below Kg1.out b19); replace Kg3 := Aside0.mk (blk_below Kg3.out b19); replace Kg8 := Aside0.mk (blk_below Kg8.out b19); replace HB := Aside0.mk (below_step HB.out b19); clear b19) | ((with_reducible refine gate_dst (N := 81) rfl ?_); refine ld58 Kg1.out rfl _ rfl rfl ?_) | ((with_reducible refine gate_store (p := 79) rfl ?_); refine ev_st rfl 39 _ _ rfl g3 11 rfl rfl #[.bool true, .int .i64 0] rfl info39 (by simp [Value.oneCell']) Kg3.out (by first | (rw [enc_size]; simp; done) | simp) (enc ({ p with st := 3, dOn := true, dV := 0 })) (enc_delay _ _ _) ?_; intro v18 q18 b18; replace Kg1 := Aside0.mk (b18.keep Kg1.out Dg1_g3.out); replace Kg8 := Aside0.mk (b18.keep Kg8.out Dg3_g8.out.symm); replace HB := Aside0.mk (b18.below HB.out Gg3.out HB.out.size); replace Kg3 := Aside0.mk q18; clear b18) | ((with_reducible refine gate_store (p := 75) rfl ?_); refine ev_st rfl 3 _ _ rfl g3 1 rfl rfl #[.int .i64 3] rfl info3 (by simp [Value.oneCell']) Kg3.out (by first | (rw [enc_size]; simp; done) | simp) (enc ({ p with st := 3 })) (enc_st _ _) ?_; intro v17 q17 b17; replace Kg1 := Aside0.mk (b17.keep Kg1.out Dg1_g3.out); replace Kg8 := Aside0.mk (b17.keep Kg8.out Dg3_g8.out.symm); replace HB := Aside0.mk (b17.below HB.out Gg3.out HB.out.size); replace Kg3 := Aside0.mk q17; clear b17) | ((with_reducible refine gate_dst (N := 70) rfl ?_); refine goesL_ (some 70) rfl rfl Try.func42 (by kernel_rfl) rfl #[.int .i64 p.st] rfl (by (try simp only [List.map_toArray, List.map_cons, List.map_nil]); first | done | rfl) ?_; refine (refNext_2 _ c2 _).mono ?_; rintro e v16 ⟨rfl, b16⟩; refine ⟨_, rfl, ?_⟩; replace Kg1 := Aside0.mk (blk_below Kg1.out b16); replace Kg3 := Aside0.mk (blk_below Kg3.out b16); replace Kg8 := Aside0.mk (blk_below Kg8.out b16); replace HB := Aside0.mk (below_step HB.out b16); clear b16) | ((with_reducible refine gate_dst (N := 69) rfl ?_); refine ev_ld1 rfl _ _ rfl g1 1 rfl Kg1.out (.int .i64 p.st) Try.underlying3 rfl (enc_1 p) ?_) | ((with_reducible refine gate_store (p := 3) rfl ?_); refine st58 (p := p) Kg3.out (by first | exact enc_size _ | rfl) rfl _ _ rfl rfl rfl ?_; intro v15 q15 b15; replace Kg1 := Aside0.mk (b15.keep Kg1.out Dg1_g3.out); replace Kg8 := Aside0.mk (b15.keep Kg8.out Dg3_g8.out.symm); replace HB := Aside0.mk (b15.below HB.out Gg3.out HB.out.size); replace Kg3 := Aside0.mk q15; clear b15) | ((with_reducible refine gate_dst (N := 66) rfl ?_); refine ld58 Kg1.out rfl _ rfl rfl ?_) | ((with_reducible refine gate_dst (N := 58) rfl ?_); refine ld58 Kg3.out rfl _ rfl rfl ?_) | ((with_reducible refine gate_dst (N := 57) rfl ?_); refine ld58 Kg8.out rfl _ rfl rfl ?_) | ((with_reducible refine gate_store (p := 8) rfl ?_); refine st58 (p := { p with st := 1, dOn := false, dV := 0 }) Kg8.out (by first | exact enc_size _ | rfl) rfl _ _ rfl rfl rfl ?_; intro v14 q14 b14; replace Kg1 := Aside0.mk (b14.keep Kg1.out Dg1_g8.out); replace Kg3 := Aside0.mk (b14.keep Kg3.out Dg3_g8.out); replace HB := Aside0.mk (b14.below HB.out Gg8.out HB.out.size); replace Kg8 := Aside0.mk q14; clear b14) | ((with_reducible refine gate_dst (N := 8) rfl ?_); refine box_event rfl (N := 8) rfl (cs := #[.int .u16 0, .int .i64 0, .int .u32 0, .int .u64 0, .int .u32 0, .int .u64 0, .int .u16 0, .bool false, .bool false, .bool false, .int .i64 0, .bool false, .int .i64 0, .bool false, .int .i64 0]) (t := 58) (by first | (go_simp; done) | (go_simp; rfl)) ?_; intro g8 eg8 v13 Kg8 b13; have Dg1_g8 := Aside0.mk (show g1 ≠ g8 from by have := blk_lt Kg1.out; omega); replace Kg1 := Aside0.mk (blk_below Kg1.out b13); have Dg3_g8 := Aside0.mk (show g3 ≠ g8 from by have := blk_lt Kg3.out; omega); replace Kg3 := Aside0.mk (blk_below Kg3.out b13); have Gg8 := Aside0.mk (show w.heap.size ≤ g8 from by rw [eg8]; exact HB.out.size); replace HB := Aside0.mk (below_step HB.out b13); replace Kg8 := Aside0.mk Kg8; clear b13 eg8) | ((with_reducible refine gate_dst (N := 54) rfl ?_); refine goesL_ (some 54) rfl rfl Try.func37 (by kernel_rfl) rfl #[.agg (enc p)] rfl (by (try simp only [List.map_toArray, List.map_cons, List.map_nil]); first | done | rfl) ?_; refine (Block_n p (by rw [H.out]; decide) (by rw [H.out]; decide) (by rw [H.out]; decide) _).mono ?_; rintro e v12 ⟨rfl, b12⟩; refine ⟨_, rfl, ?_⟩; replace Kg1 := Aside0.mk (blk_below Kg1.out b12); replace Kg3 := Aside0.mk (blk_below Kg3.out b12); replace HB := Aside0.mk (below_step HB.out b12); clear b12) | ((with_reducible refine gate_dst (N := 53) rfl ?_); refine ld58 Kg1.out rfl _ rfl rfl ?_) | ((with_reducible refine gate_store (p := 51) rfl ?_); refine ev_st rfl 39 _ _ rfl g3 11 rfl rfl #[.bool false, .int .i64 0] rfl info39 (by simp [Value.oneCell']) Kg3.out (by first | (rw [enc_size]; simp; done) | simp) (enc ({ p with st := 1, dOn := false, dV := 0 })) (enc_delay _ _ _) ?_; intro v11 q11 b11; replace Kg1 := Aside0.mk (b11.keep Kg1.out Dg1_g3.out); replace HB := Aside0.mk (b11.below HB.out Gg3.out HB.out.size); replace Kg3 := Aside0.mk q11; clear b11) | ((with_reducible refine gate_store (p := 47) rfl ?_); refine ev_st rfl 3 _ _ rfl g3 1 rfl rfl #[.int .i64 1] rfl info3 (by simp [Value.oneCell']) Kg3.out (by first | (rw [enc_size]; simp; done) | simp) (enc ({ p with st := 1 })) (enc_st _ _) ?_; intro v10 q10 b10; replace Kg1 := Aside0.mk (b10.keep Kg1.out Dg1_g3.out); replace HB := Aside0.mk (b10.below HB.out Gg3.out HB.out.size); replace Kg3 := Aside0.mk q10; clear b10) | ((with_reducible refine gate_dst (N := 42) rfl ?_); refine goesL_ (some 42) rfl rfl Try.func41 (by kernel_rfl) rfl #[.int .i64 p.st] rfl (by (try simp only [List.map_toArray, List.map_cons, List.map_nil]); first | done | rfl) ?_; refine (refBlock_n _ c0 c1 c3 c4 _).mono ?_; rintro e v9 ⟨rfl, b9⟩; refine ⟨_, rfl, ?_⟩; replace Kg1 := Aside0.mk (blk_below Kg1.out b9); replace Kg3 := Aside0.mk (blk_below Kg3.out b9); replace HB := Aside0.mk (below_step HB.out b9); clear b9) | ((with_reducible refine gate_dst (N := 41) rfl ?_); refine ev_ld1 rfl _ _ rfl g1 1 rfl Kg1.out (.int .i64 p.st) Try.underlying3 rfl (enc_1 p) ?_) | ((with_reducible refine gate_store (p := 3) rfl ?_); refine st58 (p := p) Kg3.out (by first | exact enc_size _ | rfl) rfl _ _ rfl rfl rfl ?_; intro v8 q8 b8; replace Kg1 := Aside0.mk (b8.keep Kg1.out Dg1_g3.out); replace HB := Aside0.mk (b8.below HB.out Gg3.out HB.out.size); replace Kg3 := Aside0.mk q8; clear b8) | ((with_reducible refine gate_dst (N := 38) rfl ?_); refine ld58 Kg1.out rfl _ rfl rfl ?_))
  have SS : B3 w g1 g3 g11 (enc p) (enc ({ p with st := 3, dOn := true, dV := 0 })) (enc ({ p with st := 3, dOn := true, dV := 0 })) _ := ⟨Kg1.out, Kg3.out, Kg11.out, HB.out⟩
  clear Kg1 Kg3 Kg8 Kg11
  refine startB (SS.step (drewB _)) (n := 33) [] #[false, false, false, false, false, false, false, false, false, false, false, false, false, false, false, false, false, false, false, false, false, false, false, false, false, false, false, false, false, false, false, false, false] (by kernel_rfl) rfl rfl (fun hHeld => ?_)
  refine take_ (i := 0) (N := some 85) (v := _) (a' := ?_) #[true, false, false, false, false, false, false, false, false, false, false, false, false, false, false, false, false, false, false, false, false, false, false, false, false, false, false, false, false, false, false, false, false] rfl rfl (by kernel_rfl) (fun _ _ _ h => h) (Or.inl ⟨by rfl, fun w2 h => run_ld58 h.k3 (.tmp 11) rfl rfl⟩) hHeld ?_ ?_
  rotate_left
  · simp only [Act.put, List.setIfInBounds_toArray, List.set_cons_zero, List.set_cons_succ, i64_w, i32_w]
    rfl
  refine take_ (i := 1) (N := some 86) (v := _) (a' := ?_) #[true, true, false, false, false, false, false, false, false, false, false, false, false, false, false, false, false, false, false, false, false, false, false, false, false, false, false, false, false, false, false, false, false] rfl rfl (by kernel_rfl) (fun _ _ _ h => h) (Or.inl ⟨by rfl, fun w2 h => run_ld58 h.k2 (.tmp 3) rfl rfl⟩) hHeld ?_ ?_
  rotate_left
  · simp only [Act.put, List.setIfInBounds_toArray, List.set_cons_zero, List.set_cons_succ, i64_w, i32_w]
    rfl
  refine pure_ (i := 2) (N := some 87) (v := ?_) (a' := ?_) #[true, true, true, false, false, false, false, false, false, false, false, false, false, false, false, false, false, false, false, false, false, false, false, false, false, false, false, false, false, false, false, false, false] rfl rfl (by kernel_rfl) (fun _ _ _ h => h) (Or.inl ⟨by rfl, ?_⟩) ?_ ?_
  rotate_left
  · intro w'
    go_simp
    with_reducible rfl
  rotate_left
  · simp only [Act.put, List.setIfInBounds_toArray, List.set_cons_zero, List.set_cons_succ, i64_w, i32_w]
    rfl
  refine pure_ (i := 3) (N := some 88) (v := ?_) (a' := ?_) #[true, true, true, true, false, false, false, false, false, false, false, false, false, false, false, false, false, false, false, false, false, false, false, false, false, false, false, false, false, false, false, false, false] rfl rfl (by kernel_rfl) (fun _ _ _ h => h) (Or.inl ⟨by rfl, ?_⟩) ?_ ?_
  rotate_left
  · intro w'
    go_simp
    with_reducible rfl
  rotate_left
  · simp only [Act.put, List.setIfInBounds_toArray, List.set_cons_zero, List.set_cons_succ, i64_w, i32_w]
    rfl
  refine pure_ (i := 4) (N := some 89) (v := ?_) (a' := ?_) #[true, true, true, true, true, false, false, false, false, false, false, false, false, false, false, false, false, false, false, false, false, false, false, false, false, false, false, false, false, false, false, false, false] rfl rfl (by kernel_rfl) (fun _ _ _ h => h) (Or.inl ⟨by rfl, ?_⟩) ?_ ?_
  rotate_left
  · intro w'
    go_simp
    with_reducible rfl
  rotate_left
  · simp only [Act.put, List.setIfInBounds_toArray, List.set_cons_zero, List.set_cons_succ, i64_w, i32_w]
    rfl
  refine pure_ (i := 5) (N := some 90) (v := ?_) (a' := ?_) #[true, true, true, true, true, true, false, false, false, false, false, false, false, false, false, false, false, false, false, false, false, false, false, false, false, false, false, false, false, false, false, false, false] rfl rfl (by kernel_rfl) (fun _ _ _ h => h) (Or.inl ⟨by rfl, ?_⟩) ?_ ?_
  rotate_left
  · intro w'
    go_simp
    with_reducible rfl
  rotate_left
  · simp only [Act.put, List.setIfInBounds_toArray, List.set_cons_zero, List.set_cons_succ, i64_w, i32_w]
    rfl
  refine pure_ (i := 6) (N := some 91) (v := ?_) (a' := ?_) #[true, true, true, true, true, true, true, false, false, false, false, false, false, false, false, false, false, false, false, false, false, false, false, false, false, false, false, false, false, false, false, false, false] rfl rfl (by kernel_rfl) (fun _ _ _ h => h) (Or.inl ⟨by rfl, ?_⟩) ?_ ?_
  rotate_left
  · intro w'
    go_simp
    with_reducible rfl
  rotate_left
  · simp only [Act.put, List.setIfInBounds_toArray, List.set_cons_zero, List.set_cons_succ, i64_w, i32_w]
    rfl
  refine pure_ (i := 7) (N := some 92) (v := ?_) (a' := ?_) #[true, true, true, true, true, true, true, true, false, false, false, false, false, false, false, false, false, false, false, false, false, false, false, false, false, false, false, false, false, false, false, false, false] rfl rfl (by kernel_rfl) (fun _ _ _ h => h) (Or.inl ⟨by rfl, ?_⟩) ?_ ?_
  rotate_left
  · intro w'
    go_simp
    with_reducible rfl
  rotate_left
  · simp only [Act.put, List.setIfInBounds_toArray, List.set_cons_zero, List.set_cons_succ, i64_w, i32_w]
    rfl
  refine pure_ (i := 8) (N := some 93) (v := ?_) (a' := ?_) #[true, true, true, true, true, true, true, true, true, false, false, false, false, false, false, false, false, false, false, false, false, false, false, false, false, false, false, false, false, false, false, false, false] rfl rfl (by kernel_rfl) (fun _ _ _ h => h) (Or.inl ⟨by rfl, ?_⟩) ?_ ?_
  rotate_left
  · intro w'
    go_simp
    with_reducible rfl
  rotate_left
  · simp only [Act.put, List.setIfInBounds_toArray, List.set_cons_zero, List.set_cons_succ, i64_w, i32_w]
    rfl
  refine pure_ (i := 9) (N := some 94) (v := ?_) (a' := ?_) #[true, true, true, true, true, true, true, true, true, true, false, false, false, false, false, false, false, false, false, false, false, false, false, false, false, false, false, false, false, false, false, false, false] rfl rfl (by kernel_rfl) (fun _ _ _ h => h) (Or.inl ⟨by rfl, ?_⟩) ?_ ?_
  rotate_left
  · intro w'
    go_simp
    with_reducible rfl
  rotate_left
  · simp only [Act.put, List.setIfInBounds_toArray, List.set_cons_zero, List.set_cons_succ, i64_w, i32_w]
    rfl
  refine pure_ (i := 10) (N := some 95) (v := ?_) (a' := ?_) #[true, true, true, true, true, true, true, true, true, true, true, false, false, false, false, false, false, false, false, false, false, false, false, false, false, false, false, false, false, false, false, false, false] rfl rfl (by kernel_rfl) (fun _ _ _ h => h) (Or.inl ⟨by rfl, ?_⟩) ?_ ?_
  rotate_left
  · intro w'
    go_simp
    with_reducible rfl
  rotate_left
  · simp only [Act.put, List.setIfInBounds_toArray, List.set_cons_zero, List.set_cons_succ, i64_w, i32_w]
    rfl
  refine pure_ (i := 13) (N := some 98) (v := ?_) (a' := ?_) #[true, true, true, true, true, true, true, true, true, true, true, false, false, true, false, false, false, false, false, false, false, false, false, false, false, false, false, false, false, false, false, false, false] rfl rfl (by kernel_rfl) (fun _ _ _ h => h) (Or.inl ⟨by rfl, ?_⟩) ?_ ?_
  rotate_left
  · intro w'
    go_simp
    with_reducible rfl
  rotate_left
  · simp only [Act.put, List.setIfInBounds_toArray, List.set_cons_zero, List.set_cons_succ, i64_w, i32_w]
    rfl
  refine take_ (i := 11) (N := some 96) (v := _) (a' := ?_) #[true, true, true, true, true, true, true, true, true, true, true, true, false, true, false, false, false, false, false, false, false, false, false, false, false, false, false, false, false, false, false, false, false] rfl rfl (by kernel_rfl) (fun _ _ _ h => h) (Or.inl ⟨by rfl, fun w2 h => run_ld1 h.k1 3 (.tmp 95) rfl rfl (u := .int .i64 2) Try.underlying3 rfl ((enc_1 p).trans (congrArg (fun x => some (Value.int .i64 x)) H.out))⟩) hHeld ?_ ?_
  rotate_left
  · simp only [Act.put, List.setIfInBounds_toArray, List.set_cons_zero, List.set_cons_succ, i64_w, i32_w]
    rfl
  refine take_ (i := 14) (N := some 99) (v := _) (a' := ?_) #[true, true, true, true, true, true, true, true, true, true, true, true, false, true, true, false, false, false, false, false, false, false, false, false, false, false, false, false, false, false, false, false, false] rfl rfl (by kernel_rfl) (fun _ _ _ h => h) (Or.inl ⟨by rfl, fun w2 h => run_ld1 h.k1 3 (.tmp 98) rfl rfl (u := .int .i64 2) Try.underlying3 rfl ((enc_1 p).trans (congrArg (fun x => some (Value.int .i64 x)) H.out))⟩) hHeld ?_ ?_
  rotate_left
  · simp only [Act.put, List.setIfInBounds_toArray, List.set_cons_zero, List.set_cons_succ, i64_w, i32_w]
    rfl
  refine pure_ (i := 15) (N := some 100) (v := ?_) (a' := ?_) #[true, true, true, true, true, true, true, true, true, true, true, true, false, true, true, true, false, false, false, false, false, false, false, false, false, false, false, false, false, false, false, false, false] rfl rfl (by kernel_rfl) (fun _ _ _ h => h) (Or.inl ⟨by rfl, ?_⟩) ?_ ?_
  rotate_left
  · intro w'
    go_simp
    with_reducible rfl
  rotate_left
  · simp only [Act.put, List.setIfInBounds_toArray, List.set_cons_zero, List.set_cons_succ, i64_w, i32_w]
    rfl
  refine one_ (i := 12) (N := some 97) #[true, true, true, true, true, true, true, true, true, true, true, true, true, true, true, true, false, false, false, false, false, false, false, false, false, false, false, false, false, false, false, false, false] rfl rfl (by kernel_rfl) (by decide) (fun K hK => ?_)
  refine goes_ Try.func43 (by kernel_rfl) rfl #[.int .i64 2] (by rfl) rfl rfl (by (try simp only [List.map_toArray, List.map_cons, List.map_nil]); first | done | rfl) ?_
  refine (Learns_n 2 rfl _).mono ?_
  rintro e w3 ⟨rfl, hb⟩
  refine ⟨_, rfl, ?_⟩
  refine hK.out _ _ (hHeld.step hb) (fun hHeld => ?_)
  clear hK K
  refine norm_ (a' := ?_) ?_ ?_
  rotate_left
  · show Act.put _ (some 97) _ = _
    simp only [Act.put, List.setIfInBounds_toArray, List.set_cons_zero, List.set_cons_succ, i64_w, i32_w]
    rfl
  refine pure_ (i := 16) (N := some 101) (v := ?_) (a' := ?_) #[true, true, true, true, true, true, true, true, true, true, true, true, true, true, true, true, true, false, false, false, false, false, false, false, false, false, false, false, false, false, false, false, false] rfl rfl (by kernel_rfl) (fun _ _ _ h => h) (Or.inl ⟨by rfl, ?_⟩) ?_ ?_
  rotate_left
  · intro w'
    go_simp
    with_reducible rfl
  rotate_left
  · simp only [Act.put, List.setIfInBounds_toArray, List.set_cons_zero, List.set_cons_succ, i64_w, i32_w]
    rfl
  refine pure_ (i := 17) (N := some 102) (v := ?_) (a' := ?_) #[true, true, true, true, true, true, true, true, true, true, true, true, true, true, true, true, true, true, false, false, false, false, false, false, false, false, false, false, false, false, false, false, false] rfl rfl (by kernel_rfl) (fun _ _ _ h => h) (Or.inl ⟨by rfl, ?_⟩) ?_ ?_
  rotate_left
  · intro w'
    go_simp
    with_reducible rfl
  rotate_left
  · simp only [Act.put, List.setIfInBounds_toArray, List.set_cons_zero, List.set_cons_succ, i64_w, i32_w]
    rfl
  refine take_ (i := 18) (N := some 103) (v := _) (a' := ?_) #[true, true, true, true, true, true, true, true, true, true, true, true, true, true, true, true, true, true, true, false, false, false, false, false, false, false, false, false, false, false, false, false, false] rfl rfl (by kernel_rfl) (fun _ _ _ h => h) (Or.inl ⟨by rfl, fun w2 h => run_ld1 h.k1 3 (.tmp 102) rfl rfl (u := .int .i64 2) Try.underlying3 rfl ((enc_1 p).trans (congrArg (fun x => some (Value.int .i64 x)) H.out))⟩) hHeld ?_ ?_
  rotate_left
  · simp only [Act.put, List.setIfInBounds_toArray, List.set_cons_zero, List.set_cons_succ, i64_w, i32_w]
    rfl
  refine pure_ (i := 19) (N := some 104) (v := ?_) (a' := ?_) #[true, true, true, true, true, true, true, true, true, true, true, true, true, true, true, true, true, true, true, true, false, false, false, false, false, false, false, false, false, false, false, false, false] rfl rfl (by kernel_rfl) (fun _ _ _ h => h) (Or.inl ⟨by rfl, ?_⟩) ?_ ?_
  rotate_left
  · intro w'
    go_simp
    with_reducible rfl
  rotate_left
  · simp only [Act.put, List.setIfInBounds_toArray, List.set_cons_zero, List.set_cons_succ, i64_w, i32_w]
    rfl
  refine pure_ (i := 20) (N := some 105) (v := ?_) (a' := ?_) #[true, true, true, true, true, true, true, true, true, true, true, true, true, true, true, true, true, true, true, true, true, false, false, false, false, false, false, false, false, false, false, false, false] rfl rfl (by kernel_rfl) (fun _ _ _ h => h) (Or.inl ⟨by rfl, ?_⟩) ?_ ?_
  rotate_left
  · intro w'
    go_simp
    with_reducible rfl
  rotate_left
  · simp only [Act.put, List.setIfInBounds_toArray, List.set_cons_zero, List.set_cons_succ, i64_w, i32_w]
    rfl
  refine pure_ (i := 21) (N := some 106) (v := ?_) (a' := ?_) #[true, true, true, true, true, true, true, true, true, true, true, true, true, true, true, true, true, true, true, true, true, true, false, false, false, false, false, false, false, false, false, false, false] rfl rfl (by kernel_rfl) (fun _ _ _ h => h) (Or.inl ⟨by rfl, ?_⟩) ?_ ?_
  rotate_left
  · intro w'
    go_simp
    with_reducible rfl
  rotate_left
  · simp only [Act.put, List.setIfInBounds_toArray, List.set_cons_zero, List.set_cons_succ, i64_w, i32_w]
    rfl
  refine pure_ (i := 22) (N := some 107) (v := ?_) (a' := ?_) #[true, true, true, true, true, true, true, true, true, true, true, true, true, true, true, true, true, true, true, true, true, true, true, false, false, false, false, false, false, false, false, false, false] rfl rfl (by kernel_rfl) (fun _ _ _ h => h) (Or.inl ⟨by rfl, ?_⟩) ?_ ?_
  rotate_left
  · intro w'
    go_simp
    with_reducible rfl
  rotate_left
  · simp only [Act.put, List.setIfInBounds_toArray, List.set_cons_zero, List.set_cons_succ, i64_w, i32_w]
    rfl
  refine pure_ (i := 23) (N := some 108) (v := ?_) (a' := ?_) #[true, true, true, true, true, true, true, true, true, true, true, true, true, true, true, true, true, true, true, true, true, true, true, true, false, false, false, false, false, false, false, false, false] rfl rfl (by kernel_rfl) (fun _ _ _ h => h) (Or.inl ⟨by rfl, ?_⟩) ?_ ?_
  rotate_left
  · intro w'
    go_simp
    with_reducible rfl
  rotate_left
  · simp only [Act.put, List.setIfInBounds_toArray, List.set_cons_zero, List.set_cons_succ, i64_w, i32_w]
    rfl
  refine pure_ (i := 24) (N := some 109) (v := ?_) (a' := ?_) #[true, true, true, true, true, true, true, true, true, true, true, true, true, true, true, true, true, true, true, true, true, true, true, true, true, false, false, false, false, false, false, false, false] rfl rfl (by kernel_rfl) (fun _ _ _ h => h) (Or.inl ⟨by rfl, ?_⟩) ?_ ?_
  rotate_left
  · intro w'
    go_simp
    with_reducible rfl
  rotate_left
  · simp only [Act.put, List.setIfInBounds_toArray, List.set_cons_zero, List.set_cons_succ, i64_w, i32_w]
    rfl
  refine pure_ (i := 27) (N := some 112) (v := ?_) (a' := ?_) #[true, true, true, true, true, true, true, true, true, true, true, true, true, true, true, true, true, true, true, true, true, true, true, true, true, false, false, true, false, false, false, false, false] rfl rfl (by kernel_rfl) (fun _ _ _ h => h) (Or.inl ⟨by rfl, ?_⟩) ?_ ?_
  rotate_left
  · intro w'
    go_simp
    with_reducible rfl
  rotate_left
  · simp only [Act.put, List.setIfInBounds_toArray, List.set_cons_zero, List.set_cons_succ, i64_w, i32_w]
    rfl
  refine take_ (i := 25) (N := some 110) (v := _) (a' := ?_) #[true, true, true, true, true, true, true, true, true, true, true, true, true, true, true, true, true, true, true, true, true, true, true, true, true, true, false, true, false, false, false, false, false] rfl rfl (by kernel_rfl) (fun _ _ _ h => h) (Or.inl ⟨by rfl, fun w2 h => run_ld1 h.k1 3 (.tmp 109) rfl rfl (u := .int .i64 2) Try.underlying3 rfl ((enc_1 p).trans (congrArg (fun x => some (Value.int .i64 x)) H.out))⟩) hHeld ?_ ?_
  rotate_left
  · simp only [Act.put, List.setIfInBounds_toArray, List.set_cons_zero, List.set_cons_succ, i64_w, i32_w]
    rfl
  refine take_ (i := 28) (N := some 113) (v := _) (a' := ?_) #[true, true, true, true, true, true, true, true, true, true, true, true, true, true, true, true, true, true, true, true, true, true, true, true, true, true, false, true, true, false, false, false, false] rfl rfl (by kernel_rfl) (fun _ _ _ h => h) (Or.inl ⟨by rfl, fun w2 h => run_ld1 h.k1 3 (.tmp 112) rfl rfl (u := .int .i64 2) Try.underlying3 rfl ((enc_1 p).trans (congrArg (fun x => some (Value.int .i64 x)) H.out))⟩) hHeld ?_ ?_
  rotate_left
  · simp only [Act.put, List.setIfInBounds_toArray, List.set_cons_zero, List.set_cons_succ, i64_w, i32_w]
    rfl
  refine pure_ (i := 29) (N := some 114) (v := ?_) (a' := ?_) #[true, true, true, true, true, true, true, true, true, true, true, true, true, true, true, true, true, true, true, true, true, true, true, true, true, true, false, true, true, true, false, false, false] rfl rfl (by kernel_rfl) (fun _ _ _ h => h) (Or.inl ⟨by rfl, ?_⟩) ?_ ?_
  rotate_left
  · intro w'
    go_simp
    with_reducible rfl
  rotate_left
  · simp only [Act.put, List.setIfInBounds_toArray, List.set_cons_zero, List.set_cons_succ, i64_w, i32_w]
    rfl
  refine one_ (i := 26) (N := some 111) #[true, true, true, true, true, true, true, true, true, true, true, true, true, true, true, true, true, true, true, true, true, true, true, true, true, true, true, true, true, true, false, false, false] rfl rfl (by kernel_rfl) (by decide) (fun K hK => ?_)
  refine goes_ Try.func44 (by kernel_rfl) rfl #[.int .i64 2] (by rfl) rfl rfl (by (try simp only [List.map_toArray, List.map_cons, List.map_nil]); first | done | rfl) ?_
  refine (Forwards_calls 2 _).mono ?_
  rintro e w3 ⟨rfl, hb⟩
  refine ⟨_, rfl, ?_⟩
  refine hK.out _ _ (hHeld.step hb) (fun hHeld => ?_)
  clear hK K
  refine norm_ (a' := ?_) ?_ ?_
  rotate_left
  · show Act.put _ (some 111) _ = _
    simp only [Act.put, List.setIfInBounds_toArray, List.set_cons_zero, List.set_cons_succ, i64_w, i32_w]
    rfl
  refine pure_ (i := 30) (N := some 115) (v := ?_) (a' := ?_) #[true, true, true, true, true, true, true, true, true, true, true, true, true, true, true, true, true, true, true, true, true, true, true, true, true, true, true, true, true, true, true, false, false] rfl rfl (by kernel_rfl) (fun _ _ _ h => h) (Or.inl ⟨by rfl, ?_⟩) ?_ ?_
  rotate_left
  · intro w'
    go_simp
    with_reducible rfl
  rotate_left
  · simp only [Act.put, List.setIfInBounds_toArray, List.set_cons_zero, List.set_cons_succ, i64_w, i32_w]
    rfl
  refine pure_ (i := 31) (N := some 116) (v := ?_) (a' := ?_) #[true, true, true, true, true, true, true, true, true, true, true, true, true, true, true, true, true, true, true, true, true, true, true, true, true, true, true, true, true, true, true, true, false] rfl rfl (by kernel_rfl) (fun _ _ _ h => h) (Or.inl ⟨by rfl, ?_⟩) ?_ ?_
  rotate_left
  · intro w'
    go_simp
    with_reducible rfl
  rotate_left
  · simp only [Act.put, List.setIfInBounds_toArray, List.set_cons_zero, List.set_cons_succ, i64_w, i32_w]
    rfl
  refine pure_ (i := 32) (N := some 2) (v := ?_) (a' := ?_) #[true, true, true, true, true, true, true, true, true, true, true, true, true, true, true, true, true, true, true, true, true, true, true, true, true, true, true, true, true, true, true, true, true] rfl rfl (by kernel_rfl) (fun _ _ _ h => h) (Or.inl ⟨by rfl, ?_⟩) ?_ ?_
  rotate_left
  · intro w'
    go_simp
    with_reducible rfl
  rotate_left
  · simp only [Act.put, List.setIfInBounds_toArray, List.set_cons_zero, List.set_cons_succ, i64_w, i32_w]
    rfl
  refine done_ (by kernel_rfl) ?_
  go_wp2_with fail
  go_ret
  exact ⟨by simp, hHeld.below⟩

set_option maxHeartbeats 8000000 in
set_option maxRecDepth 100000 in
theorem Plays_3 (p : Pt) (F : ∀ w, Calls Try.prog 33 #[.agg (enc p)] w fun e w' => e = .returned (.bool true) ∧ Below w.heap.size w w') (h : p.st = 3) (w : World) : Calls Try.prog 13 #[.agg (enc p)] w fun e w' => e = .returned (.bool true) ∧ Below w.heap.size w w' := by
  have c0 : (p.st == 0) = false := by rw [h]; rfl
  have c1 : (p.st == 1) = false := by rw [h]; rfl
  have c2 : (p.st == 2) = false := by rw [h]; rfl
  have c3 : (p.st == 3) = true := by rw [h]; rfl
  have c4 : (p.st == 4) = false := by rw [h]; rfl
  have H := Aside0.mk h
  clear h
  have HB := Aside0.mk (Below.refl w.heap.size w)
  go_enter Try.func13, Try.ntmps13
  go_wp2_with (first | ((with_reducible refine gate_dst (N := 1) rfl ?_); refine box_event rfl (N := 1) rfl (cs := enc p) (t := 58) (by first | (go_simp; done) | (go_simp; rfl)) ?_; intro g1 eg1 v1 Kg1 b1; have Gg1 := Aside0.mk (show w.heap.size ≤ g1 from by rw [eg1]; exact HB.out.size); replace HB := Aside0.mk (below_step HB.out b1); replace Kg1 := Aside0.mk Kg1; clear b1 eg1) | ((with_reducible refine gate_dst (N := 13) rfl ?_); refine goesL_ (some 13) rfl rfl Try.func32 (by kernel_rfl) rfl #[] rfl (by (try simp only [List.map_toArray, List.map_cons, List.map_nil]); first | done | rfl) ?_; refine (awake_calls _).mono ?_; rintro e v2 ⟨rfl, b2⟩; refine ⟨_, rfl, ?_⟩; replace Kg1 := Aside0.mk (blk_below Kg1.out b2); replace HB := Aside0.mk (below_step HB.out b2); clear b2) | ((with_reducible refine gate_dst (N := 16) rfl ?_); (refine gate_guard (by rfl) ?_; dsimp only); refine ld58 Kg1.out rfl _ rfl rfl ?_) | (go_at_call 33; refine (F _).mono ?_; rintro e v3 ⟨rfl, b3⟩; replace Kg1 := Aside0.mk (blk_below Kg1.out b3); replace HB := Aside0.mk (below_step HB.out b3); clear b3) | ((with_reducible refine gate_dst (N := 21) rfl ?_); refine ld58 Kg1.out rfl _ rfl rfl ?_) | ((with_reducible refine gate_dst (N := 3) rfl ?_); refine box_event rfl (N := 3) rfl (cs := #[.int .u16 0, .int .i64 0, .int .u32 0, .int .u64 0, .int .u32 0, .int .u64 0, .int .u16 0, .bool false, .bool false, .bool false, .int .i64 0, .bool false, .int .i64 0, .bool false, .int .i64 0]) (t := 58) (by first | (go_simp; done) | (go_simp; rfl)) ?_; intro g3 eg3 v4 Kg3 b4; have Dg1_g3 := Aside0.mk (show g1 ≠ g3 from by have := blk_lt Kg1.out; omega); replace Kg1 := Aside0.mk (blk_below Kg1.out b4); have Gg3 := Aside0.mk (show w.heap.size ≤ g3 from by rw [eg3]; exact HB.out.size); replace HB := Aside0.mk (below_step HB.out b4); replace Kg3 := Aside0.mk Kg3; clear b4 eg3) | ((with_reducible refine gate_store (p := 3) rfl ?_); refine st58 (p := p) Kg3.out (by first | exact enc_size _ | rfl) rfl _ _ rfl rfl rfl ?_; intro v5 q5 b5; replace Kg1 := Aside0.mk (b5.keep Kg1.out Dg1_g3.out); replace HB := Aside0.mk (b5.below HB.out Gg3.out HB.out.size); replace Kg3 := Aside0.mk q5; clear b5) | ((with_reducible refine gate_dst (N := 24) rfl ?_); refine ev_ld1 rfl _ _ rfl g1 1 rfl Kg1.out (.int .i64 p.st) Try.underlying3 rfl (enc_1 p) ?_) | ((with_reducible refine gate_dst (N := 25) rfl ?_); refine goesL_ (some 25) rfl rfl Try.func40 (by kernel_rfl) rfl #[.int .i64 p.st] rfl (by (try simp only [List.map_toArray, List.map_cons, List.map_nil]); first | done | rfl) ?_; refine (refRise_0 _ c1 _).mono ?_; rintro e v6 ⟨rfl, b6⟩; refine ⟨_, rfl, ?_⟩; replace Kg1 := Aside0.mk (blk_below Kg1.out b6); replace Kg3 := Aside0.mk (blk_below Kg3.out b6); replace HB := Aside0.mk (below_step HB.out b6); clear b6) | ((with_reducible refine gate_store (p := 29) rfl ?_); refine ev_st rfl 3 _ _ rfl g3 1 rfl rfl #[.int .i64 (p.st)] rfl info3 (by simp [Value.oneCell']) Kg3.out (by first | (rw [enc_size]; simp; done) | simp) (enc (p)) (enc_st _ _) ?_; intro v7 q7 b7; replace Kg1 := Aside0.mk (b7.keep Kg1.out Dg1_g3.out); replace HB := Aside0.mk (b7.below HB.out Gg3.out HB.out.size); replace Kg3 := Aside0.mk q7; clear b7))
  have SS : B2 w g1 g3 (enc p) (enc (p)) _ := ⟨Kg1.out, Kg3.out, HB.out⟩
  clear Kg1 Kg3
  refine startB (SS.step (drewB _)) (n := 4) [] #[false, false, false, false] (by kernel_rfl) rfl rfl (fun hHeld => ?_)
  refine take_ (i := 0) (N := some 34) (v := _) (a' := ?_) #[true, false, false, false] rfl rfl (by kernel_rfl) (fun _ _ _ h => h) (Or.inl ⟨by rfl, fun w2 h => run_ld58 h.k1 (.tmp 1) rfl rfl⟩) hHeld ?_ ?_
  rotate_left
  · simp only [Act.put, List.setIfInBounds_toArray, List.set_cons_zero, List.set_cons_succ, i64_w, i32_w]
    rfl
  refine take_ (i := 2) (N := some 36) (v := _) (a' := ?_) #[true, false, true, false] rfl rfl (by kernel_rfl) (fun _ _ _ h => h) (Or.inl ⟨by rfl, fun w2 h => run_ld58 h.k2 (.tmp 3) rfl rfl⟩) hHeld ?_ ?_
  rotate_left
  · simp only [Act.put, List.setIfInBounds_toArray, List.set_cons_zero, List.set_cons_succ, i64_w, i32_w]
    rfl
  refine one_ (i := 1) (N := some 35) #[true, true, true, false] rfl rfl (by kernel_rfl) (by decide) (fun K hK => ?_)
  refine goes_ Try.func38 (by kernel_rfl) rfl #[.agg (enc p)] (by rfl) rfl rfl (by (try simp only [List.map_toArray, List.map_cons, List.map_nil]); first | done | rfl) ?_
  refine (Rise_0 p (by rw [H.out]; decide) _).mono ?_
  rintro e w3 ⟨rfl, hb⟩
  refine ⟨_, rfl, ?_⟩
  refine hK.out _ _ (hHeld.step hb) (fun hHeld => ?_)
  clear hK K
  refine norm_ (a' := ?_) ?_ ?_
  rotate_left
  · show Act.put _ (some 35) _ = _
    simp only [Act.put, List.setIfInBounds_toArray, List.set_cons_zero, List.set_cons_succ, i64_w, i32_w]
    rfl
  refine pure_ (i := 3) (N := some 37) (v := ?_) (a' := ?_) #[true, true, true, true] rfl rfl (by kernel_rfl) (fun _ _ _ h => h) (Or.inl ⟨by rfl, ?_⟩) ?_ ?_
  rotate_left
  · intro w'
    go_simp
    with_reducible rfl
  rotate_left
  · simp only [Act.put, List.setIfInBounds_toArray, List.set_cons_zero, List.set_cons_succ, i64_w, i32_w]
    rfl
  refine done_ (by kernel_rfl) ?_
  have Kg1 := Aside0.mk hHeld.k1
  have Kg3 := Aside0.mk hHeld.k2
  replace HB := Aside0.mk hHeld.below
  clear hHeld SS
  go_wp2_with (first | ((with_reducible refine gate_store (p := 11) rfl ?_); refine st58 (p := { p with st := 4 }) Kg11.out (by first | exact enc_size _ | rfl) rfl _ _ rfl rfl rfl ?_; intro v20 q20 b20; replace Kg1 := Aside0.mk (b20.keep Kg1.out Dg1_g11.out); replace Kg3 := Aside0.mk (b20.keep Kg3.out Dg3_g11.out); replace Kg8 := Aside0.mk (b20.keep Kg8.out Dg8_g11.out); replace HB := Aside0.mk (b20.below HB.out Gg11.out HB.out.size); replace Kg11 := Aside0.mk q20; clear b20) | ((with_reducible refine gate_dst (N := 11) rfl ?_); refine box_event rfl (N := 11) rfl (cs := #[.int .u16 0, .int .i64 0, .int .u32 0, .int .u64 0, .int .u32 0, .int .u64 0, .int .u16 0, .bool false, .bool false, .bool false, .int .i64 0, .bool false, .int .i64 0, .bool false, .int .i64 0]) (t := 58) (by first | (go_simp; done) | (go_simp; rfl)) ?_; intro g11 eg11 v19 Kg11 b19; have Dg1_g11 := Aside0.mk (show g1 ≠ g11 from by have := blk_lt Kg1.out; omega); replace Kg1 := Aside0.mk (blk_below Kg1.out b19); have Dg3_g11 := Aside0.mk (show g3 ≠ g11 from by have := blk_lt Kg3.out; omega); replace Kg3 := Aside0.mk (blk_below Kg3.out b19); have Dg8_g11 := Aside0.mk (show g8 ≠ g11 from by have := blk_lt Kg8.out; omega); replace Kg8 := Aside0.mk (blk_below Kg8.out b19); have Gg11 := Aside0.mk (show w.heap.size ≤ g11 from by rw [eg11]; exact HB.out.size); replace HB := Aside0.mk (below_step HB.out b19); replace Kg11 := Aside0.mk Kg11; clear b19 eg11) | ((with_reducible refine gate_dst (N := 82) rfl ?_); refine goesL_ (some 82) rfl rfl Try.func39 (by kernel_rfl) rfl #[.agg (enc p)] rfl (by (try simp only [List.map_toArray, List.map_cons, List.map_nil]); first | done | rfl) ?_; refine (Next_3 p H.out _).mono ?_; rintro e v18 ⟨rfl, b18⟩; refine ⟨_, rfl, ?_⟩; replace Kg1 := Aside0.mk (blk_below Kg1.out b18); replace Kg3 := Aside0.mk (blk_below Kg3.out b18); replace Kg8 := Aside0.mk (blk_below Kg8.out b18); replace HB := Aside0.mk (below_step HB.out b18); clear b18) | ((with_reducible refine gate_dst (N := 81) rfl ?_); refine ld58 Kg1.out rfl _ rfl rfl ?_) | ((with_reducible refine gate_store (p := 75) rfl ?_); refine ev_st rfl 3 _ _ rfl g3 1 rfl rfl #[.int .i64 4] rfl info3 (by simp [Value.oneCell']) Kg3.out (by first | (rw [enc_size]; simp; done) | simp) (enc ({ p with st := 4 })) (enc_st _ _) ?_; intro v17 q17 b17; replace Kg1 := Aside0.mk (b17.keep Kg1.out Dg1_g3.out); replace Kg8 := Aside0.mk (b17.keep Kg8.out Dg3_g8.out.symm); replace HB := Aside0.mk (b17.below HB.out Gg3.out HB.out.size); replace Kg3 := Aside0.mk q17; clear b17) | ((with_reducible refine gate_dst (N := 70) rfl ?_); refine goesL_ (some 70) rfl rfl Try.func42 (by kernel_rfl) rfl #[.int .i64 p.st] rfl (by (try simp only [List.map_toArray, List.map_cons, List.map_nil]); first | done | rfl) ?_; refine (refNext_3 _ c2 c3 _).mono ?_; rintro e v16 ⟨rfl, b16⟩; refine ⟨_, rfl, ?_⟩; replace Kg1 := Aside0.mk (blk_below Kg1.out b16); replace Kg3 := Aside0.mk (blk_below Kg3.out b16); replace Kg8 := Aside0.mk (blk_below Kg8.out b16); replace HB := Aside0.mk (below_step HB.out b16); clear b16) | ((with_reducible refine gate_dst (N := 69) rfl ?_); refine ev_ld1 rfl _ _ rfl g1 1 rfl Kg1.out (.int .i64 p.st) Try.underlying3 rfl (enc_1 p) ?_) | ((with_reducible refine gate_store (p := 3) rfl ?_); refine st58 (p := p) Kg3.out (by first | exact enc_size _ | rfl) rfl _ _ rfl rfl rfl ?_; intro v15 q15 b15; replace Kg1 := Aside0.mk (b15.keep Kg1.out Dg1_g3.out); replace Kg8 := Aside0.mk (b15.keep Kg8.out Dg3_g8.out.symm); replace HB := Aside0.mk (b15.below HB.out Gg3.out HB.out.size); replace Kg3 := Aside0.mk q15; clear b15) | ((with_reducible refine gate_dst (N := 66) rfl ?_); refine ld58 Kg1.out rfl _ rfl rfl ?_) | ((with_reducible refine gate_dst (N := 58) rfl ?_); refine ld58 Kg3.out rfl _ rfl rfl ?_) | ((with_reducible refine gate_dst (N := 57) rfl ?_); refine ld58 Kg8.out rfl _ rfl rfl ?_) | ((with_reducible refine gate_store (p := 8) rfl ?_); refine st58 (p := { p with st := 1, dOn := false, dV := 0 }) Kg8.out (by first | exact enc_size _ | rfl) rfl _ _ rfl rfl rfl ?_; intro v14 q14 b14; replace Kg1 := Aside0.mk (b14.keep Kg1.out Dg1_g8.out); replace Kg3 := Aside0.mk (b14.keep Kg3.out Dg3_g8.out); replace HB := Aside0.mk (b14.below HB.out Gg8.out HB.out.size); replace Kg8 := Aside0.mk q14; clear b14) | ((with_reducible refine gate_dst (N := 8) rfl ?_); refine box_event rfl (N := 8) rfl (cs := #[.int .u16 0, .int .i64 0, .int .u32 0, .int .u64 0, .int .u32 0, .int .u64 0, .int .u16 0, .bool false, .bool false, .bool false, .int .i64 0, .bool false, .int .i64 0, .bool false, .int .i64 0]) (t := 58) (by first | (go_simp; done) | (go_simp; rfl)) ?_; intro g8 eg8 v13 Kg8 b13; have Dg1_g8 := Aside0.mk (show g1 ≠ g8 from by have := blk_lt Kg1.out; omega); replace Kg1 := Aside0.mk (blk_below Kg1.out b13); have Dg3_g8 := Aside0.mk (show g3 ≠ g8 from by have := blk_lt Kg3.out; omega); replace Kg3 := Aside0.mk (blk_below Kg3.out b13); have Gg8 := Aside0.mk (show w.heap.size ≤ g8 from by rw [eg8]; exact HB.out.size); replace HB := Aside0.mk (below_step HB.out b13); replace Kg8 := Aside0.mk Kg8; clear b13 eg8) | ((with_reducible refine gate_dst (N := 54) rfl ?_); refine goesL_ (some 54) rfl rfl Try.func37 (by kernel_rfl) rfl #[.agg (enc p)] rfl (by (try simp only [List.map_toArray, List.map_cons, List.map_nil]); first | done | rfl) ?_; refine (Block_3 p H.out _).mono ?_; rintro e v12 ⟨rfl, b12⟩; refine ⟨_, rfl, ?_⟩; replace Kg1 := Aside0.mk (blk_below Kg1.out b12); replace Kg3 := Aside0.mk (blk_below Kg3.out b12); replace HB := Aside0.mk (below_step HB.out b12); clear b12) | ((with_reducible refine gate_dst (N := 53) rfl ?_); refine ld58 Kg1.out rfl _ rfl rfl ?_) | ((with_reducible refine gate_store (p := 51) rfl ?_); refine ev_st rfl 39 _ _ rfl g3 11 rfl rfl #[.bool false, .int .i64 0] rfl info39 (by simp [Value.oneCell']) Kg3.out (by first | (rw [enc_size]; simp; done) | simp) (enc ({ p with st := 1, dOn := false, dV := 0 })) (enc_delay _ _ _) ?_; intro v11 q11 b11; replace Kg1 := Aside0.mk (b11.keep Kg1.out Dg1_g3.out); replace HB := Aside0.mk (b11.below HB.out Gg3.out HB.out.size); replace Kg3 := Aside0.mk q11; clear b11) | ((with_reducible refine gate_store (p := 47) rfl ?_); refine ev_st rfl 3 _ _ rfl g3 1 rfl rfl #[.int .i64 1] rfl info3 (by simp [Value.oneCell']) Kg3.out (by first | (rw [enc_size]; simp; done) | simp) (enc ({ p with st := 1 })) (enc_st _ _) ?_; intro v10 q10 b10; replace Kg1 := Aside0.mk (b10.keep Kg1.out Dg1_g3.out); replace HB := Aside0.mk (b10.below HB.out Gg3.out HB.out.size); replace Kg3 := Aside0.mk q10; clear b10) | ((with_reducible refine gate_dst (N := 42) rfl ?_); refine goesL_ (some 42) rfl rfl Try.func41 (by kernel_rfl) rfl #[.int .i64 p.st] rfl (by (try simp only [List.map_toArray, List.map_cons, List.map_nil]); first | done | rfl) ?_; refine (refBlock_3 _ c0 c1 c3 _).mono ?_; rintro e v9 ⟨rfl, b9⟩; refine ⟨_, rfl, ?_⟩; replace Kg1 := Aside0.mk (blk_below Kg1.out b9); replace Kg3 := Aside0.mk (blk_below Kg3.out b9); replace HB := Aside0.mk (below_step HB.out b9); clear b9) | ((with_reducible refine gate_dst (N := 41) rfl ?_); refine ev_ld1 rfl _ _ rfl g1 1 rfl Kg1.out (.int .i64 p.st) Try.underlying3 rfl (enc_1 p) ?_) | ((with_reducible refine gate_store (p := 3) rfl ?_); refine st58 (p := p) Kg3.out (by first | exact enc_size _ | rfl) rfl _ _ rfl rfl rfl ?_; intro v8 q8 b8; replace Kg1 := Aside0.mk (b8.keep Kg1.out Dg1_g3.out); replace HB := Aside0.mk (b8.below HB.out Gg3.out HB.out.size); replace Kg3 := Aside0.mk q8; clear b8) | ((with_reducible refine gate_dst (N := 38) rfl ?_); refine ld58 Kg1.out rfl _ rfl rfl ?_))
  have SS : B3 w g1 g3 g11 (enc p) (enc ({ p with st := 4 })) (enc ({ p with st := 4 })) _ := ⟨Kg1.out, Kg3.out, Kg11.out, HB.out⟩
  clear Kg1 Kg3 Kg8 Kg11
  refine startB (SS.step (drewB _)) (n := 33) [] #[false, false, false, false, false, false, false, false, false, false, false, false, false, false, false, false, false, false, false, false, false, false, false, false, false, false, false, false, false, false, false, false, false] (by kernel_rfl) rfl rfl (fun hHeld => ?_)
  refine take_ (i := 0) (N := some 85) (v := _) (a' := ?_) #[true, false, false, false, false, false, false, false, false, false, false, false, false, false, false, false, false, false, false, false, false, false, false, false, false, false, false, false, false, false, false, false, false] rfl rfl (by kernel_rfl) (fun _ _ _ h => h) (Or.inl ⟨by rfl, fun w2 h => run_ld58 h.k3 (.tmp 11) rfl rfl⟩) hHeld ?_ ?_
  rotate_left
  · simp only [Act.put, List.setIfInBounds_toArray, List.set_cons_zero, List.set_cons_succ, i64_w, i32_w]
    rfl
  refine take_ (i := 1) (N := some 86) (v := _) (a' := ?_) #[true, true, false, false, false, false, false, false, false, false, false, false, false, false, false, false, false, false, false, false, false, false, false, false, false, false, false, false, false, false, false, false, false] rfl rfl (by kernel_rfl) (fun _ _ _ h => h) (Or.inl ⟨by rfl, fun w2 h => run_ld58 h.k2 (.tmp 3) rfl rfl⟩) hHeld ?_ ?_
  rotate_left
  · simp only [Act.put, List.setIfInBounds_toArray, List.set_cons_zero, List.set_cons_succ, i64_w, i32_w]
    rfl
  refine pure_ (i := 2) (N := some 87) (v := ?_) (a' := ?_) #[true, true, true, false, false, false, false, false, false, false, false, false, false, false, false, false, false, false, false, false, false, false, false, false, false, false, false, false, false, false, false, false, false] rfl rfl (by kernel_rfl) (fun _ _ _ h => h) (Or.inl ⟨by rfl, ?_⟩) ?_ ?_
  rotate_left
  · intro w'
    go_simp
    with_reducible rfl
  rotate_left
  · simp only [Act.put, List.setIfInBounds_toArray, List.set_cons_zero, List.set_cons_succ, i64_w, i32_w]
    rfl
  refine pure_ (i := 3) (N := some 88) (v := ?_) (a' := ?_) #[true, true, true, true, false, false, false, false, false, false, false, false, false, false, false, false, false, false, false, false, false, false, false, false, false, false, false, false, false, false, false, false, false] rfl rfl (by kernel_rfl) (fun _ _ _ h => h) (Or.inl ⟨by rfl, ?_⟩) ?_ ?_
  rotate_left
  · intro w'
    go_simp
    with_reducible rfl
  rotate_left
  · simp only [Act.put, List.setIfInBounds_toArray, List.set_cons_zero, List.set_cons_succ, i64_w, i32_w]
    rfl
  refine pure_ (i := 4) (N := some 89) (v := ?_) (a' := ?_) #[true, true, true, true, true, false, false, false, false, false, false, false, false, false, false, false, false, false, false, false, false, false, false, false, false, false, false, false, false, false, false, false, false] rfl rfl (by kernel_rfl) (fun _ _ _ h => h) (Or.inl ⟨by rfl, ?_⟩) ?_ ?_
  rotate_left
  · intro w'
    go_simp
    with_reducible rfl
  rotate_left
  · simp only [Act.put, List.setIfInBounds_toArray, List.set_cons_zero, List.set_cons_succ, i64_w, i32_w]
    rfl
  refine pure_ (i := 5) (N := some 90) (v := ?_) (a' := ?_) #[true, true, true, true, true, true, false, false, false, false, false, false, false, false, false, false, false, false, false, false, false, false, false, false, false, false, false, false, false, false, false, false, false] rfl rfl (by kernel_rfl) (fun _ _ _ h => h) (Or.inl ⟨by rfl, ?_⟩) ?_ ?_
  rotate_left
  · intro w'
    go_simp
    with_reducible rfl
  rotate_left
  · simp only [Act.put, List.setIfInBounds_toArray, List.set_cons_zero, List.set_cons_succ, i64_w, i32_w]
    rfl
  refine pure_ (i := 6) (N := some 91) (v := ?_) (a' := ?_) #[true, true, true, true, true, true, true, false, false, false, false, false, false, false, false, false, false, false, false, false, false, false, false, false, false, false, false, false, false, false, false, false, false] rfl rfl (by kernel_rfl) (fun _ _ _ h => h) (Or.inl ⟨by rfl, ?_⟩) ?_ ?_
  rotate_left
  · intro w'
    go_simp
    with_reducible rfl
  rotate_left
  · simp only [Act.put, List.setIfInBounds_toArray, List.set_cons_zero, List.set_cons_succ, i64_w, i32_w]
    rfl
  refine pure_ (i := 7) (N := some 92) (v := ?_) (a' := ?_) #[true, true, true, true, true, true, true, true, false, false, false, false, false, false, false, false, false, false, false, false, false, false, false, false, false, false, false, false, false, false, false, false, false] rfl rfl (by kernel_rfl) (fun _ _ _ h => h) (Or.inl ⟨by rfl, ?_⟩) ?_ ?_
  rotate_left
  · intro w'
    go_simp
    with_reducible rfl
  rotate_left
  · simp only [Act.put, List.setIfInBounds_toArray, List.set_cons_zero, List.set_cons_succ, i64_w, i32_w]
    rfl
  refine pure_ (i := 8) (N := some 93) (v := ?_) (a' := ?_) #[true, true, true, true, true, true, true, true, true, false, false, false, false, false, false, false, false, false, false, false, false, false, false, false, false, false, false, false, false, false, false, false, false] rfl rfl (by kernel_rfl) (fun _ _ _ h => h) (Or.inl ⟨by rfl, ?_⟩) ?_ ?_
  rotate_left
  · intro w'
    go_simp
    with_reducible rfl
  rotate_left
  · simp only [Act.put, List.setIfInBounds_toArray, List.set_cons_zero, List.set_cons_succ, i64_w, i32_w]
    rfl
  refine pure_ (i := 9) (N := some 94) (v := ?_) (a' := ?_) #[true, true, true, true, true, true, true, true, true, true, false, false, false, false, false, false, false, false, false, false, false, false, false, false, false, false, false, false, false, false, false, false, false] rfl rfl (by kernel_rfl) (fun _ _ _ h => h) (Or.inl ⟨by rfl, ?_⟩) ?_ ?_
  rotate_left
  · intro w'
    go_simp
    with_reducible rfl
  rotate_left
  · simp only [Act.put, List.setIfInBounds_toArray, List.set_cons_zero, List.set_cons_succ, i64_w, i32_w]
    rfl
  refine pure_ (i := 10) (N := some 95) (v := ?_) (a' := ?_) #[true, true, true, true, true, true, true, true, true, true, true, false, false, false, false, false, false, false, false, false, false, false, false, false, false, false, false, false, false, false, false, false, false] rfl rfl (by kernel_rfl) (fun _ _ _ h => h) (Or.inl ⟨by rfl, ?_⟩) ?_ ?_
  rotate_left
  · intro w'
    go_simp
    with_reducible rfl
  rotate_left
  · simp only [Act.put, List.setIfInBounds_toArray, List.set_cons_zero, List.set_cons_succ, i64_w, i32_w]
    rfl
  refine pure_ (i := 13) (N := some 98) (v := ?_) (a' := ?_) #[true, true, true, true, true, true, true, true, true, true, true, false, false, true, false, false, false, false, false, false, false, false, false, false, false, false, false, false, false, false, false, false, false] rfl rfl (by kernel_rfl) (fun _ _ _ h => h) (Or.inl ⟨by rfl, ?_⟩) ?_ ?_
  rotate_left
  · intro w'
    go_simp
    with_reducible rfl
  rotate_left
  · simp only [Act.put, List.setIfInBounds_toArray, List.set_cons_zero, List.set_cons_succ, i64_w, i32_w]
    rfl
  refine take_ (i := 11) (N := some 96) (v := _) (a' := ?_) #[true, true, true, true, true, true, true, true, true, true, true, true, false, true, false, false, false, false, false, false, false, false, false, false, false, false, false, false, false, false, false, false, false] rfl rfl (by kernel_rfl) (fun _ _ _ h => h) (Or.inl ⟨by rfl, fun w2 h => run_ld1 h.k1 3 (.tmp 95) rfl rfl (u := .int .i64 3) Try.underlying3 rfl ((enc_1 p).trans (congrArg (fun x => some (Value.int .i64 x)) H.out))⟩) hHeld ?_ ?_
  rotate_left
  · simp only [Act.put, List.setIfInBounds_toArray, List.set_cons_zero, List.set_cons_succ, i64_w, i32_w]
    rfl
  refine take_ (i := 14) (N := some 99) (v := _) (a' := ?_) #[true, true, true, true, true, true, true, true, true, true, true, true, false, true, true, false, false, false, false, false, false, false, false, false, false, false, false, false, false, false, false, false, false] rfl rfl (by kernel_rfl) (fun _ _ _ h => h) (Or.inl ⟨by rfl, fun w2 h => run_ld1 h.k1 3 (.tmp 98) rfl rfl (u := .int .i64 3) Try.underlying3 rfl ((enc_1 p).trans (congrArg (fun x => some (Value.int .i64 x)) H.out))⟩) hHeld ?_ ?_
  rotate_left
  · simp only [Act.put, List.setIfInBounds_toArray, List.set_cons_zero, List.set_cons_succ, i64_w, i32_w]
    rfl
  refine pure_ (i := 15) (N := some 100) (v := ?_) (a' := ?_) #[true, true, true, true, true, true, true, true, true, true, true, true, false, true, true, true, false, false, false, false, false, false, false, false, false, false, false, false, false, false, false, false, false] rfl rfl (by kernel_rfl) (fun _ _ _ h => h) (Or.inl ⟨by rfl, ?_⟩) ?_ ?_
  rotate_left
  · intro w'
    go_simp
    with_reducible rfl
  rotate_left
  · simp only [Act.put, List.setIfInBounds_toArray, List.set_cons_zero, List.set_cons_succ, i64_w, i32_w]
    rfl
  refine one_ (i := 12) (N := some 97) #[true, true, true, true, true, true, true, true, true, true, true, true, true, true, true, true, false, false, false, false, false, false, false, false, false, false, false, false, false, false, false, false, false] rfl rfl (by kernel_rfl) (by decide) (fun K hK => ?_)
  refine goes_ Try.func43 (by kernel_rfl) rfl #[.int .i64 3] (by rfl) rfl rfl (by (try simp only [List.map_toArray, List.map_cons, List.map_nil]); first | done | rfl) ?_
  refine (Learns_3 3 rfl _).mono ?_
  rintro e w3 ⟨rfl, hb⟩
  refine ⟨_, rfl, ?_⟩
  refine hK.out _ _ (hHeld.step hb) (fun hHeld => ?_)
  clear hK K
  refine norm_ (a' := ?_) ?_ ?_
  rotate_left
  · show Act.put _ (some 97) _ = _
    simp only [Act.put, List.setIfInBounds_toArray, List.set_cons_zero, List.set_cons_succ, i64_w, i32_w]
    rfl
  refine pure_ (i := 16) (N := some 101) (v := ?_) (a' := ?_) #[true, true, true, true, true, true, true, true, true, true, true, true, true, true, true, true, true, false, false, false, false, false, false, false, false, false, false, false, false, false, false, false, false] rfl rfl (by kernel_rfl) (fun _ _ _ h => h) (Or.inl ⟨by rfl, ?_⟩) ?_ ?_
  rotate_left
  · intro w'
    go_simp
    with_reducible rfl
  rotate_left
  · simp only [Act.put, List.setIfInBounds_toArray, List.set_cons_zero, List.set_cons_succ, i64_w, i32_w]
    rfl
  refine pure_ (i := 17) (N := some 102) (v := undef) (a' := ?_) #[true, true, true, true, true, true, true, true, true, true, true, true, true, true, true, true, true, true, false, false, false, false, false, false, false, false, false, false, false, false, false, false, false] rfl rfl (by kernel_rfl) (fun _ _ _ h => h) (Or.inr ⟨by rfl, rfl⟩) ?_ ?_
  rotate_left
  · simp only [Act.put, List.setIfInBounds_toArray, List.set_cons_zero, List.set_cons_succ, i64_w, i32_w]
    rfl
  refine pure_ (i := 18) (N := some 103) (v := undef) (a' := ?_) #[true, true, true, true, true, true, true, true, true, true, true, true, true, true, true, true, true, true, true, false, false, false, false, false, false, false, false, false, false, false, false, false, false] rfl rfl (by kernel_rfl) (fun _ _ _ h => h) (Or.inr ⟨by rfl, rfl⟩) ?_ ?_
  rotate_left
  · simp only [Act.put, List.setIfInBounds_toArray, List.set_cons_zero, List.set_cons_succ, i64_w, i32_w]
    rfl
  refine pure_ (i := 19) (N := some 104) (v := undef) (a' := ?_) #[true, true, true, true, true, true, true, true, true, true, true, true, true, true, true, true, true, true, true, true, false, false, false, false, false, false, false, false, false, false, false, false, false] rfl rfl (by kernel_rfl) (fun _ _ _ h => h) (Or.inr ⟨by rfl, rfl⟩) ?_ ?_
  rotate_left
  · simp only [Act.put, List.setIfInBounds_toArray, List.set_cons_zero, List.set_cons_succ, i64_w, i32_w]
    rfl
  refine pure_ (i := 20) (N := some 105) (v := ?_) (a' := ?_) #[true, true, true, true, true, true, true, true, true, true, true, true, true, true, true, true, true, true, true, true, true, false, false, false, false, false, false, false, false, false, false, false, false] rfl rfl (by kernel_rfl) (fun _ _ _ h => h) (Or.inl ⟨by rfl, ?_⟩) ?_ ?_
  rotate_left
  · intro w'
    go_simp
    with_reducible rfl
  rotate_left
  · simp only [Act.put, List.setIfInBounds_toArray, List.set_cons_zero, List.set_cons_succ, i64_w, i32_w]
    rfl
  refine pure_ (i := 21) (N := some 106) (v := ?_) (a' := ?_) #[true, true, true, true, true, true, true, true, true, true, true, true, true, true, true, true, true, true, true, true, true, true, false, false, false, false, false, false, false, false, false, false, false] rfl rfl (by kernel_rfl) (fun _ _ _ h => h) (Or.inl ⟨by rfl, ?_⟩) ?_ ?_
  rotate_left
  · intro w'
    go_simp
    with_reducible rfl
  rotate_left
  · simp only [Act.put, List.setIfInBounds_toArray, List.set_cons_zero, List.set_cons_succ, i64_w, i32_w]
    rfl
  refine pure_ (i := 22) (N := some 107) (v := ?_) (a' := ?_) #[true, true, true, true, true, true, true, true, true, true, true, true, true, true, true, true, true, true, true, true, true, true, true, false, false, false, false, false, false, false, false, false, false] rfl rfl (by kernel_rfl) (fun _ _ _ h => h) (Or.inl ⟨by rfl, ?_⟩) ?_ ?_
  rotate_left
  · intro w'
    go_simp
    with_reducible rfl
  rotate_left
  · simp only [Act.put, List.setIfInBounds_toArray, List.set_cons_zero, List.set_cons_succ, i64_w, i32_w]
    rfl
  refine pure_ (i := 23) (N := some 108) (v := ?_) (a' := ?_) #[true, true, true, true, true, true, true, true, true, true, true, true, true, true, true, true, true, true, true, true, true, true, true, true, false, false, false, false, false, false, false, false, false] rfl rfl (by kernel_rfl) (fun _ _ _ h => h) (Or.inl ⟨by rfl, ?_⟩) ?_ ?_
  rotate_left
  · intro w'
    go_simp
    with_reducible rfl
  rotate_left
  · simp only [Act.put, List.setIfInBounds_toArray, List.set_cons_zero, List.set_cons_succ, i64_w, i32_w]
    rfl
  refine pure_ (i := 24) (N := some 109) (v := ?_) (a' := ?_) #[true, true, true, true, true, true, true, true, true, true, true, true, true, true, true, true, true, true, true, true, true, true, true, true, true, false, false, false, false, false, false, false, false] rfl rfl (by kernel_rfl) (fun _ _ _ h => h) (Or.inl ⟨by rfl, ?_⟩) ?_ ?_
  rotate_left
  · intro w'
    go_simp
    with_reducible rfl
  rotate_left
  · simp only [Act.put, List.setIfInBounds_toArray, List.set_cons_zero, List.set_cons_succ, i64_w, i32_w]
    rfl
  refine pure_ (i := 27) (N := some 112) (v := ?_) (a' := ?_) #[true, true, true, true, true, true, true, true, true, true, true, true, true, true, true, true, true, true, true, true, true, true, true, true, true, false, false, true, false, false, false, false, false] rfl rfl (by kernel_rfl) (fun _ _ _ h => h) (Or.inl ⟨by rfl, ?_⟩) ?_ ?_
  rotate_left
  · intro w'
    go_simp
    with_reducible rfl
  rotate_left
  · simp only [Act.put, List.setIfInBounds_toArray, List.set_cons_zero, List.set_cons_succ, i64_w, i32_w]
    rfl
  refine take_ (i := 25) (N := some 110) (v := _) (a' := ?_) #[true, true, true, true, true, true, true, true, true, true, true, true, true, true, true, true, true, true, true, true, true, true, true, true, true, true, false, true, false, false, false, false, false] rfl rfl (by kernel_rfl) (fun _ _ _ h => h) (Or.inl ⟨by rfl, fun w2 h => run_ld1 h.k1 3 (.tmp 109) rfl rfl (u := .int .i64 3) Try.underlying3 rfl ((enc_1 p).trans (congrArg (fun x => some (Value.int .i64 x)) H.out))⟩) hHeld ?_ ?_
  rotate_left
  · simp only [Act.put, List.setIfInBounds_toArray, List.set_cons_zero, List.set_cons_succ, i64_w, i32_w]
    rfl
  refine take_ (i := 28) (N := some 113) (v := _) (a' := ?_) #[true, true, true, true, true, true, true, true, true, true, true, true, true, true, true, true, true, true, true, true, true, true, true, true, true, true, false, true, true, false, false, false, false] rfl rfl (by kernel_rfl) (fun _ _ _ h => h) (Or.inl ⟨by rfl, fun w2 h => run_ld1 h.k1 3 (.tmp 112) rfl rfl (u := .int .i64 3) Try.underlying3 rfl ((enc_1 p).trans (congrArg (fun x => some (Value.int .i64 x)) H.out))⟩) hHeld ?_ ?_
  rotate_left
  · simp only [Act.put, List.setIfInBounds_toArray, List.set_cons_zero, List.set_cons_succ, i64_w, i32_w]
    rfl
  refine pure_ (i := 29) (N := some 114) (v := ?_) (a' := ?_) #[true, true, true, true, true, true, true, true, true, true, true, true, true, true, true, true, true, true, true, true, true, true, true, true, true, true, false, true, true, true, false, false, false] rfl rfl (by kernel_rfl) (fun _ _ _ h => h) (Or.inl ⟨by rfl, ?_⟩) ?_ ?_
  rotate_left
  · intro w'
    go_simp
    with_reducible rfl
  rotate_left
  · simp only [Act.put, List.setIfInBounds_toArray, List.set_cons_zero, List.set_cons_succ, i64_w, i32_w]
    rfl
  refine one_ (i := 26) (N := some 111) #[true, true, true, true, true, true, true, true, true, true, true, true, true, true, true, true, true, true, true, true, true, true, true, true, true, true, true, true, true, true, false, false, false] rfl rfl (by kernel_rfl) (by decide) (fun K hK => ?_)
  refine goes_ Try.func44 (by kernel_rfl) rfl #[.int .i64 3] (by rfl) rfl rfl (by (try simp only [List.map_toArray, List.map_cons, List.map_nil]); first | done | rfl) ?_
  refine (Forwards_calls 3 _).mono ?_
  rintro e w3 ⟨rfl, hb⟩
  refine ⟨_, rfl, ?_⟩
  refine hK.out _ _ (hHeld.step hb) (fun hHeld => ?_)
  clear hK K
  refine norm_ (a' := ?_) ?_ ?_
  rotate_left
  · show Act.put _ (some 111) _ = _
    simp only [Act.put, List.setIfInBounds_toArray, List.set_cons_zero, List.set_cons_succ, i64_w, i32_w]
    rfl
  refine pure_ (i := 30) (N := some 115) (v := ?_) (a' := ?_) #[true, true, true, true, true, true, true, true, true, true, true, true, true, true, true, true, true, true, true, true, true, true, true, true, true, true, true, true, true, true, true, false, false] rfl rfl (by kernel_rfl) (fun _ _ _ h => h) (Or.inl ⟨by rfl, ?_⟩) ?_ ?_
  rotate_left
  · intro w'
    go_simp
    with_reducible rfl
  rotate_left
  · simp only [Act.put, List.setIfInBounds_toArray, List.set_cons_zero, List.set_cons_succ, i64_w, i32_w]
    rfl
  refine pure_ (i := 31) (N := some 116) (v := ?_) (a' := ?_) #[true, true, true, true, true, true, true, true, true, true, true, true, true, true, true, true, true, true, true, true, true, true, true, true, true, true, true, true, true, true, true, true, false] rfl rfl (by kernel_rfl) (fun _ _ _ h => h) (Or.inl ⟨by rfl, ?_⟩) ?_ ?_
  rotate_left
  · intro w'
    go_simp
    with_reducible rfl
  rotate_left
  · simp only [Act.put, List.setIfInBounds_toArray, List.set_cons_zero, List.set_cons_succ, i64_w, i32_w]
    rfl
  refine pure_ (i := 32) (N := some 2) (v := ?_) (a' := ?_) #[true, true, true, true, true, true, true, true, true, true, true, true, true, true, true, true, true, true, true, true, true, true, true, true, true, true, true, true, true, true, true, true, true] rfl rfl (by kernel_rfl) (fun _ _ _ h => h) (Or.inl ⟨by rfl, ?_⟩) ?_ ?_
  rotate_left
  · intro w'
    go_simp
    with_reducible rfl
  rotate_left
  · simp only [Act.put, List.setIfInBounds_toArray, List.set_cons_zero, List.set_cons_succ, i64_w, i32_w]
    rfl
  refine done_ (by kernel_rfl) ?_
  go_wp2_with fail
  go_ret
  exact ⟨by simp, hHeld.below⟩

set_option maxHeartbeats 8000000 in
set_option maxRecDepth 100000 in
theorem Plays_4 (p : Pt) (F : ∀ w, Calls Try.prog 33 #[.agg (enc p)] w fun e w' => e = .returned (.bool true) ∧ Below w.heap.size w w') (h : p.st = 4) (w : World) : Calls Try.prog 13 #[.agg (enc p)] w fun e w' => e = .returned (.bool true) ∧ Below w.heap.size w w' := by
  have c0 : (p.st == 0) = false := by rw [h]; rfl
  have c1 : (p.st == 1) = false := by rw [h]; rfl
  have c2 : (p.st == 2) = false := by rw [h]; rfl
  have c3 : (p.st == 3) = false := by rw [h]; rfl
  have c4 : (p.st == 4) = true := by rw [h]; rfl
  have H := Aside0.mk h
  clear h
  have HB := Aside0.mk (Below.refl w.heap.size w)
  go_enter Try.func13, Try.ntmps13
  go_wp2_with (first | ((with_reducible refine gate_dst (N := 1) rfl ?_); refine box_event rfl (N := 1) rfl (cs := enc p) (t := 58) (by first | (go_simp; done) | (go_simp; rfl)) ?_; intro g1 eg1 v1 Kg1 b1; have Gg1 := Aside0.mk (show w.heap.size ≤ g1 from by rw [eg1]; exact HB.out.size); replace HB := Aside0.mk (below_step HB.out b1); replace Kg1 := Aside0.mk Kg1; clear b1 eg1) | ((with_reducible refine gate_dst (N := 13) rfl ?_); refine goesL_ (some 13) rfl rfl Try.func32 (by kernel_rfl) rfl #[] rfl (by (try simp only [List.map_toArray, List.map_cons, List.map_nil]); first | done | rfl) ?_; refine (awake_calls _).mono ?_; rintro e v2 ⟨rfl, b2⟩; refine ⟨_, rfl, ?_⟩; replace Kg1 := Aside0.mk (blk_below Kg1.out b2); replace HB := Aside0.mk (below_step HB.out b2); clear b2) | ((with_reducible refine gate_dst (N := 16) rfl ?_); (refine gate_guard (by rfl) ?_; dsimp only); refine ld58 Kg1.out rfl _ rfl rfl ?_) | (go_at_call 33; refine (F _).mono ?_; rintro e v3 ⟨rfl, b3⟩; replace Kg1 := Aside0.mk (blk_below Kg1.out b3); replace HB := Aside0.mk (below_step HB.out b3); clear b3) | ((with_reducible refine gate_dst (N := 21) rfl ?_); refine ld58 Kg1.out rfl _ rfl rfl ?_) | ((with_reducible refine gate_dst (N := 3) rfl ?_); refine box_event rfl (N := 3) rfl (cs := #[.int .u16 0, .int .i64 0, .int .u32 0, .int .u64 0, .int .u32 0, .int .u64 0, .int .u16 0, .bool false, .bool false, .bool false, .int .i64 0, .bool false, .int .i64 0, .bool false, .int .i64 0]) (t := 58) (by first | (go_simp; done) | (go_simp; rfl)) ?_; intro g3 eg3 v4 Kg3 b4; have Dg1_g3 := Aside0.mk (show g1 ≠ g3 from by have := blk_lt Kg1.out; omega); replace Kg1 := Aside0.mk (blk_below Kg1.out b4); have Gg3 := Aside0.mk (show w.heap.size ≤ g3 from by rw [eg3]; exact HB.out.size); replace HB := Aside0.mk (below_step HB.out b4); replace Kg3 := Aside0.mk Kg3; clear b4 eg3) | ((with_reducible refine gate_store (p := 3) rfl ?_); refine st58 (p := p) Kg3.out (by first | exact enc_size _ | rfl) rfl _ _ rfl rfl rfl ?_; intro v5 q5 b5; replace Kg1 := Aside0.mk (b5.keep Kg1.out Dg1_g3.out); replace HB := Aside0.mk (b5.below HB.out Gg3.out HB.out.size); replace Kg3 := Aside0.mk q5; clear b5) | ((with_reducible refine gate_dst (N := 24) rfl ?_); refine ev_ld1 rfl _ _ rfl g1 1 rfl Kg1.out (.int .i64 p.st) Try.underlying3 rfl (enc_1 p) ?_) | ((with_reducible refine gate_dst (N := 25) rfl ?_); refine goesL_ (some 25) rfl rfl Try.func40 (by kernel_rfl) rfl #[.int .i64 p.st] rfl (by (try simp only [List.map_toArray, List.map_cons, List.map_nil]); first | done | rfl) ?_; refine (refRise_0 _ c1 _).mono ?_; rintro e v6 ⟨rfl, b6⟩; refine ⟨_, rfl, ?_⟩; replace Kg1 := Aside0.mk (blk_below Kg1.out b6); replace Kg3 := Aside0.mk (blk_below Kg3.out b6); replace HB := Aside0.mk (below_step HB.out b6); clear b6) | ((with_reducible refine gate_store (p := 29) rfl ?_); refine ev_st rfl 3 _ _ rfl g3 1 rfl rfl #[.int .i64 (p.st)] rfl info3 (by simp [Value.oneCell']) Kg3.out (by first | (rw [enc_size]; simp; done) | simp) (enc (p)) (enc_st _ _) ?_; intro v7 q7 b7; replace Kg1 := Aside0.mk (b7.keep Kg1.out Dg1_g3.out); replace HB := Aside0.mk (b7.below HB.out Gg3.out HB.out.size); replace Kg3 := Aside0.mk q7; clear b7))
  have SS : B2 w g1 g3 (enc p) (enc (p)) _ := ⟨Kg1.out, Kg3.out, HB.out⟩
  clear Kg1 Kg3
  refine startB (SS.step (drewB _)) (n := 4) [] #[false, false, false, false] (by kernel_rfl) rfl rfl (fun hHeld => ?_)
  refine take_ (i := 0) (N := some 34) (v := _) (a' := ?_) #[true, false, false, false] rfl rfl (by kernel_rfl) (fun _ _ _ h => h) (Or.inl ⟨by rfl, fun w2 h => run_ld58 h.k1 (.tmp 1) rfl rfl⟩) hHeld ?_ ?_
  rotate_left
  · simp only [Act.put, List.setIfInBounds_toArray, List.set_cons_zero, List.set_cons_succ, i64_w, i32_w]
    rfl
  refine take_ (i := 2) (N := some 36) (v := _) (a' := ?_) #[true, false, true, false] rfl rfl (by kernel_rfl) (fun _ _ _ h => h) (Or.inl ⟨by rfl, fun w2 h => run_ld58 h.k2 (.tmp 3) rfl rfl⟩) hHeld ?_ ?_
  rotate_left
  · simp only [Act.put, List.setIfInBounds_toArray, List.set_cons_zero, List.set_cons_succ, i64_w, i32_w]
    rfl
  refine one_ (i := 1) (N := some 35) #[true, true, true, false] rfl rfl (by kernel_rfl) (by decide) (fun K hK => ?_)
  refine goes_ Try.func38 (by kernel_rfl) rfl #[.agg (enc p)] (by rfl) rfl rfl (by (try simp only [List.map_toArray, List.map_cons, List.map_nil]); first | done | rfl) ?_
  refine (Rise_0 p (by rw [H.out]; decide) _).mono ?_
  rintro e w3 ⟨rfl, hb⟩
  refine ⟨_, rfl, ?_⟩
  refine hK.out _ _ (hHeld.step hb) (fun hHeld => ?_)
  clear hK K
  refine norm_ (a' := ?_) ?_ ?_
  rotate_left
  · show Act.put _ (some 35) _ = _
    simp only [Act.put, List.setIfInBounds_toArray, List.set_cons_zero, List.set_cons_succ, i64_w, i32_w]
    rfl
  refine pure_ (i := 3) (N := some 37) (v := ?_) (a' := ?_) #[true, true, true, true] rfl rfl (by kernel_rfl) (fun _ _ _ h => h) (Or.inl ⟨by rfl, ?_⟩) ?_ ?_
  rotate_left
  · intro w'
    go_simp
    with_reducible rfl
  rotate_left
  · simp only [Act.put, List.setIfInBounds_toArray, List.set_cons_zero, List.set_cons_succ, i64_w, i32_w]
    rfl
  refine done_ (by kernel_rfl) ?_
  have Kg1 := Aside0.mk hHeld.k1
  have Kg3 := Aside0.mk hHeld.k2
  replace HB := Aside0.mk hHeld.below
  clear hHeld SS
  go_wp2_with (first | ((with_reducible refine gate_store (p := 11) rfl ?_); refine st58 (p := p) Kg11.out (by first | exact enc_size _ | rfl) rfl _ _ rfl rfl rfl ?_; intro v20 q20 b20; replace Kg1 := Aside0.mk (b20.keep Kg1.out Dg1_g11.out); replace Kg3 := Aside0.mk (b20.keep Kg3.out Dg3_g11.out); replace Kg8 := Aside0.mk (b20.keep Kg8.out Dg8_g11.out); replace HB := Aside0.mk (b20.below HB.out Gg11.out HB.out.size); replace Kg11 := Aside0.mk q20; clear b20) | ((with_reducible refine gate_dst (N := 11) rfl ?_); refine box_event rfl (N := 11) rfl (cs := #[.int .u16 0, .int .i64 0, .int .u32 0, .int .u64 0, .int .u32 0, .int .u64 0, .int .u16 0, .bool false, .bool false, .bool false, .int .i64 0, .bool false, .int .i64 0, .bool false, .int .i64 0]) (t := 58) (by first | (go_simp; done) | (go_simp; rfl)) ?_; intro g11 eg11 v19 Kg11 b19; have Dg1_g11 := Aside0.mk (show g1 ≠ g11 from by have := blk_lt Kg1.out; omega); replace Kg1 := Aside0.mk (blk_below Kg1.out b19); have Dg3_g11 := Aside0.mk (show g3 ≠ g11 from by have := blk_lt Kg3.out; omega); replace Kg3 := Aside0.mk (blk_below Kg3.out b19); have Dg8_g11 := Aside0.mk (show g8 ≠ g11 from by have := blk_lt Kg8.out; omega); replace Kg8 := Aside0.mk (blk_below Kg8.out b19); have Gg11 := Aside0.mk (show w.heap.size ≤ g11 from by rw [eg11]; exact HB.out.size); replace HB := Aside0.mk (below_step HB.out b19); replace Kg11 := Aside0.mk Kg11; clear b19 eg11) | ((with_reducible refine gate_dst (N := 82) rfl ?_); refine goesL_ (some 82) rfl rfl Try.func39 (by kernel_rfl) rfl #[.agg (enc p)] rfl (by (try simp only [List.map_toArray, List.map_cons, List.map_nil]); first | done | rfl) ?_; refine (Next_0 p (by rw [H.out]; decide) (by rw [H.out]; decide) _).mono ?_; rintro e v18 ⟨rfl, b18⟩; refine ⟨_, rfl, ?_⟩; replace Kg1 := Aside0.mk (blk_below Kg1.out b18); replace Kg3 := Aside0.mk (blk_below Kg3.out b18); replace Kg8 := Aside0.mk (blk_below Kg8.out b18); replace HB := Aside0.mk (below_step HB.out b18); clear b18) | ((with_reducible refine gate_dst (N := 81) rfl ?_); refine ld58 Kg1.out rfl _ rfl rfl ?_) | ((with_reducible refine gate_store (p := 75) rfl ?_); refine ev_st rfl 3 _ _ rfl g3 1 rfl rfl #[.int .i64 (p.st)] rfl info3 (by simp [Value.oneCell']) Kg3.out (by first | (rw [enc_size]; simp; done) | simp) (enc (p)) (enc_st _ _) ?_; intro v17 q17 b17; replace Kg1 := Aside0.mk (b17.keep Kg1.out Dg1_g3.out); replace Kg8 := Aside0.mk (b17.keep Kg8.out Dg3_g8.out.symm); replace HB := Aside0.mk (b17.below HB.out Gg3.out HB.out.size); replace Kg3 := Aside0.mk q17; clear b17) | ((with_reducible refine gate_dst (N := 70) rfl ?_); refine goesL_ (some 70) rfl rfl Try.func42 (by kernel_rfl) rfl #[.int .i64 p.st] rfl (by (try simp only [List.map_toArray, List.map_cons, List.map_nil]); first | done | rfl) ?_; refine (refNext_0 _ c2 c3 _).mono ?_; rintro e v16 ⟨rfl, b16⟩; refine ⟨_, rfl, ?_⟩; replace Kg1 := Aside0.mk (blk_below Kg1.out b16); replace Kg3 := Aside0.mk (blk_below Kg3.out b16); replace Kg8 := Aside0.mk (blk_below Kg8.out b16); replace HB := Aside0.mk (below_step HB.out b16); clear b16) | ((with_reducible refine gate_dst (N := 69) rfl ?_); refine ev_ld1 rfl _ _ rfl g1 1 rfl Kg1.out (.int .i64 p.st) Try.underlying3 rfl (enc_1 p) ?_) | ((with_reducible refine gate_store (p := 3) rfl ?_); refine st58 (p := p) Kg3.out (by first | exact enc_size _ | rfl) rfl _ _ rfl rfl rfl ?_; intro v15 q15 b15; replace Kg1 := Aside0.mk (b15.keep Kg1.out Dg1_g3.out); replace Kg8 := Aside0.mk (b15.keep Kg8.out Dg3_g8.out.symm); replace HB := Aside0.mk (b15.below HB.out Gg3.out HB.out.size); replace Kg3 := Aside0.mk q15; clear b15) | ((with_reducible refine gate_dst (N := 66) rfl ?_); refine ld58 Kg1.out rfl _ rfl rfl ?_) | ((with_reducible refine gate_dst (N := 58) rfl ?_); refine ld58 Kg3.out rfl _ rfl rfl ?_) | ((with_reducible refine gate_dst (N := 57) rfl ?_); refine ld58 Kg8.out rfl _ rfl rfl ?_) | ((with_reducible refine gate_store (p := 8) rfl ?_); refine st58 (p := { p with st := 1, dOn := false, dV := 0 }) Kg8.out (by first | exact enc_size _ | rfl) rfl _ _ rfl rfl rfl ?_; intro v14 q14 b14; replace Kg1 := Aside0.mk (b14.keep Kg1.out Dg1_g8.out); replace Kg3 := Aside0.mk (b14.keep Kg3.out Dg3_g8.out); replace HB := Aside0.mk (b14.below HB.out Gg8.out HB.out.size); replace Kg8 := Aside0.mk q14; clear b14) | ((with_reducible refine gate_dst (N := 8) rfl ?_); refine box_event rfl (N := 8) rfl (cs := #[.int .u16 0, .int .i64 0, .int .u32 0, .int .u64 0, .int .u32 0, .int .u64 0, .int .u16 0, .bool false, .bool false, .bool false, .int .i64 0, .bool false, .int .i64 0, .bool false, .int .i64 0]) (t := 58) (by first | (go_simp; done) | (go_simp; rfl)) ?_; intro g8 eg8 v13 Kg8 b13; have Dg1_g8 := Aside0.mk (show g1 ≠ g8 from by have := blk_lt Kg1.out; omega); replace Kg1 := Aside0.mk (blk_below Kg1.out b13); have Dg3_g8 := Aside0.mk (show g3 ≠ g8 from by have := blk_lt Kg3.out; omega); replace Kg3 := Aside0.mk (blk_below Kg3.out b13); have Gg8 := Aside0.mk (show w.heap.size ≤ g8 from by rw [eg8]; exact HB.out.size); replace HB := Aside0.mk (below_step HB.out b13); replace Kg8 := Aside0.mk Kg8; clear b13 eg8) | ((with_reducible refine gate_dst (N := 54) rfl ?_); refine goesL_ (some 54) rfl rfl Try.func37 (by kernel_rfl) rfl #[.agg (enc p)] rfl (by (try simp only [List.map_toArray, List.map_cons, List.map_nil]); first | done | rfl) ?_; refine (Block_n p (by rw [H.out]; decide) (by rw [H.out]; decide) (by rw [H.out]; decide) _).mono ?_; rintro e v12 ⟨rfl, b12⟩; refine ⟨_, rfl, ?_⟩; replace Kg1 := Aside0.mk (blk_below Kg1.out b12); replace Kg3 := Aside0.mk (blk_below Kg3.out b12); replace HB := Aside0.mk (below_step HB.out b12); clear b12) | ((with_reducible refine gate_dst (N := 53) rfl ?_); refine ld58 Kg1.out rfl _ rfl rfl ?_) | ((with_reducible refine gate_store (p := 51) rfl ?_); refine ev_st rfl 39 _ _ rfl g3 11 rfl rfl #[.bool false, .int .i64 0] rfl info39 (by simp [Value.oneCell']) Kg3.out (by first | (rw [enc_size]; simp; done) | simp) (enc ({ p with st := 1, dOn := false, dV := 0 })) (enc_delay _ _ _) ?_; intro v11 q11 b11; replace Kg1 := Aside0.mk (b11.keep Kg1.out Dg1_g3.out); replace HB := Aside0.mk (b11.below HB.out Gg3.out HB.out.size); replace Kg3 := Aside0.mk q11; clear b11) | ((with_reducible refine gate_store (p := 47) rfl ?_); refine ev_st rfl 3 _ _ rfl g3 1 rfl rfl #[.int .i64 1] rfl info3 (by simp [Value.oneCell']) Kg3.out (by first | (rw [enc_size]; simp; done) | simp) (enc ({ p with st := 1 })) (enc_st _ _) ?_; intro v10 q10 b10; replace Kg1 := Aside0.mk (b10.keep Kg1.out Dg1_g3.out); replace HB := Aside0.mk (b10.below HB.out Gg3.out HB.out.size); replace Kg3 := Aside0.mk q10; clear b10) | ((with_reducible refine gate_dst (N := 42) rfl ?_); refine goesL_ (some 42) rfl rfl Try.func41 (by kernel_rfl) rfl #[.int .i64 p.st] rfl (by (try simp only [List.map_toArray, List.map_cons, List.map_nil]); first | done | rfl) ?_; refine (refBlock_4 _ c0 c1 c3 c4 _).mono ?_; rintro e v9 ⟨rfl, b9⟩; refine ⟨_, rfl, ?_⟩; replace Kg1 := Aside0.mk (blk_below Kg1.out b9); replace Kg3 := Aside0.mk (blk_below Kg3.out b9); replace HB := Aside0.mk (below_step HB.out b9); clear b9) | ((with_reducible refine gate_dst (N := 41) rfl ?_); refine ev_ld1 rfl _ _ rfl g1 1 rfl Kg1.out (.int .i64 p.st) Try.underlying3 rfl (enc_1 p) ?_) | ((with_reducible refine gate_store (p := 3) rfl ?_); refine st58 (p := p) Kg3.out (by first | exact enc_size _ | rfl) rfl _ _ rfl rfl rfl ?_; intro v8 q8 b8; replace Kg1 := Aside0.mk (b8.keep Kg1.out Dg1_g3.out); replace HB := Aside0.mk (b8.below HB.out Gg3.out HB.out.size); replace Kg3 := Aside0.mk q8; clear b8) | ((with_reducible refine gate_dst (N := 38) rfl ?_); refine ld58 Kg1.out rfl _ rfl rfl ?_))
  have SS : B3 w g1 g3 g11 (enc p) (enc (p)) (enc (p)) _ := ⟨Kg1.out, Kg3.out, Kg11.out, HB.out⟩
  clear Kg1 Kg3 Kg8 Kg11
  refine startB (SS.step (drewB _)) (n := 33) [] #[false, false, false, false, false, false, false, false, false, false, false, false, false, false, false, false, false, false, false, false, false, false, false, false, false, false, false, false, false, false, false, false, false] (by kernel_rfl) rfl rfl (fun hHeld => ?_)
  refine take_ (i := 0) (N := some 85) (v := _) (a' := ?_) #[true, false, false, false, false, false, false, false, false, false, false, false, false, false, false, false, false, false, false, false, false, false, false, false, false, false, false, false, false, false, false, false, false] rfl rfl (by kernel_rfl) (fun _ _ _ h => h) (Or.inl ⟨by rfl, fun w2 h => run_ld58 h.k3 (.tmp 11) rfl rfl⟩) hHeld ?_ ?_
  rotate_left
  · simp only [Act.put, List.setIfInBounds_toArray, List.set_cons_zero, List.set_cons_succ, i64_w, i32_w]
    rfl
  refine take_ (i := 1) (N := some 86) (v := _) (a' := ?_) #[true, true, false, false, false, false, false, false, false, false, false, false, false, false, false, false, false, false, false, false, false, false, false, false, false, false, false, false, false, false, false, false, false] rfl rfl (by kernel_rfl) (fun _ _ _ h => h) (Or.inl ⟨by rfl, fun w2 h => run_ld58 h.k2 (.tmp 3) rfl rfl⟩) hHeld ?_ ?_
  rotate_left
  · simp only [Act.put, List.setIfInBounds_toArray, List.set_cons_zero, List.set_cons_succ, i64_w, i32_w]
    rfl
  refine pure_ (i := 2) (N := some 87) (v := ?_) (a' := ?_) #[true, true, true, false, false, false, false, false, false, false, false, false, false, false, false, false, false, false, false, false, false, false, false, false, false, false, false, false, false, false, false, false, false] rfl rfl (by kernel_rfl) (fun _ _ _ h => h) (Or.inl ⟨by rfl, ?_⟩) ?_ ?_
  rotate_left
  · intro w'
    go_simp
    with_reducible rfl
  rotate_left
  · simp only [Act.put, List.setIfInBounds_toArray, List.set_cons_zero, List.set_cons_succ, i64_w, i32_w]
    rfl
  refine pure_ (i := 3) (N := some 88) (v := ?_) (a' := ?_) #[true, true, true, true, false, false, false, false, false, false, false, false, false, false, false, false, false, false, false, false, false, false, false, false, false, false, false, false, false, false, false, false, false] rfl rfl (by kernel_rfl) (fun _ _ _ h => h) (Or.inl ⟨by rfl, ?_⟩) ?_ ?_
  rotate_left
  · intro w'
    go_simp
    with_reducible rfl
  rotate_left
  · simp only [Act.put, List.setIfInBounds_toArray, List.set_cons_zero, List.set_cons_succ, i64_w, i32_w]
    rfl
  refine pure_ (i := 4) (N := some 89) (v := ?_) (a' := ?_) #[true, true, true, true, true, false, false, false, false, false, false, false, false, false, false, false, false, false, false, false, false, false, false, false, false, false, false, false, false, false, false, false, false] rfl rfl (by kernel_rfl) (fun _ _ _ h => h) (Or.inl ⟨by rfl, ?_⟩) ?_ ?_
  rotate_left
  · intro w'
    go_simp
    with_reducible rfl
  rotate_left
  · simp only [Act.put, List.setIfInBounds_toArray, List.set_cons_zero, List.set_cons_succ, i64_w, i32_w]
    rfl
  refine pure_ (i := 5) (N := some 90) (v := ?_) (a' := ?_) #[true, true, true, true, true, true, false, false, false, false, false, false, false, false, false, false, false, false, false, false, false, false, false, false, false, false, false, false, false, false, false, false, false] rfl rfl (by kernel_rfl) (fun _ _ _ h => h) (Or.inl ⟨by rfl, ?_⟩) ?_ ?_
  rotate_left
  · intro w'
    go_simp
    with_reducible rfl
  rotate_left
  · simp only [Act.put, List.setIfInBounds_toArray, List.set_cons_zero, List.set_cons_succ, i64_w, i32_w]
    rfl
  refine pure_ (i := 6) (N := some 91) (v := ?_) (a' := ?_) #[true, true, true, true, true, true, true, false, false, false, false, false, false, false, false, false, false, false, false, false, false, false, false, false, false, false, false, false, false, false, false, false, false] rfl rfl (by kernel_rfl) (fun _ _ _ h => h) (Or.inl ⟨by rfl, ?_⟩) ?_ ?_
  rotate_left
  · intro w'
    go_simp
    with_reducible rfl
  rotate_left
  · simp only [Act.put, List.setIfInBounds_toArray, List.set_cons_zero, List.set_cons_succ, i64_w, i32_w]
    rfl
  refine pure_ (i := 7) (N := some 92) (v := ?_) (a' := ?_) #[true, true, true, true, true, true, true, true, false, false, false, false, false, false, false, false, false, false, false, false, false, false, false, false, false, false, false, false, false, false, false, false, false] rfl rfl (by kernel_rfl) (fun _ _ _ h => h) (Or.inl ⟨by rfl, ?_⟩) ?_ ?_
  rotate_left
  · intro w'
    go_simp
    with_reducible rfl
  rotate_left
  · simp only [Act.put, List.setIfInBounds_toArray, List.set_cons_zero, List.set_cons_succ, i64_w, i32_w]
    rfl
  refine pure_ (i := 8) (N := some 93) (v := ?_) (a' := ?_) #[true, true, true, true, true, true, true, true, true, false, false, false, false, false, false, false, false, false, false, false, false, false, false, false, false, false, false, false, false, false, false, false, false] rfl rfl (by kernel_rfl) (fun _ _ _ h => h) (Or.inl ⟨by rfl, ?_⟩) ?_ ?_
  rotate_left
  · intro w'
    go_simp
    with_reducible rfl
  rotate_left
  · simp only [Act.put, List.setIfInBounds_toArray, List.set_cons_zero, List.set_cons_succ, i64_w, i32_w]
    rfl
  refine pure_ (i := 9) (N := some 94) (v := ?_) (a' := ?_) #[true, true, true, true, true, true, true, true, true, true, false, false, false, false, false, false, false, false, false, false, false, false, false, false, false, false, false, false, false, false, false, false, false] rfl rfl (by kernel_rfl) (fun _ _ _ h => h) (Or.inl ⟨by rfl, ?_⟩) ?_ ?_
  rotate_left
  · intro w'
    go_simp
    with_reducible rfl
  rotate_left
  · simp only [Act.put, List.setIfInBounds_toArray, List.set_cons_zero, List.set_cons_succ, i64_w, i32_w]
    rfl
  refine pure_ (i := 10) (N := some 95) (v := ?_) (a' := ?_) #[true, true, true, true, true, true, true, true, true, true, true, false, false, false, false, false, false, false, false, false, false, false, false, false, false, false, false, false, false, false, false, false, false] rfl rfl (by kernel_rfl) (fun _ _ _ h => h) (Or.inl ⟨by rfl, ?_⟩) ?_ ?_
  rotate_left
  · intro w'
    go_simp
    with_reducible rfl
  rotate_left
  · simp only [Act.put, List.setIfInBounds_toArray, List.set_cons_zero, List.set_cons_succ, i64_w, i32_w]
    rfl
  refine pure_ (i := 13) (N := some 98) (v := ?_) (a' := ?_) #[true, true, true, true, true, true, true, true, true, true, true, false, false, true, false, false, false, false, false, false, false, false, false, false, false, false, false, false, false, false, false, false, false] rfl rfl (by kernel_rfl) (fun _ _ _ h => h) (Or.inl ⟨by rfl, ?_⟩) ?_ ?_
  rotate_left
  · intro w'
    go_simp
    with_reducible rfl
  rotate_left
  · simp only [Act.put, List.setIfInBounds_toArray, List.set_cons_zero, List.set_cons_succ, i64_w, i32_w]
    rfl
  refine take_ (i := 11) (N := some 96) (v := _) (a' := ?_) #[true, true, true, true, true, true, true, true, true, true, true, true, false, true, false, false, false, false, false, false, false, false, false, false, false, false, false, false, false, false, false, false, false] rfl rfl (by kernel_rfl) (fun _ _ _ h => h) (Or.inl ⟨by rfl, fun w2 h => run_ld1 h.k1 3 (.tmp 95) rfl rfl (u := .int .i64 4) Try.underlying3 rfl ((enc_1 p).trans (congrArg (fun x => some (Value.int .i64 x)) H.out))⟩) hHeld ?_ ?_
  rotate_left
  · simp only [Act.put, List.setIfInBounds_toArray, List.set_cons_zero, List.set_cons_succ, i64_w, i32_w]
    rfl
  refine take_ (i := 14) (N := some 99) (v := _) (a' := ?_) #[true, true, true, true, true, true, true, true, true, true, true, true, false, true, true, false, false, false, false, false, false, false, false, false, false, false, false, false, false, false, false, false, false] rfl rfl (by kernel_rfl) (fun _ _ _ h => h) (Or.inl ⟨by rfl, fun w2 h => run_ld1 h.k1 3 (.tmp 98) rfl rfl (u := .int .i64 4) Try.underlying3 rfl ((enc_1 p).trans (congrArg (fun x => some (Value.int .i64 x)) H.out))⟩) hHeld ?_ ?_
  rotate_left
  · simp only [Act.put, List.setIfInBounds_toArray, List.set_cons_zero, List.set_cons_succ, i64_w, i32_w]
    rfl
  refine pure_ (i := 15) (N := some 100) (v := ?_) (a' := ?_) #[true, true, true, true, true, true, true, true, true, true, true, true, false, true, true, true, false, false, false, false, false, false, false, false, false, false, false, false, false, false, false, false, false] rfl rfl (by kernel_rfl) (fun _ _ _ h => h) (Or.inl ⟨by rfl, ?_⟩) ?_ ?_
  rotate_left
  · intro w'
    go_simp
    with_reducible rfl
  rotate_left
  · simp only [Act.put, List.setIfInBounds_toArray, List.set_cons_zero, List.set_cons_succ, i64_w, i32_w]
    rfl
  refine one_ (i := 12) (N := some 97) #[true, true, true, true, true, true, true, true, true, true, true, true, true, true, true, true, false, false, false, false, false, false, false, false, false, false, false, false, false, false, false, false, false] rfl rfl (by kernel_rfl) (by decide) (fun K hK => ?_)
  refine goes_ Try.func43 (by kernel_rfl) rfl #[.int .i64 4] (by rfl) rfl rfl (by (try simp only [List.map_toArray, List.map_cons, List.map_nil]); first | done | rfl) ?_
  refine (Learns_n 4 rfl _).mono ?_
  rintro e w3 ⟨rfl, hb⟩
  refine ⟨_, rfl, ?_⟩
  refine hK.out _ _ (hHeld.step hb) (fun hHeld => ?_)
  clear hK K
  refine norm_ (a' := ?_) ?_ ?_
  rotate_left
  · show Act.put _ (some 97) _ = _
    simp only [Act.put, List.setIfInBounds_toArray, List.set_cons_zero, List.set_cons_succ, i64_w, i32_w]
    rfl
  refine pure_ (i := 16) (N := some 101) (v := ?_) (a' := ?_) #[true, true, true, true, true, true, true, true, true, true, true, true, true, true, true, true, true, false, false, false, false, false, false, false, false, false, false, false, false, false, false, false, false] rfl rfl (by kernel_rfl) (fun _ _ _ h => h) (Or.inl ⟨by rfl, ?_⟩) ?_ ?_
  rotate_left
  · intro w'
    go_simp
    with_reducible rfl
  rotate_left
  · simp only [Act.put, List.setIfInBounds_toArray, List.set_cons_zero, List.set_cons_succ, i64_w, i32_w]
    rfl
  refine pure_ (i := 17) (N := some 102) (v := ?_) (a' := ?_) #[true, true, true, true, true, true, true, true, true, true, true, true, true, true, true, true, true, true, false, false, false, false, false, false, false, false, false, false, false, false, false, false, false] rfl rfl (by kernel_rfl) (fun _ _ _ h => h) (Or.inl ⟨by rfl, ?_⟩) ?_ ?_
  rotate_left
  · intro w'
    go_simp
    with_reducible rfl
  rotate_left
  · simp only [Act.put, List.setIfInBounds_toArray, List.set_cons_zero, List.set_cons_succ, i64_w, i32_w]
    rfl
  refine take_ (i := 18) (N := some 103) (v := _) (a' := ?_) #[true, true, true, true, true, true, true, true, true, true, true, true, true, true, true, true, true, true, true, false, false, false, false, false, false, false, false, false, false, false, false, false, false] rfl rfl (by kernel_rfl) (fun _ _ _ h => h) (Or.inl ⟨by rfl, fun w2 h => run_ld1 h.k1 3 (.tmp 102) rfl rfl (u := .int .i64 4) Try.underlying3 rfl ((enc_1 p).trans (congrArg (fun x => some (Value.int .i64 x)) H.out))⟩) hHeld ?_ ?_
  rotate_left
  · simp only [Act.put, List.setIfInBounds_toArray, List.set_cons_zero, List.set_cons_succ, i64_w, i32_w]
    rfl
  refine pure_ (i := 19) (N := some 104) (v := ?_) (a' := ?_) #[true, true, true, true, true, true, true, true, true, true, true, true, true, true, true, true, true, true, true, true, false, false, false, false, false, false, false, false, false, false, false, false, false] rfl rfl (by kernel_rfl) (fun _ _ _ h => h) (Or.inl ⟨by rfl, ?_⟩) ?_ ?_
  rotate_left
  · intro w'
    go_simp
    with_reducible rfl
  rotate_left
  · simp only [Act.put, List.setIfInBounds_toArray, List.set_cons_zero, List.set_cons_succ, i64_w, i32_w]
    rfl
  refine pure_ (i := 20) (N := some 105) (v := ?_) (a' := ?_) #[true, true, true, true, true, true, true, true, true, true, true, true, true, true, true, true, true, true, true, true, true, false, false, false, false, false, false, false, false, false, false, false, false] rfl rfl (by kernel_rfl) (fun _ _ _ h => h) (Or.inl ⟨by rfl, ?_⟩) ?_ ?_
  rotate_left
  · intro w'
    go_simp
    with_reducible rfl
  rotate_left
  · simp only [Act.put, List.setIfInBounds_toArray, List.set_cons_zero, List.set_cons_succ, i64_w, i32_w]
    rfl
  refine pure_ (i := 21) (N := some 106) (v := ?_) (a' := ?_) #[true, true, true, true, true, true, true, true, true, true, true, true, true, true, true, true, true, true, true, true, true, true, false, false, false, false, false, false, false, false, false, false, false] rfl rfl (by kernel_rfl) (fun _ _ _ h => h) (Or.inl ⟨by rfl, ?_⟩) ?_ ?_
  rotate_left
  · intro w'
    go_simp
    with_reducible rfl
  rotate_left
  · simp only [Act.put, List.setIfInBounds_toArray, List.set_cons_zero, List.set_cons_succ, i64_w, i32_w]
    rfl
  refine pure_ (i := 22) (N := some 107) (v := ?_) (a' := ?_) #[true, true, true, true, true, true, true, true, true, true, true, true, true, true, true, true, true, true, true, true, true, true, true, false, false, false, false, false, false, false, false, false, false] rfl rfl (by kernel_rfl) (fun _ _ _ h => h) (Or.inl ⟨by rfl, ?_⟩) ?_ ?_
  rotate_left
  · intro w'
    go_simp
    with_reducible rfl
  rotate_left
  · simp only [Act.put, List.setIfInBounds_toArray, List.set_cons_zero, List.set_cons_succ, i64_w, i32_w]
    rfl
  refine pure_ (i := 23) (N := some 108) (v := ?_) (a' := ?_) #[true, true, true, true, true, true, true, true, true, true, true, true, true, true, true, true, true, true, true, true, true, true, true, true, false, false, false, false, false, false, false, false, false] rfl rfl (by kernel_rfl) (fun _ _ _ h => h) (Or.inl ⟨by rfl, ?_⟩) ?_ ?_
  rotate_left
  · intro w'
    go_simp
    with_reducible rfl
  rotate_left
  · simp only [Act.put, List.setIfInBounds_toArray, List.set_cons_zero, List.set_cons_succ, i64_w, i32_w]
    rfl
  refine pure_ (i := 24) (N := some 109) (v := ?_) (a' := ?_) #[true, true, true, true, true, true, true, true, true, true, true, true, true, true, true, true, true, true, true, true, true, true, true, true, true, false, false, false, false, false, false, false, false] rfl rfl (by kernel_rfl) (fun _ _ _ h => h) (Or.inl ⟨by rfl, ?_⟩) ?_ ?_
  rotate_left
  · intro w'
    go_simp
    with_reducible rfl
  rotate_left
  · simp only [Act.put, List.setIfInBounds_toArray, List.set_cons_zero, List.set_cons_succ, i64_w, i32_w]
    rfl
  refine pure_ (i := 27) (N := some 112) (v := ?_) (a' := ?_) #[true, true, true, true, true, true, true, true, true, true, true, true, true, true, true, true, true, true, true, true, true, true, true, true, true, false, false, true, false, false, false, false, false] rfl rfl (by kernel_rfl) (fun _ _ _ h => h) (Or.inl ⟨by rfl, ?_⟩) ?_ ?_
  rotate_left
  · intro w'
    go_simp
    with_reducible rfl
  rotate_left
  · simp only [Act.put, List.setIfInBounds_toArray, List.set_cons_zero, List.set_cons_succ, i64_w, i32_w]
    rfl
  refine take_ (i := 25) (N := some 110) (v := _) (a' := ?_) #[true, true, true, true, true, true, true, true, true, true, true, true, true, true, true, true, true, true, true, true, true, true, true, true, true, true, false, true, false, false, false, false, false] rfl rfl (by kernel_rfl) (fun _ _ _ h => h) (Or.inl ⟨by rfl, fun w2 h => run_ld1 h.k1 3 (.tmp 109) rfl rfl (u := .int .i64 4) Try.underlying3 rfl ((enc_1 p).trans (congrArg (fun x => some (Value.int .i64 x)) H.out))⟩) hHeld ?_ ?_
  rotate_left
  · simp only [Act.put, List.setIfInBounds_toArray, List.set_cons_zero, List.set_cons_succ, i64_w, i32_w]
    rfl
  refine take_ (i := 28) (N := some 113) (v := _) (a' := ?_) #[true, true, true, true, true, true, true, true, true, true, true, true, true, true, true, true, true, true, true, true, true, true, true, true, true, true, false, true, true, false, false, false, false] rfl rfl (by kernel_rfl) (fun _ _ _ h => h) (Or.inl ⟨by rfl, fun w2 h => run_ld1 h.k1 3 (.tmp 112) rfl rfl (u := .int .i64 4) Try.underlying3 rfl ((enc_1 p).trans (congrArg (fun x => some (Value.int .i64 x)) H.out))⟩) hHeld ?_ ?_
  rotate_left
  · simp only [Act.put, List.setIfInBounds_toArray, List.set_cons_zero, List.set_cons_succ, i64_w, i32_w]
    rfl
  refine pure_ (i := 29) (N := some 114) (v := ?_) (a' := ?_) #[true, true, true, true, true, true, true, true, true, true, true, true, true, true, true, true, true, true, true, true, true, true, true, true, true, true, false, true, true, true, false, false, false] rfl rfl (by kernel_rfl) (fun _ _ _ h => h) (Or.inl ⟨by rfl, ?_⟩) ?_ ?_
  rotate_left
  · intro w'
    go_simp
    with_reducible rfl
  rotate_left
  · simp only [Act.put, List.setIfInBounds_toArray, List.set_cons_zero, List.set_cons_succ, i64_w, i32_w]
    rfl
  refine one_ (i := 26) (N := some 111) #[true, true, true, true, true, true, true, true, true, true, true, true, true, true, true, true, true, true, true, true, true, true, true, true, true, true, true, true, true, true, false, false, false] rfl rfl (by kernel_rfl) (by decide) (fun K hK => ?_)
  refine goes_ Try.func44 (by kernel_rfl) rfl #[.int .i64 4] (by rfl) rfl rfl (by (try simp only [List.map_toArray, List.map_cons, List.map_nil]); first | done | rfl) ?_
  refine (Forwards_calls 4 _).mono ?_
  rintro e w3 ⟨rfl, hb⟩
  refine ⟨_, rfl, ?_⟩
  refine hK.out _ _ (hHeld.step hb) (fun hHeld => ?_)
  clear hK K
  refine norm_ (a' := ?_) ?_ ?_
  rotate_left
  · show Act.put _ (some 111) _ = _
    simp only [Act.put, List.setIfInBounds_toArray, List.set_cons_zero, List.set_cons_succ, i64_w, i32_w]
    rfl
  refine pure_ (i := 30) (N := some 115) (v := ?_) (a' := ?_) #[true, true, true, true, true, true, true, true, true, true, true, true, true, true, true, true, true, true, true, true, true, true, true, true, true, true, true, true, true, true, true, false, false] rfl rfl (by kernel_rfl) (fun _ _ _ h => h) (Or.inl ⟨by rfl, ?_⟩) ?_ ?_
  rotate_left
  · intro w'
    go_simp
    with_reducible rfl
  rotate_left
  · simp only [Act.put, List.setIfInBounds_toArray, List.set_cons_zero, List.set_cons_succ, i64_w, i32_w]
    rfl
  refine pure_ (i := 31) (N := some 116) (v := ?_) (a' := ?_) #[true, true, true, true, true, true, true, true, true, true, true, true, true, true, true, true, true, true, true, true, true, true, true, true, true, true, true, true, true, true, true, true, false] rfl rfl (by kernel_rfl) (fun _ _ _ h => h) (Or.inl ⟨by rfl, ?_⟩) ?_ ?_
  rotate_left
  · intro w'
    go_simp
    with_reducible rfl
  rotate_left
  · simp only [Act.put, List.setIfInBounds_toArray, List.set_cons_zero, List.set_cons_succ, i64_w, i32_w]
    rfl
  refine pure_ (i := 32) (N := some 2) (v := ?_) (a' := ?_) #[true, true, true, true, true, true, true, true, true, true, true, true, true, true, true, true, true, true, true, true, true, true, true, true, true, true, true, true, true, true, true, true, true] rfl rfl (by kernel_rfl) (fun _ _ _ h => h) (Or.inl ⟨by rfl, ?_⟩) ?_ ?_
  rotate_left
  · intro w'
    go_simp
    with_reducible rfl
  rotate_left
  · simp only [Act.put, List.setIfInBounds_toArray, List.set_cons_zero, List.set_cons_succ, i64_w, i32_w]
    rfl
  refine done_ (by kernel_rfl) ?_
  go_wp2_with fail
  go_ret
  exact ⟨by simp, hHeld.below⟩

set_option maxHeartbeats 8000000 in
set_option maxRecDepth 100000 in
theorem Plays_n (p : Pt) (F : ∀ w, Calls Try.prog 33 #[.agg (enc p)] w fun e w' => e = .returned (.bool true) ∧ Below w.heap.size w w') (n0 : p.st ≠ 0) (n1 : p.st ≠ 1) (n2 : p.st ≠ 2) (n3 : p.st ≠ 3) (n4 : p.st ≠ 4) (w : World) : Calls Try.prog 13 #[.agg (enc p)] w fun e w' => e = .returned (.bool true) ∧ Below w.heap.size w w' := by
  have c0 : (p.st == 0) = false := beq_eq_false_iff_ne.2 n0
  have c1 : (p.st == 1) = false := beq_eq_false_iff_ne.2 n1
  have c2 : (p.st == 2) = false := beq_eq_false_iff_ne.2 n2
  have c3 : (p.st == 3) = false := beq_eq_false_iff_ne.2 n3
  have c4 : (p.st == 4) = false := beq_eq_false_iff_ne.2 n4
  have h0 := Aside0.mk n0
  clear n0
  have h1 := Aside0.mk n1
  clear n1
  have h2 := Aside0.mk n2
  clear n2
  have h3 := Aside0.mk n3
  clear n3
  have h4 := Aside0.mk n4
  clear n4
  have HB := Aside0.mk (Below.refl w.heap.size w)
  go_enter Try.func13, Try.ntmps13
  go_wp2_with (first | ((with_reducible refine gate_dst (N := 1) rfl ?_); refine box_event rfl (N := 1) rfl (cs := enc p) (t := 58) (by first | (go_simp; done) | (go_simp; rfl)) ?_; intro g1 eg1 v1 Kg1 b1; have Gg1 := Aside0.mk (show w.heap.size ≤ g1 from by rw [eg1]; exact HB.out.size); replace HB := Aside0.mk (below_step HB.out b1); replace Kg1 := Aside0.mk Kg1; clear b1 eg1) | ((with_reducible refine gate_dst (N := 13) rfl ?_); refine goesL_ (some 13) rfl rfl Try.func32 (by kernel_rfl) rfl #[] rfl (by (try simp only [List.map_toArray, List.map_cons, List.map_nil]); first | done | rfl) ?_; refine (awake_calls _).mono ?_; rintro e v2 ⟨rfl, b2⟩; refine ⟨_, rfl, ?_⟩; replace Kg1 := Aside0.mk (blk_below Kg1.out b2); replace HB := Aside0.mk (below_step HB.out b2); clear b2) | ((with_reducible refine gate_dst (N := 16) rfl ?_); (refine gate_guard (by rfl) ?_; dsimp only); refine ld58 Kg1.out rfl _ rfl rfl ?_) | (go_at_call 33; refine (F _).mono ?_; rintro e v3 ⟨rfl, b3⟩; replace Kg1 := Aside0.mk (blk_below Kg1.out b3); replace HB := Aside0.mk (below_step HB.out b3); clear b3) | ((with_reducible refine gate_dst (N := 21) rfl ?_); refine ld58 Kg1.out rfl _ rfl rfl ?_) | ((with_reducible refine gate_dst (N := 3) rfl ?_); refine box_event rfl (N := 3) rfl (cs := #[.int .u16 0, .int .i64 0, .int .u32 0, .int .u64 0, .int .u32 0, .int .u64 0, .int .u16 0, .bool false, .bool false, .bool false, .int .i64 0, .bool false, .int .i64 0, .bool false, .int .i64 0]) (t := 58) (by first | (go_simp; done) | (go_simp; rfl)) ?_; intro g3 eg3 v4 Kg3 b4; have Dg1_g3 := Aside0.mk (show g1 ≠ g3 from by have := blk_lt Kg1.out; omega); replace Kg1 := Aside0.mk (blk_below Kg1.out b4); have Gg3 := Aside0.mk (show w.heap.size ≤ g3 from by rw [eg3]; exact HB.out.size); replace HB := Aside0.mk (below_step HB.out b4); replace Kg3 := Aside0.mk Kg3; clear b4 eg3) | ((with_reducible refine gate_store (p := 3) rfl ?_); refine st58 (p := p) Kg3.out (by first | exact enc_size _ | rfl) rfl _ _ rfl rfl rfl ?_; intro v5 q5 b5; replace Kg1 := Aside0.mk (b5.keep Kg1.out Dg1_g3.out); replace HB := Aside0.mk (b5.below HB.out Gg3.out HB.out.size); replace Kg3 := Aside0.mk q5; clear b5) | ((with_reducible refine gate_dst (N := 24) rfl ?_); refine ev_ld1 rfl _ _ rfl g1 1 rfl Kg1.out (.int .i64 p.st) Try.underlying3 rfl (enc_1 p) ?_) | ((with_reducible refine gate_dst (N := 25) rfl ?_); refine goesL_ (some 25) rfl rfl Try.func40 (by kernel_rfl) rfl #[.int .i64 p.st] rfl (by (try simp only [List.map_toArray, List.map_cons, List.map_nil]); first | done | rfl) ?_; refine (refRise_0 _ c1 _).mono ?_; rintro e v6 ⟨rfl, b6⟩; refine ⟨_, rfl, ?_⟩; replace Kg1 := Aside0.mk (blk_below Kg1.out b6); replace Kg3 := Aside0.mk (blk_below Kg3.out b6); replace HB := Aside0.mk (below_step HB.out b6); clear b6) | ((with_reducible refine gate_store (p := 29) rfl ?_); refine ev_st rfl 3 _ _ rfl g3 1 rfl rfl #[.int .i64 (p.st)] rfl info3 (by simp [Value.oneCell']) Kg3.out (by first | (rw [enc_size]; simp; done) | simp) (enc (p)) (enc_st _ _) ?_; intro v7 q7 b7; replace Kg1 := Aside0.mk (b7.keep Kg1.out Dg1_g3.out); replace HB := Aside0.mk (b7.below HB.out Gg3.out HB.out.size); replace Kg3 := Aside0.mk q7; clear b7))
  have SS : B2 w g1 g3 (enc p) (enc (p)) _ := ⟨Kg1.out, Kg3.out, HB.out⟩
  clear Kg1 Kg3
  refine startB (SS.step (drewB _)) (n := 4) [] #[false, false, false, false] (by kernel_rfl) rfl rfl (fun hHeld => ?_)
  refine take_ (i := 0) (N := some 34) (v := _) (a' := ?_) #[true, false, false, false] rfl rfl (by kernel_rfl) (fun _ _ _ h => h) (Or.inl ⟨by rfl, fun w2 h => run_ld58 h.k1 (.tmp 1) rfl rfl⟩) hHeld ?_ ?_
  rotate_left
  · simp only [Act.put, List.setIfInBounds_toArray, List.set_cons_zero, List.set_cons_succ, i64_w, i32_w]
    rfl
  refine take_ (i := 2) (N := some 36) (v := _) (a' := ?_) #[true, false, true, false] rfl rfl (by kernel_rfl) (fun _ _ _ h => h) (Or.inl ⟨by rfl, fun w2 h => run_ld58 h.k2 (.tmp 3) rfl rfl⟩) hHeld ?_ ?_
  rotate_left
  · simp only [Act.put, List.setIfInBounds_toArray, List.set_cons_zero, List.set_cons_succ, i64_w, i32_w]
    rfl
  refine one_ (i := 1) (N := some 35) #[true, true, true, false] rfl rfl (by kernel_rfl) (by decide) (fun K hK => ?_)
  refine goes_ Try.func38 (by kernel_rfl) rfl #[.agg (enc p)] (by rfl) rfl rfl (by (try simp only [List.map_toArray, List.map_cons, List.map_nil]); first | done | rfl) ?_
  refine (Rise_0 p h1.out _).mono ?_
  rintro e w3 ⟨rfl, hb⟩
  refine ⟨_, rfl, ?_⟩
  refine hK.out _ _ (hHeld.step hb) (fun hHeld => ?_)
  clear hK K
  refine norm_ (a' := ?_) ?_ ?_
  rotate_left
  · show Act.put _ (some 35) _ = _
    simp only [Act.put, List.setIfInBounds_toArray, List.set_cons_zero, List.set_cons_succ, i64_w, i32_w]
    rfl
  refine pure_ (i := 3) (N := some 37) (v := ?_) (a' := ?_) #[true, true, true, true] rfl rfl (by kernel_rfl) (fun _ _ _ h => h) (Or.inl ⟨by rfl, ?_⟩) ?_ ?_
  rotate_left
  · intro w'
    go_simp
    with_reducible rfl
  rotate_left
  · simp only [Act.put, List.setIfInBounds_toArray, List.set_cons_zero, List.set_cons_succ, i64_w, i32_w]
    rfl
  refine done_ (by kernel_rfl) ?_
  have Kg1 := Aside0.mk hHeld.k1
  have Kg3 := Aside0.mk hHeld.k2
  replace HB := Aside0.mk hHeld.below
  clear hHeld SS
  go_wp2_with (first | ((with_reducible refine gate_store (p := 11) rfl ?_); refine st58 (p := p) Kg11.out (by first | exact enc_size _ | rfl) rfl _ _ rfl rfl rfl ?_; intro v20 q20 b20; replace Kg1 := Aside0.mk (b20.keep Kg1.out Dg1_g11.out); replace Kg3 := Aside0.mk (b20.keep Kg3.out Dg3_g11.out); replace Kg8 := Aside0.mk (b20.keep Kg8.out Dg8_g11.out); replace HB := Aside0.mk (b20.below HB.out Gg11.out HB.out.size); replace Kg11 := Aside0.mk q20; clear b20) | ((with_reducible refine gate_dst (N := 11) rfl ?_); refine box_event rfl (N := 11) rfl (cs := #[.int .u16 0, .int .i64 0, .int .u32 0, .int .u64 0, .int .u32 0, .int .u64 0, .int .u16 0, .bool false, .bool false, .bool false, .int .i64 0, .bool false, .int .i64 0, .bool false, .int .i64 0]) (t := 58) (by first | (go_simp; done) | (go_simp; rfl)) ?_; intro g11 eg11 v19 Kg11 b19; have Dg1_g11 := Aside0.mk (show g1 ≠ g11 from by have := blk_lt Kg1.out; omega); replace Kg1 := Aside0.mk (blk_below Kg1.out b19); have Dg3_g11 := Aside0.mk (show g3 ≠ g11 from by have := blk_lt Kg3.out; omega); replace Kg3 := Aside0.mk (blk_below Kg3.out b19); have Dg8_g11 := Aside0.mk (show g8 ≠ g11 from by have := blk_lt Kg8.out; omega); replace Kg8 := Aside0.mk (blk_below Kg8.out b19); have Gg11 := Aside0.mk (show w.heap.size ≤ g11 from by rw [eg11]; exact HB.out.size); replace HB := Aside0.mk (below_step HB.out b19); replace Kg11 := Aside0.mk Kg11; clear b19 eg11) | ((with_reducible refine gate_dst (N := 82) rfl ?_); refine goesL_ (some 82) rfl rfl Try.func39 (by kernel_rfl) rfl #[.agg (enc p)] rfl (by (try simp only [List.map_toArray, List.map_cons, List.map_nil]); first | done | rfl) ?_; refine (Next_0 p h2.out h3.out _).mono ?_; rintro e v18 ⟨rfl, b18⟩; refine ⟨_, rfl, ?_⟩; replace Kg1 := Aside0.mk (blk_below Kg1.out b18); replace Kg3 := Aside0.mk (blk_below Kg3.out b18); replace Kg8 := Aside0.mk (blk_below Kg8.out b18); replace HB := Aside0.mk (below_step HB.out b18); clear b18) | ((with_reducible refine gate_dst (N := 81) rfl ?_); refine ld58 Kg1.out rfl _ rfl rfl ?_) | ((with_reducible refine gate_store (p := 75) rfl ?_); refine ev_st rfl 3 _ _ rfl g3 1 rfl rfl #[.int .i64 (p.st)] rfl info3 (by simp [Value.oneCell']) Kg3.out (by first | (rw [enc_size]; simp; done) | simp) (enc (p)) (enc_st _ _) ?_; intro v17 q17 b17; replace Kg1 := Aside0.mk (b17.keep Kg1.out Dg1_g3.out); replace Kg8 := Aside0.mk (b17.keep Kg8.out Dg3_g8.out.symm); replace HB := Aside0.mk (b17.below HB.out Gg3.out HB.out.size); replace Kg3 := Aside0.mk q17; clear b17) | ((with_reducible refine gate_dst (N := 70) rfl ?_); refine goesL_ (some 70) rfl rfl Try.func42 (by kernel_rfl) rfl #[.int .i64 p.st] rfl (by (try simp only [List.map_toArray, List.map_cons, List.map_nil]); first | done | rfl) ?_; refine (refNext_0 _ c2 c3 _).mono ?_; rintro e v16 ⟨rfl, b16⟩; refine ⟨_, rfl, ?_⟩; replace Kg1 := Aside0.mk (blk_below Kg1.out b16); replace Kg3 := Aside0.mk (blk_below Kg3.out b16); replace Kg8 := Aside0.mk (blk_below Kg8.out b16); replace HB := Aside0.mk (below_step HB.out b16); clear b16) | ((with_reducible refine gate_dst (N := 69) rfl ?_); refine ev_ld1 rfl _ _ rfl g1 1 rfl Kg1.out (.int .i64 p.st) Try.underlying3 rfl (enc_1 p) ?_) | ((with_reducible refine gate_store (p := 3) rfl ?_); refine st58 (p := p) Kg3.out (by first | exact enc_size _ | rfl) rfl _ _ rfl rfl rfl ?_; intro v15 q15 b15; replace Kg1 := Aside0.mk (b15.keep Kg1.out Dg1_g3.out); replace Kg8 := Aside0.mk (b15.keep Kg8.out Dg3_g8.out.symm); replace HB := Aside0.mk (b15.below HB.out Gg3.out HB.out.size); replace Kg3 := Aside0.mk q15; clear b15) | ((with_reducible refine gate_dst (N := 66) rfl ?_); refine ld58 Kg1.out rfl _ rfl rfl ?_) | ((with_reducible refine gate_dst (N := 58) rfl ?_); refine ld58 Kg3.out rfl _ rfl rfl ?_) | ((with_reducible refine gate_dst (N := 57) rfl ?_); refine ld58 Kg8.out rfl _ rfl rfl ?_) | ((with_reducible refine gate_store (p := 8) rfl ?_); refine st58 (p := { p with st := 1, dOn := false, dV := 0 }) Kg8.out (by first | exact enc_size _ | rfl) rfl _ _ rfl rfl rfl ?_; intro v14 q14 b14; replace Kg1 := Aside0.mk (b14.keep Kg1.out Dg1_g8.out); replace Kg3 := Aside0.mk (b14.keep Kg3.out Dg3_g8.out); replace HB := Aside0.mk (b14.below HB.out Gg8.out HB.out.size); replace Kg8 := Aside0.mk q14; clear b14) | ((with_reducible refine gate_dst (N := 8) rfl ?_); refine box_event rfl (N := 8) rfl (cs := #[.int .u16 0, .int .i64 0, .int .u32 0, .int .u64 0, .int .u32 0, .int .u64 0, .int .u16 0, .bool false, .bool false, .bool false, .int .i64 0, .bool false, .int .i64 0, .bool false, .int .i64 0]) (t := 58) (by first | (go_simp; done) | (go_simp; rfl)) ?_; intro g8 eg8 v13 Kg8 b13; have Dg1_g8 := Aside0.mk (show g1 ≠ g8 from by have := blk_lt Kg1.out; omega); replace Kg1 := Aside0.mk (blk_below Kg1.out b13); have Dg3_g8 := Aside0.mk (show g3 ≠ g8 from by have := blk_lt Kg3.out; omega); replace Kg3 := Aside0.mk (blk_below Kg3.out b13); have Gg8 := Aside0.mk (show w.heap.size ≤ g8 from by rw [eg8]; exact HB.out.size); replace HB := Aside0.mk (below_step HB.out b13); replace Kg8 := Aside0.mk Kg8; clear b13 eg8) | ((with_reducible refine gate_dst (N := 54) rfl ?_); refine goesL_ (some 54) rfl rfl Try.func37 (by kernel_rfl) rfl #[.agg (enc p)] rfl (by (try simp only [List.map_toArray, List.map_cons, List.map_nil]); first | done | rfl) ?_; refine (Block_n p h0.out h1.out h3.out _).mono ?_; rintro e v12 ⟨rfl, b12⟩; refine ⟨_, rfl, ?_⟩; replace Kg1 := Aside0.mk (blk_below Kg1.out b12); replace Kg3 := Aside0.mk (blk_below Kg3.out b12); replace HB := Aside0.mk (below_step HB.out b12); clear b12) | ((with_reducible refine gate_dst (N := 53) rfl ?_); refine ld58 Kg1.out rfl _ rfl rfl ?_) | ((with_reducible refine gate_store (p := 51) rfl ?_); refine ev_st rfl 39 _ _ rfl g3 11 rfl rfl #[.bool false, .int .i64 0] rfl info39 (by simp [Value.oneCell']) Kg3.out (by first | (rw [enc_size]; simp; done) | simp) (enc ({ p with st := 1, dOn := false, dV := 0 })) (enc_delay _ _ _) ?_; intro v11 q11 b11; replace Kg1 := Aside0.mk (b11.keep Kg1.out Dg1_g3.out); replace HB := Aside0.mk (b11.below HB.out Gg3.out HB.out.size); replace Kg3 := Aside0.mk q11; clear b11) | ((with_reducible refine gate_store (p := 47) rfl ?_); refine ev_st rfl 3 _ _ rfl g3 1 rfl rfl #[.int .i64 1] rfl info3 (by simp [Value.oneCell']) Kg3.out (by first | (rw [enc_size]; simp; done) | simp) (enc ({ p with st := 1 })) (enc_st _ _) ?_; intro v10 q10 b10; replace Kg1 := Aside0.mk (b10.keep Kg1.out Dg1_g3.out); replace HB := Aside0.mk (b10.below HB.out Gg3.out HB.out.size); replace Kg3 := Aside0.mk q10; clear b10) | ((with_reducible refine gate_dst (N := 42) rfl ?_); refine goesL_ (some 42) rfl rfl Try.func41 (by kernel_rfl) rfl #[.int .i64 p.st] rfl (by (try simp only [List.map_toArray, List.map_cons, List.map_nil]); first | done | rfl) ?_; refine (refBlock_n _ c0 c1 c3 c4 _).mono ?_; rintro e v9 ⟨rfl, b9⟩; refine ⟨_, rfl, ?_⟩; replace Kg1 := Aside0.mk (blk_below Kg1.out b9); replace Kg3 := Aside0.mk (blk_below Kg3.out b9); replace HB := Aside0.mk (below_step HB.out b9); clear b9) | ((with_reducible refine gate_dst (N := 41) rfl ?_); refine ev_ld1 rfl _ _ rfl g1 1 rfl Kg1.out (.int .i64 p.st) Try.underlying3 rfl (enc_1 p) ?_) | ((with_reducible refine gate_store (p := 3) rfl ?_); refine st58 (p := p) Kg3.out (by first | exact enc_size _ | rfl) rfl _ _ rfl rfl rfl ?_; intro v8 q8 b8; replace Kg1 := Aside0.mk (b8.keep Kg1.out Dg1_g3.out); replace HB := Aside0.mk (b8.below HB.out Gg3.out HB.out.size); replace Kg3 := Aside0.mk q8; clear b8) | ((with_reducible refine gate_dst (N := 38) rfl ?_); refine ld58 Kg1.out rfl _ rfl rfl ?_))
  have SS : B3 w g1 g3 g11 (enc p) (enc (p)) (enc (p)) _ := ⟨Kg1.out, Kg3.out, Kg11.out, HB.out⟩
  clear Kg1 Kg3 Kg8 Kg11
  refine startB (SS.step (drewB _)) (n := 33) [] #[false, false, false, false, false, false, false, false, false, false, false, false, false, false, false, false, false, false, false, false, false, false, false, false, false, false, false, false, false, false, false, false, false] (by kernel_rfl) rfl rfl (fun hHeld => ?_)
  refine take_ (i := 0) (N := some 85) (v := _) (a' := ?_) #[true, false, false, false, false, false, false, false, false, false, false, false, false, false, false, false, false, false, false, false, false, false, false, false, false, false, false, false, false, false, false, false, false] rfl rfl (by kernel_rfl) (fun _ _ _ h => h) (Or.inl ⟨by rfl, fun w2 h => run_ld58 h.k3 (.tmp 11) rfl rfl⟩) hHeld ?_ ?_
  rotate_left
  · simp only [Act.put, List.setIfInBounds_toArray, List.set_cons_zero, List.set_cons_succ, i64_w, i32_w]
    rfl
  refine take_ (i := 1) (N := some 86) (v := _) (a' := ?_) #[true, true, false, false, false, false, false, false, false, false, false, false, false, false, false, false, false, false, false, false, false, false, false, false, false, false, false, false, false, false, false, false, false] rfl rfl (by kernel_rfl) (fun _ _ _ h => h) (Or.inl ⟨by rfl, fun w2 h => run_ld58 h.k2 (.tmp 3) rfl rfl⟩) hHeld ?_ ?_
  rotate_left
  · simp only [Act.put, List.setIfInBounds_toArray, List.set_cons_zero, List.set_cons_succ, i64_w, i32_w]
    rfl
  refine pure_ (i := 2) (N := some 87) (v := ?_) (a' := ?_) #[true, true, true, false, false, false, false, false, false, false, false, false, false, false, false, false, false, false, false, false, false, false, false, false, false, false, false, false, false, false, false, false, false] rfl rfl (by kernel_rfl) (fun _ _ _ h => h) (Or.inl ⟨by rfl, ?_⟩) ?_ ?_
  rotate_left
  · intro w'
    go_simp
    with_reducible rfl
  rotate_left
  · simp only [Act.put, List.setIfInBounds_toArray, List.set_cons_zero, List.set_cons_succ, i64_w, i32_w]
    rfl
  refine pure_ (i := 3) (N := some 88) (v := ?_) (a' := ?_) #[true, true, true, true, false, false, false, false, false, false, false, false, false, false, false, false, false, false, false, false, false, false, false, false, false, false, false, false, false, false, false, false, false] rfl rfl (by kernel_rfl) (fun _ _ _ h => h) (Or.inl ⟨by rfl, ?_⟩) ?_ ?_
  rotate_left
  · intro w'
    go_simp
    with_reducible rfl
  rotate_left
  · simp only [Act.put, List.setIfInBounds_toArray, List.set_cons_zero, List.set_cons_succ, i64_w, i32_w]
    rfl
  refine pure_ (i := 4) (N := some 89) (v := ?_) (a' := ?_) #[true, true, true, true, true, false, false, false, false, false, false, false, false, false, false, false, false, false, false, false, false, false, false, false, false, false, false, false, false, false, false, false, false] rfl rfl (by kernel_rfl) (fun _ _ _ h => h) (Or.inl ⟨by rfl, ?_⟩) ?_ ?_
  rotate_left
  · intro w'
    go_simp
    with_reducible rfl
  rotate_left
  · simp only [Act.put, List.setIfInBounds_toArray, List.set_cons_zero, List.set_cons_succ, i64_w, i32_w]
    rfl
  refine pure_ (i := 5) (N := some 90) (v := ?_) (a' := ?_) #[true, true, true, true, true, true, false, false, false, false, false, false, false, false, false, false, false, false, false, false, false, false, false, false, false, false, false, false, false, false, false, false, false] rfl rfl (by kernel_rfl) (fun _ _ _ h => h) (Or.inl ⟨by rfl, ?_⟩) ?_ ?_
  rotate_left
  · intro w'
    go_simp
    with_reducible rfl
  rotate_left
  · simp only [Act.put, List.setIfInBounds_toArray, List.set_cons_zero, List.set_cons_succ, i64_w, i32_w]
    rfl
  refine pure_ (i := 6) (N := some 91) (v := ?_) (a' := ?_) #[true, true, true, true, true, true, true, false, false, false, false, false, false, false, false, false, false, false, false, false, false, false, false, false, false, false, false, false, false, false, false, false, false] rfl rfl (by kernel_rfl) (fun _ _ _ h => h) (Or.inl ⟨by rfl, ?_⟩) ?_ ?_
  rotate_left
  · intro w'
    go_simp
    with_reducible rfl
  rotate_left
  · simp only [Act.put, List.setIfInBounds_toArray, List.set_cons_zero, List.set_cons_succ, i64_w, i32_w]
    rfl
  refine pure_ (i := 7) (N := some 92) (v := ?_) (a' := ?_) #[true, true, true, true, true, true, true, true, false, false, false, false, false, false, false, false, false, false, false, false, false, false, false, false, false, false, false, false, false, false, false, false, false] rfl rfl (by kernel_rfl) (fun _ _ _ h => h) (Or.inl ⟨by rfl, ?_⟩) ?_ ?_
  rotate_left
  · intro w'
    go_simp
    with_reducible rfl
  rotate_left
  · simp only [Act.put, List.setIfInBounds_toArray, List.set_cons_zero, List.set_cons_succ, i64_w, i32_w]
    rfl
  refine pure_ (i := 8) (N := some 93) (v := ?_) (a' := ?_) #[true, true, true, true, true, true, true, true, true, false, false, false, false, false, false, false, false, false, false, false, false, false, false, false, false, false, false, false, false, false, false, false, false] rfl rfl (by kernel_rfl) (fun _ _ _ h => h) (Or.inl ⟨by rfl, ?_⟩) ?_ ?_
  rotate_left
  · intro w'
    go_simp
    with_reducible rfl
  rotate_left
  · simp only [Act.put, List.setIfInBounds_toArray, List.set_cons_zero, List.set_cons_succ, i64_w, i32_w]
    rfl
  refine pure_ (i := 9) (N := some 94) (v := ?_) (a' := ?_) #[true, true, true, true, true, true, true, true, true, true, false, false, false, false, false, false, false, false, false, false, false, false, false, false, false, false, false, false, false, false, false, false, false] rfl rfl (by kernel_rfl) (fun _ _ _ h => h) (Or.inl ⟨by rfl, ?_⟩) ?_ ?_
  rotate_left
  · intro w'
    go_simp
    with_reducible rfl
  rotate_left
  · simp only [Act.put, List.setIfInBounds_toArray, List.set_cons_zero, List.set_cons_succ, i64_w, i32_w]
    rfl
  refine pure_ (i := 10) (N := some 95) (v := ?_) (a' := ?_) #[true, true, true, true, true, true, true, true, true, true, true, false, false, false, false, false, false, false, false, false, false, false, false, false, false, false, false, false, false, false, false, false, false] rfl rfl (by kernel_rfl) (fun _ _ _ h => h) (Or.inl ⟨by rfl, ?_⟩) ?_ ?_
  rotate_left
  · intro w'
    go_simp
    with_reducible rfl
  rotate_left
  · simp only [Act.put, List.setIfInBounds_toArray, List.set_cons_zero, List.set_cons_succ, i64_w, i32_w]
    rfl
  refine pure_ (i := 13) (N := some 98) (v := ?_) (a' := ?_) #[true, true, true, true, true, true, true, true, true, true, true, false, false, true, false, false, false, false, false, false, false, false, false, false, false, false, false, false, false, false, false, false, false] rfl rfl (by kernel_rfl) (fun _ _ _ h => h) (Or.inl ⟨by rfl, ?_⟩) ?_ ?_
  rotate_left
  · intro w'
    go_simp
    with_reducible rfl
  rotate_left
  · simp only [Act.put, List.setIfInBounds_toArray, List.set_cons_zero, List.set_cons_succ, i64_w, i32_w]
    rfl
  refine take_ (i := 11) (N := some 96) (v := _) (a' := ?_) #[true, true, true, true, true, true, true, true, true, true, true, true, false, true, false, false, false, false, false, false, false, false, false, false, false, false, false, false, false, false, false, false, false] rfl rfl (by kernel_rfl) (fun _ _ _ h => h) (Or.inl ⟨by rfl, fun w2 h => run_ld1 h.k1 3 (.tmp 95) rfl rfl (u := .int .i64 p.st) Try.underlying3 rfl (enc_1 p)⟩) hHeld ?_ ?_
  rotate_left
  · simp only [Act.put, List.setIfInBounds_toArray, List.set_cons_zero, List.set_cons_succ, i64_w, i32_w]
    rfl
  refine take_ (i := 14) (N := some 99) (v := _) (a' := ?_) #[true, true, true, true, true, true, true, true, true, true, true, true, false, true, true, false, false, false, false, false, false, false, false, false, false, false, false, false, false, false, false, false, false] rfl rfl (by kernel_rfl) (fun _ _ _ h => h) (Or.inl ⟨by rfl, fun w2 h => run_ld1 h.k1 3 (.tmp 98) rfl rfl (u := .int .i64 p.st) Try.underlying3 rfl (enc_1 p)⟩) hHeld ?_ ?_
  rotate_left
  · simp only [Act.put, List.setIfInBounds_toArray, List.set_cons_zero, List.set_cons_succ, i64_w, i32_w]
    rfl
  refine pure_ (i := 15) (N := some 100) (v := .bool false) (a' := ?_) #[true, true, true, true, true, true, true, true, true, true, true, true, false, true, true, true, false, false, false, false, false, false, false, false, false, false, false, false, false, false, false, false, false] rfl rfl (by kernel_rfl) (fun _ _ _ h => h) (Or.inl ⟨by rfl, (fun w' => by rw [← c3]; go_simp)⟩) ?_ ?_
  rotate_left
  · simp only [Act.put, List.setIfInBounds_toArray, List.set_cons_zero, List.set_cons_succ, i64_w, i32_w]
    rfl
  refine one_ (i := 12) (N := some 97) #[true, true, true, true, true, true, true, true, true, true, true, true, true, true, true, true, false, false, false, false, false, false, false, false, false, false, false, false, false, false, false, false, false] rfl rfl (by kernel_rfl) (by decide) (fun K hK => ?_)
  refine goes_ Try.func43 (by kernel_rfl) rfl #[.int .i64 p.st] (by rfl) rfl rfl (by (try simp only [List.map_toArray, List.map_cons, List.map_nil]); first | done | rfl) ?_
  refine (Learns_z _ c3 c4 _).mono ?_
  rintro e w3 ⟨rfl, hb⟩
  refine ⟨_, rfl, ?_⟩
  refine hK.out _ _ (hHeld.step hb) (fun hHeld => ?_)
  clear hK K
  refine norm_ (a' := ?_) ?_ ?_
  rotate_left
  · show Act.put _ (some 97) _ = _
    simp only [Act.put, List.setIfInBounds_toArray, List.set_cons_zero, List.set_cons_succ, i64_w, i32_w]
    rfl
  refine pure_ (i := 16) (N := some 101) (v := ?_) (a' := ?_) #[true, true, true, true, true, true, true, true, true, true, true, true, true, true, true, true, true, false, false, false, false, false, false, false, false, false, false, false, false, false, false, false, false] rfl rfl (by kernel_rfl) (fun _ _ _ h => h) (Or.inl ⟨by rfl, ?_⟩) ?_ ?_
  rotate_left
  · intro w'
    go_simp
    with_reducible rfl
  rotate_left
  · simp only [Act.put, List.setIfInBounds_toArray, List.set_cons_zero, List.set_cons_succ, i64_w, i32_w]
    rfl
  refine pure_ (i := 17) (N := some 102) (v := ?_) (a' := ?_) #[true, true, true, true, true, true, true, true, true, true, true, true, true, true, true, true, true, true, false, false, false, false, false, false, false, false, false, false, false, false, false, false, false] rfl rfl (by kernel_rfl) (fun _ _ _ h => h) (Or.inl ⟨by rfl, ?_⟩) ?_ ?_
  rotate_left
  · intro w'
    go_simp
    with_reducible rfl
  rotate_left
  · simp only [Act.put, List.setIfInBounds_toArray, List.set_cons_zero, List.set_cons_succ, i64_w, i32_w]
    rfl
  refine take_ (i := 18) (N := some 103) (v := _) (a' := ?_) #[true, true, true, true, true, true, true, true, true, true, true, true, true, true, true, true, true, true, true, false, false, false, false, false, false, false, false, false, false, false, false, false, false] rfl rfl (by kernel_rfl) (fun _ _ _ h => h) (Or.inl ⟨by rfl, fun w2 h => run_ld1 h.k1 3 (.tmp 102) rfl rfl (u := .int .i64 p.st) Try.underlying3 rfl (enc_1 p)⟩) hHeld ?_ ?_
  rotate_left
  · simp only [Act.put, List.setIfInBounds_toArray, List.set_cons_zero, List.set_cons_succ, i64_w, i32_w]
    rfl
  refine pure_ (i := 19) (N := some 104) (v := .bool false) (a' := ?_) #[true, true, true, true, true, true, true, true, true, true, true, true, true, true, true, true, true, true, true, true, false, false, false, false, false, false, false, false, false, false, false, false, false] rfl rfl (by kernel_rfl) (fun _ _ _ h => h) (Or.inl ⟨by rfl, (fun w' => by rw [← c4]; go_simp)⟩) ?_ ?_
  rotate_left
  · simp only [Act.put, List.setIfInBounds_toArray, List.set_cons_zero, List.set_cons_succ, i64_w, i32_w]
    rfl
  refine pure_ (i := 20) (N := some 105) (v := ?_) (a' := ?_) #[true, true, true, true, true, true, true, true, true, true, true, true, true, true, true, true, true, true, true, true, true, false, false, false, false, false, false, false, false, false, false, false, false] rfl rfl (by kernel_rfl) (fun _ _ _ h => h) (Or.inl ⟨by rfl, ?_⟩) ?_ ?_
  rotate_left
  · intro w'
    go_simp
    with_reducible rfl
  rotate_left
  · simp only [Act.put, List.setIfInBounds_toArray, List.set_cons_zero, List.set_cons_succ, i64_w, i32_w]
    rfl
  refine pure_ (i := 21) (N := some 106) (v := ?_) (a' := ?_) #[true, true, true, true, true, true, true, true, true, true, true, true, true, true, true, true, true, true, true, true, true, true, false, false, false, false, false, false, false, false, false, false, false] rfl rfl (by kernel_rfl) (fun _ _ _ h => h) (Or.inl ⟨by rfl, ?_⟩) ?_ ?_
  rotate_left
  · intro w'
    go_simp
    with_reducible rfl
  rotate_left
  · simp only [Act.put, List.setIfInBounds_toArray, List.set_cons_zero, List.set_cons_succ, i64_w, i32_w]
    rfl
  refine pure_ (i := 22) (N := some 107) (v := ?_) (a' := ?_) #[true, true, true, true, true, true, true, true, true, true, true, true, true, true, true, true, true, true, true, true, true, true, true, false, false, false, false, false, false, false, false, false, false] rfl rfl (by kernel_rfl) (fun _ _ _ h => h) (Or.inl ⟨by rfl, ?_⟩) ?_ ?_
  rotate_left
  · intro w'
    go_simp
    with_reducible rfl
  rotate_left
  · simp only [Act.put, List.setIfInBounds_toArray, List.set_cons_zero, List.set_cons_succ, i64_w, i32_w]
    rfl
  refine pure_ (i := 23) (N := some 108) (v := ?_) (a' := ?_) #[true, true, true, true, true, true, true, true, true, true, true, true, true, true, true, true, true, true, true, true, true, true, true, true, false, false, false, false, false, false, false, false, false] rfl rfl (by kernel_rfl) (fun _ _ _ h => h) (Or.inl ⟨by rfl, ?_⟩) ?_ ?_
  rotate_left
  · intro w'
    go_simp
    with_reducible rfl
  rotate_left
  · simp only [Act.put, List.setIfInBounds_toArray, List.set_cons_zero, List.set_cons_succ, i64_w, i32_w]
    rfl
  refine pure_ (i := 24) (N := some 109) (v := ?_) (a' := ?_) #[true, true, true, true, true, true, true, true, true, true, true, true, true, true, true, true, true, true, true, true, true, true, true, true, true, false, false, false, false, false, false, false, false] rfl rfl (by kernel_rfl) (fun _ _ _ h => h) (Or.inl ⟨by rfl, ?_⟩) ?_ ?_
  rotate_left
  · intro w'
    go_simp
    with_reducible rfl
  rotate_left
  · simp only [Act.put, List.setIfInBounds_toArray, List.set_cons_zero, List.set_cons_succ, i64_w, i32_w]
    rfl
  refine pure_ (i := 27) (N := some 112) (v := ?_) (a' := ?_) #[true, true, true, true, true, true, true, true, true, true, true, true, true, true, true, true, true, true, true, true, true, true, true, true, true, false, false, true, false, false, false, false, false] rfl rfl (by kernel_rfl) (fun _ _ _ h => h) (Or.inl ⟨by rfl, ?_⟩) ?_ ?_
  rotate_left
  · intro w'
    go_simp
    with_reducible rfl
  rotate_left
  · simp only [Act.put, List.setIfInBounds_toArray, List.set_cons_zero, List.set_cons_succ, i64_w, i32_w]
    rfl
  refine take_ (i := 25) (N := some 110) (v := _) (a' := ?_) #[true, true, true, true, true, true, true, true, true, true, true, true, true, true, true, true, true, true, true, true, true, true, true, true, true, true, false, true, false, false, false, false, false] rfl rfl (by kernel_rfl) (fun _ _ _ h => h) (Or.inl ⟨by rfl, fun w2 h => run_ld1 h.k1 3 (.tmp 109) rfl rfl (u := .int .i64 p.st) Try.underlying3 rfl (enc_1 p)⟩) hHeld ?_ ?_
  rotate_left
  · simp only [Act.put, List.setIfInBounds_toArray, List.set_cons_zero, List.set_cons_succ, i64_w, i32_w]
    rfl
  refine take_ (i := 28) (N := some 113) (v := _) (a' := ?_) #[true, true, true, true, true, true, true, true, true, true, true, true, true, true, true, true, true, true, true, true, true, true, true, true, true, true, false, true, true, false, false, false, false] rfl rfl (by kernel_rfl) (fun _ _ _ h => h) (Or.inl ⟨by rfl, fun w2 h => run_ld1 h.k1 3 (.tmp 112) rfl rfl (u := .int .i64 p.st) Try.underlying3 rfl (enc_1 p)⟩) hHeld ?_ ?_
  rotate_left
  · simp only [Act.put, List.setIfInBounds_toArray, List.set_cons_zero, List.set_cons_succ, i64_w, i32_w]
    rfl
  refine pure_ (i := 29) (N := some 114) (v := .bool false) (a' := ?_) #[true, true, true, true, true, true, true, true, true, true, true, true, true, true, true, true, true, true, true, true, true, true, true, true, true, true, false, true, true, true, false, false, false] rfl rfl (by kernel_rfl) (fun _ _ _ h => h) (Or.inl ⟨by rfl, (fun w' => by rw [← c4]; go_simp)⟩) ?_ ?_
  rotate_left
  · simp only [Act.put, List.setIfInBounds_toArray, List.set_cons_zero, List.set_cons_succ, i64_w, i32_w]
    rfl
  refine one_ (i := 26) (N := some 111) #[true, true, true, true, true, true, true, true, true, true, true, true, true, true, true, true, true, true, true, true, true, true, true, true, true, true, true, true, true, true, false, false, false] rfl rfl (by kernel_rfl) (by decide) (fun K hK => ?_)
  refine goes_ Try.func44 (by kernel_rfl) rfl #[.int .i64 p.st] (by rfl) rfl rfl (by (try simp only [List.map_toArray, List.map_cons, List.map_nil]); first | done | rfl) ?_
  refine (Forwards_z _ c4 _).mono ?_
  rintro e w3 ⟨rfl, hb⟩
  refine ⟨_, rfl, ?_⟩
  refine hK.out _ _ (hHeld.step hb) (fun hHeld => ?_)
  clear hK K
  refine norm_ (a' := ?_) ?_ ?_
  rotate_left
  · show Act.put _ (some 111) _ = _
    simp only [Act.put, List.setIfInBounds_toArray, List.set_cons_zero, List.set_cons_succ, i64_w, i32_w]
    rfl
  refine pure_ (i := 30) (N := some 115) (v := ?_) (a' := ?_) #[true, true, true, true, true, true, true, true, true, true, true, true, true, true, true, true, true, true, true, true, true, true, true, true, true, true, true, true, true, true, true, false, false] rfl rfl (by kernel_rfl) (fun _ _ _ h => h) (Or.inl ⟨by rfl, ?_⟩) ?_ ?_
  rotate_left
  · intro w'
    go_simp
    with_reducible rfl
  rotate_left
  · simp only [Act.put, List.setIfInBounds_toArray, List.set_cons_zero, List.set_cons_succ, i64_w, i32_w]
    rfl
  refine pure_ (i := 31) (N := some 116) (v := ?_) (a' := ?_) #[true, true, true, true, true, true, true, true, true, true, true, true, true, true, true, true, true, true, true, true, true, true, true, true, true, true, true, true, true, true, true, true, false] rfl rfl (by kernel_rfl) (fun _ _ _ h => h) (Or.inl ⟨by rfl, ?_⟩) ?_ ?_
  rotate_left
  · intro w'
    go_simp
    with_reducible rfl
  rotate_left
  · simp only [Act.put, List.setIfInBounds_toArray, List.set_cons_zero, List.set_cons_succ, i64_w, i32_w]
    rfl
  refine pure_ (i := 32) (N := some 2) (v := ?_) (a' := ?_) #[true, true, true, true, true, true, true, true, true, true, true, true, true, true, true, true, true, true, true, true, true, true, true, true, true, true, true, true, true, true, true, true, true] rfl rfl (by kernel_rfl) (fun _ _ _ h => h) (Or.inl ⟨by rfl, ?_⟩) ?_ ?_
  rotate_left
  · intro w'
    go_simp
    with_reducible rfl
  rotate_left
  · simp only [Act.put, List.setIfInBounds_toArray, List.set_cons_zero, List.set_cons_succ, i64_w, i32_w]
    rfl
  refine done_ (by kernel_rfl) ?_
  go_wp2_with fail
  go_ret
  exact ⟨by simp, hHeld.below⟩

theorem Plays (p : Pt) (w : World) : Calls Try.prog 13 #[.agg (enc p)] w fun e w' => e = .returned (.bool true) ∧ Below w.heap.size w w' := by
  obtain ⟨f, F⟩ := fits_calls p
  cases f with
  | false => exact Plays_bad p F w
  | true =>
    by_cases h0 : p.st = 0
    · exact Plays_0 p F h0 w
    by_cases h1 : p.st = 1
    · exact Plays_1 p F h1 w
    by_cases h2 : p.st = 2
    · exact Plays_2 p F h2 w
    by_cases h3 : p.st = 3
    · exact Plays_3 p F h3 w
    by_cases h4 : p.st = 4
    · exact Plays_4 p F h4 w
    exact Plays_n p F h0 h1 h2 h3 h4 w

theorem PortPlays (W : World) (a : Int × Int × Int × (Int × Int × Int × Int) × Bool × Bool × S39 × S39 × S39) (w : portPlays.wf58 a) : Calls Try.prog 13 #[.agg #[.int .u16 (a.1), .int .i64 (a.2.1), .int .u32 (a.2.2.1), .int .u64 (a.2.2.2.1.1), .int .u32 (a.2.2.2.1.2.1), .int .u64 (a.2.2.2.1.2.2.1), .int .u16 (a.2.2.2.1.2.2.2), .bool (a.2.2.2.2.1), .bool (a.2.2.2.2.2.1), .bool (a.2.2.2.2.2.2.1.f0), .int .i64 (a.2.2.2.2.2.2.1.f1), .bool (a.2.2.2.2.2.2.2.1.f0), .int .i64 (a.2.2.2.2.2.2.2.1.f1), .bool (a.2.2.2.2.2.2.2.2.f0), .int .i64 (a.2.2.2.2.2.2.2.2.f1)]] W fun e w' => e = .returned (.bool true) ∧ Below W.heap.size W w' := by
  have h := Plays ⟨a.1, a.2.1, a.2.2.1, a.2.2.2.1.1, a.2.2.2.1.2.1, a.2.2.2.1.2.2.1, a.2.2.2.1.2.2.2, a.2.2.2.2.1, a.2.2.2.2.2.1, a.2.2.2.2.2.2.1.f0, a.2.2.2.2.2.2.1.f1, a.2.2.2.2.2.2.2.1.f0, a.2.2.2.2.2.2.2.1.f1, a.2.2.2.2.2.2.2.2.f0, a.2.2.2.2.2.2.2.2.f1⟩ W
  unfold enc at h
  exact h

end Go.Proofs.Ytfdjlempllmelaa.Pure
