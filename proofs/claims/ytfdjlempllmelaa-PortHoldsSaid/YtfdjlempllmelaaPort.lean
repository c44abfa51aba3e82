/- What a port's functions come to, a port as one opaque row of cells: walked by hand. -/
import Derived.Test.YtfdjlempllmelaaPPortRisesx0
import Derived.Deep.MidRow
import Derived.LoopN
import Derived.RegionTactic
namespace Go.Proofs.Ytfdjlempllmelaa.Port
open Go.RowKit Go.Proofs.YtfdjlempllmelaaW.PrintWords Go.Proofs.YtfdjlempllmelaaW.PrintLast Go.Proofs.YtfdjlempllmelaaW.PrintMore
set_option linter.unusedVariables false
set_option linter.unusedSimpArgs false
section
variable {P : Program} {ops : Array Oper} {rest : List Oper} {o : Oper} {a : Act} {Q : Exit → Act → World → Prop} {W : World}
/-- Beside block g nothing changed; blocks may have come. -/
structure Beside (g : Nat) (W w1 : World) : Prop where
  os : w1.os = W.os
  tape : w1.tape = W.tape
  output : w1.output = W.output
  size : W.heap.size ≤ w1.heap.size
  block : ∀ k, k ≠ g → k < W.heap.size → w1.heap[k]? = W.heap[k]?
theorem Beside.keep {g k : Nat} {w1 : World} {x : Obj} (b : Beside g W w1) (h : W.heap[k]? = some x) (hk : k ≠ g) : w1.heap[k]? = some x :=
  (b.block k hk (blk_lt h)).trans h
theorem Beside.below {g B : Nat} {w w1 : World} (b : Beside g W w1) (h : Below B w W) (hg : B ≤ g) (hB : B ≤ W.heap.size) : Below B w w1 :=
  ⟨b.os.trans h.os, b.tape.trans h.tape, b.output.trans h.output, Nat.le_trans h.size b.size, fun k hk => (b.block k (by omega) (by omega)).trans (h.block k hk)⟩
theorem Beside.lt {g k : Nat} {w1 : World} (b : Beside g W w1) (h : k < W.heap.size) : k < w1.heap.size := Nat.lt_of_lt_of_le h b.size
/-- A row's cells, some of them put anew from place i on. -/
def putsAt (old : Array Value) (i : Nat) : List Value → Array Value
  | [] => old
  | v :: r => putsAt (old.setIfInBounds i v) (i + 1) r
theorem putsAt_size : ∀ (vs : List Value) (old : Array Value) (i : Nat), (putsAt old i vs).size = old.size
  | [], _, _ => rfl
  | v :: r, old, i => by unfold putsAt; rw [putsAt_size r]; simp
theorem setCells_beside (g : Nat) : ∀ (vs : List Value) (i : Nat) (W : World), Beside g W (W.setCells g i vs)
  | [], _, _ => ⟨rfl, rfl, rfl, Nat.le_refl _, fun _ _ _ => rfl⟩
  | v :: r, i, W => by
    have := setCells_beside g r (i + 1) (W.setCell ⟨g, i, none⟩ v)
    refine ⟨this.os, this.tape, this.output, ?_, ?_⟩
    · have e : (W.setCell ⟨g, i, none⟩ v).heap.size = W.heap.size := by simp [World.setCell]
      have := this.size
      rw [e] at this
      exact this
    · intro k hk hl
      refine (this.block k hk (by simpa [World.setCell] using hl)).trans ?_
      exact Below.heap_setCell W ⟨g, i, none⟩ v k hk
theorem setCells_row (g : Nat) (t : TypeId) : ∀ (vs : List Value) (i : Nat) (cs : Array Value) (W : World), W.heap[g]? = some (.cells cs t (0, 0)) → (W.setCells g i vs).heap[g]? = some (.cells (putsAt cs i vs) t (0, 0))
  | [], _, _, _, h => h
  | v :: r, i, cs, W, h => setCells_row g t r (i + 1) (cs.setIfInBounds i v) (W.setCell ⟨g, i, none⟩ v) (blk_put h i v rfl)
/-- A struct, or a part of one, is read whole. -/
theorem ev_ld (hgd : o.guard = none) (ty : TypeId) (x : Operand) (ho : o.op = .load ty x) (g i : Nat) (hx : a.eval x = .pointer (some ⟨g, i, none⟩)) {cs : Array Value} {t : TypeId} {fr : Nat × Nat} (hg : W.heap[g]? = some (.cells cs t fr))
    (v : Array Value) {d : TypeDesc} (hu : P.underlying ty = some d) (hd : d.isRow = true) (hi : (P.info? ty).map (·.size) = some v.size) (hv : ∀ j u, v[j]? = some u → cs[i + j]? = some u)
    (h : wpList P ops Q rest (a.put o.dst (.agg v)) W) : wpList P ops Q (o :: rest) a W :=
  wpList_load_mid hgd ty x ho g i hx v.toList d (fun j u hj => (cell_of_row W g (i + j) cs t fr hg).trans (hv j u (by simpa using hj))) hu hd (by simpa using hi) (by simpa using h)
/-- One cell is read. -/
theorem ev_ld1 (hgd : o.guard = none) (ty : TypeId) (x : Operand) (ho : o.op = .load ty x) (g i : Nat) (hx : a.eval x = .pointer (some ⟨g, i, none⟩)) {cs : Array Value} {t : TypeId} {fr : Nat × Nat} (hg : W.heap[g]? = some (.cells cs t fr))
    (u : Value) {d : TypeDesc} (hu : P.underlying ty = some d) (hd : d.isRow = false) (hv : cs[i]? = some u)
    (h : wpList P ops Q rest (a.put o.dst u) W) : wpList P ops Q (o :: rest) a W := by
  refine Kd.event_run hgd ?_ h
  have hc : W.cell? ⟨g, i, none⟩ = some u := (cell_of_row W g i cs t fr hg).trans hv
  have hagg : (isAgg ty).run P W = .ok false W := by
    unfold isAgg
    rw [Sem.run_bind, run_underlying hu W]
    cases d <;> simp_all [TypeDesc.isRow]
  unfold execOp
  simp [ho, hx, Instr.loadAt, Instr.sureAddr, loadVar, hagg, hc]
/-- A cell, a part of a struct or a whole one is written. -/
theorem ev_st (hgd : o.guard = none) (ty : TypeId) (x y : Operand) (ho : o.op = .store ty x y) (g i : Nat) (hx : a.eval x = .pointer (some ⟨g, i, none⟩)) {v : Value} (hy : a.eval y = v) (vs : Array Value) (hv : v.cells = vs)
    (hi : (P.info? ty).map (·.size) = some vs.size) (h1 : vs.all (·.oneCell') = true) {cs : Array Value} {t : TypeId} (hg : W.heap[g]? = some (.cells cs t (0, 0))) (hl : i + vs.size ≤ cs.size) (cs' : Array Value) (hp : putsAt cs i vs.toList = cs')
    (h : ∀ w1, w1.heap[g]? = some (.cells cs' t (0, 0)) → Beside g W w1 → wpList P ops Q rest (a.put o.dst undef) w1) : wpList P ops Q (o :: rest) a W := by
  subst hp
  have ht : W.there g i vs.size := fun j hj => by
    have hc : W.cell? ⟨g, i + j, none⟩ = cs[i + j]? := cell_of_row W g (i + j) cs t (0, 0) hg
    refine ⟨?_, blk_frozen hg _⟩
    rw [hc]
    simp; omega
  have hrun := run_storeAt_mid (P := P) W g i ty vs ht hi h1
  have hrun' : (Instr.storeAt ty (.pointer (some ⟨g, i, none⟩)) v).run P W = .ok () (W.setCells g i vs.toList) := by
    rw [← hrun]
    simp only [Instr.storeAt, Instr.sureAddr, Sem.run_bind, Sem.run_pure, Result.andThen_ok, storeVar]
    rw [hv]
    rfl
  refine wpList_plain hgd fun _ hK => ?_
  unfold Oper.wp execOp
  simp only [ho, hx, hy, hrun', Sem.run_bind, Sem.run_pure, Result.andThen_ok]
  exact hK _ _ (h _ (setCells_row g t _ _ _ _ hg) (setCells_beside g _ _ _))
end
theorem putsAt_get : ∀ (vs : List Value) (old : Array Value) (i k : Nat), i + vs.length ≤ old.size → (putsAt old i vs)[k]? = if i ≤ k ∧ k < i + vs.length then vs[k - i]? else old[k]?
  | [], old, i, k, _ => by
    unfold putsAt
    rw [if_neg (fun h => by simp only [List.length_nil] at h; omega)]
  | v :: r, old, i, k, h => by
    simp only [List.length_cons] at h
    unfold putsAt
    rw [putsAt_get r (old.setIfInBounds i v) (i + 1) k (by simp; omega)]
    by_cases c : k = i
    · subst c
      rw [if_neg (by omega), if_pos (by simp)]
      rw [Array.getElem?_setIfInBounds_self_of_lt (by omega)]
      simp
    · by_cases d : i + 1 ≤ k ∧ k < i + 1 + r.length
      · rw [if_pos d, if_pos (by simp; omega)]
        rw [show k - i = (k - (i + 1)) + 1 by omega]
        simp
      · rw [if_neg d, if_neg (by simp; omega)]
        rw [Array.getElem?_setIfInBounds_ne (by omega)]
theorem putsAt_whole (vs old : Array Value) (h : vs.size = old.size) : putsAt old 0 vs.toList = vs := by
  apply Array.ext_getElem?
  intro k
  rw [putsAt_get _ _ _ _ (by simp; omega)]
  by_cases c : 0 ≤ k ∧ k < 0 + vs.toList.length
  · rw [if_pos c]; simp
  · rw [if_neg c]
    have : vs.size ≤ k := by simp at c; omega
    rw [Array.getElem?_eq_none (by omega), Array.getElem?_eq_none (by omega)]
theorem bcell {W w1 : World} (hb : Below W.heap.size W w1) : (∀ b o, b < W.heap.size → w1.cell? ⟨b, o, none⟩ = W.cell? ⟨b, o, none⟩) ∧ (∀ b o, b < W.heap.size → w1.frozen? ⟨b, o, none⟩ = W.frozen? ⟨b, o, none⟩) :=
  ⟨fun b o h => hb.cell (p := ⟨b, o, none⟩) h, fun b o h => hb.frozen (p := ⟨b, o, none⟩) h⟩
/-- A port, by its cells. -/
structure Pt where
  (id st cost root rcost br rp : Int) (c7 c8 aOn : Bool) (aV : Int) (dOn : Bool) (dV : Int) (hOn : Bool) (hV : Int)
deriving DecidableEq
@[irreducible] def enc (p : Pt) : Array Value := #[.int .u16 p.id, .int .i64 p.st, .int .u32 p.cost, .int .u64 p.root, .int .u32 p.rcost, .int .u64 p.br, .int .u16 p.rp, .bool p.c7, .bool p.c8, .bool p.aOn, .int .i64 p.aV, .bool p.dOn, .int .i64 p.dV, .bool p.hOn, .int .i64 p.hV]
theorem enc_size (p : Pt) : (enc p).size = 15 := by unfold enc; rfl
theorem enc_one (p : Pt) : (enc p).all (·.oneCell') = true := by unfold enc; simp [Value.oneCell']
theorem enc_0 (p : Pt) : (enc p)[0]? = some (.int .u16 p.id) := by unfold enc; rfl
theorem enc_1 (p : Pt) : (enc p)[1]? = some (.int .i64 p.st) := by unfold enc; rfl
theorem enc_5 (p : Pt) : (enc p)[5]? = some (.int .u64 p.br) := by unfold enc; rfl
theorem enc_6 (p : Pt) : (enc p)[6]? = some (.int .u16 p.rp) := by unfold enc; rfl
theorem enc_11 (p : Pt) : (enc p)[11]? = some (.bool p.dOn) := by unfold enc; rfl
theorem enc_12 (p : Pt) : (enc p)[12]? = some (.int .i64 p.dV) := by unfold enc; rfl
theorem enc_st (p : Pt) (x : Int) : putsAt (enc p) 1 [.int .i64 x] = enc { p with st := x } := by unfold enc; rfl
theorem enc_held (p : Pt) (r rc b q : Int) : putsAt (enc p) 3 [.int .u64 r, .int .u32 rc, .int .u64 b, .int .u16 q] = enc { p with root := r, rcost := rc, br := b, rp := q } := by unfold enc; rfl
theorem enc_heldPort (p : Pt) (q : Int) : putsAt (enc p) 6 [.int .u16 q] = enc { p with rp := q } := by unfold enc; rfl
theorem enc_delay (p : Pt) (b : Bool) (v : Int) : putsAt (enc p) 11 [.bool b, .int .i64 v] = enc { p with dOn := b, dV := v } := by unfold enc; rfl
theorem enc_tm9 (p : Pt) : ∀ j u, (#[.bool p.aOn, .int .i64 p.aV] : Array Value)[j]? = some u → (enc p)[9 + j]? = some u := by
  unfold enc
  intro j u h
  match j with
  | 0 => exact h
  | 1 => exact h
  | j + 2 => simp at h
theorem enc_tm11 (p : Pt) : ∀ j u, (#[.bool p.dOn, .int .i64 p.dV] : Array Value)[j]? = some u → (enc p)[11 + j]? = some u := by
  unfold enc
  intro j u h
  match j with
  | 0 => exact h
  | 1 => exact h
  | j + 2 => simp at h
theorem enc_tm13 (p : Pt) : ∀ j u, (#[.bool p.hOn, .int .i64 p.hV] : Array Value)[j]? = some u → (enc p)[13 + j]? = some u := by
  unfold enc
  intro j u h
  match j with
  | 0 => exact h
  | 1 => exact h
  | j + 2 => simp at h
theorem info58 : (Try.prog.info? 58).map (·.size) = some 15 := by kernel_rfl
theorem info56 : (Try.prog.info? 56).map (·.size) = some 4 := by kernel_rfl
theorem info54 : (Try.prog.info? 54).map (·.size) = some 1 := by kernel_rfl
theorem info39 : (Try.prog.info? 39).map (·.size) = some 2 := by kernel_rfl
theorem info3 : (Try.prog.info? 3).map (·.size) = some 1 := by kernel_rfl
section
variable {ops : Array Oper} {rest : List Oper} {o : Oper} {a : Act} {Q : Exit → Act → World → Prop} {W : World}
theorem ld58 {p : Pt} {g : Nat} (K : W.heap[g]? = some (.cells (enc p) 58 (0, 0))) (hgd : o.guard = none) (x : Operand) (ho : o.op = .load 58 x) (hx : a.eval x = .pointer (some ⟨g, 0, none⟩))
    (h : wpList Try.prog ops Q rest (a.put o.dst (.agg (enc p))) W) : wpList Try.prog ops Q (o :: rest) a W :=
  ev_ld hgd 58 x ho g 0 hx K (enc p) Try.underlying58 rfl (by rw [enc_size]; exact info58) (fun j u hj => by simpa using hj) h
theorem st58 {cs : Array Value} {p : Pt} {g : Nat} (K : W.heap[g]? = some (.cells cs 58 (0, 0))) (hs : cs.size = 15) (hgd : o.guard = none) (x y : Operand) (ho : o.op = .store 58 x y) (hx : a.eval x = .pointer (some ⟨g, 0, none⟩)) (hy : a.eval y = .agg (enc p))
    (h : ∀ w1, w1.heap[g]? = some (.cells (enc p) 58 (0, 0)) → Beside g W w1 → wpList Try.prog ops Q rest (a.put o.dst undef) w1) : wpList Try.prog ops Q (o :: rest) a W :=
  ev_st hgd 58 x y ho g 0 hx hy (enc p) rfl (by rw [enc_size]; exact info58) (enc_one p) K (by rw [enc_size, hs]; exact Nat.le_refl _) (enc p) (putsAt_whole _ _ (by rw [enc_size, hs])) h
end
theorem eqA39 (d : Nat) (w : World) (x0 y0 : Bool) (x1 y1 : Int) :
    (Op.equalIn (d + 2) 39 (.agg #[.bool x0, .int .i64 x1]) (.agg #[.bool y0, .int .i64 y1])).run Try.prog w = .ok (x0 == y0 && (x1 == y1)) w := by
  refine eqA_of Try.underlying39 (by kernel_rfl) ?_
  refine eqf_cons (by rfl) (by go_simp; rfl) (by go_simp; rfl) (by go_simp) ?_
  exact eqf_last (by rfl) (by go_simp; rfl) (by go_simp; rfl) (by go_simp)
theorem eqA56 (d : Nat) (w : World) (x0 y0 : Int) (x1 y1 : Int) (x2 y2 : Int) (x3 y3 : Int) :
    (Op.equalIn (d + 2) 56 (.agg #[.int .u64 x0, .int .u32 x1, .int .u64 x2, .int .u16 x3]) (.agg #[.int .u64 y0, .int .u32 y1, .int .u64 y2, .int .u16 y3])).run Try.prog w = .ok (x0 == y0 && (x1 == y1 && (x2 == y2 && (x3 == y3)))) w := by
  refine eqA_of Try.underlying56 (by kernel_rfl) ?_
  refine eqf_cons (by rfl) (by go_simp; rfl) (by go_simp; rfl) (by go_simp) ?_
  refine eqf_cons (by rfl) (by go_simp; rfl) (by go_simp; rfl) (by go_simp) ?_
  refine eqf_cons (by rfl) (by go_simp; rfl) (by go_simp; rfl) (by go_simp) ?_
  exact eqf_last (by rfl) (by go_simp; rfl) (by go_simp; rfl) (by go_simp)
theorem eqA58 (d : Nat) (w : World) (x0 y0 : Int) (x1 y1 : Int) (x2 y2 : Int) (x3 y3 : Int) (x4 y4 : Int) (x5 y5 : Int) (x6 y6 : Int) (x7 y7 : Bool) (x8 y8 : Bool) (x9 y9 : Bool) (x10 y10 : Int) (x11 y11 : Bool) (x12 y12 : Int) (x13 y13 : Bool) (x14 y14 : Int) :
    (Op.equalIn (d + 3) 58 (.agg #[.int .u16 x0, .int .i64 x1, .int .u32 x2, .int .u64 x3, .int .u32 x4, .int .u64 x5, .int .u16 x6, .bool x7, .bool x8, .bool x9, .int .i64 x10, .bool x11, .int .i64 x12, .bool x13, .int .i64 x14]) (.agg #[.int .u16 y0, .int .i64 y1, .int .u32 y2, .int .u64 y3, .int .u32 y4, .int .u64 y5, .int .u16 y6, .bool y7, .bool y8, .bool y9, .int .i64 y10, .bool y11, .int .i64 y12, .bool y13, .int .i64 y14])).run Try.prog w = .ok (x0 == y0 && (x1 == y1 && (x2 == y2 && ((x3 == y3 && (x4 == y4 && (x5 == y5 && (x6 == y6)))) && (x7 == y7 && (x8 == y8 && ((x9 == y9 && (x10 == y10)) && ((x11 == y11 && (x12 == y12)) && ((x13 == y13 && (x14 == y14))))))))))) w := by
  refine eqA_of Try.underlying58 (by kernel_rfl) ?_
  refine eqf_cons (by rfl) (by go_simp; rfl) (by go_simp; rfl) (by go_simp) ?_
  refine eqf_cons (by rfl) (by go_simp; rfl) (by go_simp; rfl) (by go_simp) ?_
  refine eqf_cons (by rfl) (by go_simp; rfl) (by go_simp; rfl) (by go_simp) ?_
  refine eqf_cons (by rfl) (by go_simp) (by go_simp) (eqA56 (d + 0) w _ _ _ _ _ _ _ _) ?_
  refine eqf_cons (by rfl) (by go_simp; rfl) (by go_simp; rfl) (by go_simp) ?_
  refine eqf_cons (by rfl) (by go_simp; rfl) (by go_simp; rfl) (by go_simp) ?_
  refine eqf_cons (by rfl) (by go_simp) (by go_simp) (eqA39 (d + 0) w _ _ _ _) ?_
  refine eqf_cons (by rfl) (by go_simp) (by go_simp) (eqA39 (d + 0) w _ _ _ _) ?_
  exact eqf_last (by rfl) (by go_simp) (by go_simp) (eqA39 (d + 0) w _ _ _ _)
theorem eqE (d : Nat) (w : World) (p : Pt) : (Op.equalIn (d + 3) 58 (.agg (enc p)) (.agg (enc p))).run Try.prog w = .ok true w := by
  unfold enc
  rw [eqA58]
  simp
set_option maxHeartbeats 8000000 in
set_option maxRecDepth 100000 in
theorem Become_calls (p : Pt) (r rc b q : Int) (w : World) : Calls Try.prog 35 #[.agg (enc p), .agg #[.int .u64 r, .int .u32 rc, .int .u64 b, .int .u16 q]] w fun e w' => e = .returned (.agg (enc { p with root := r, rcost := rc, br := b, rp := p.id })) ∧ Below w.heap.size w w' := by
  have HB := Aside0.mk (Below.refl w.heap.size w)
  go_enter Try.func35, Try.ntmps35
  go_wp2_with (first | ((with_reducible refine gate_dst (N := 2) rfl ?_); refine box_event rfl (N := 2) rfl (cs := enc p) (t := 58) (by first | (go_simp; done) | (go_simp; rfl)) ?_; intro g2 eg2 v1 Kg2 b1; have Gg2 := Aside0.mk (show w.heap.size ≤ g2 from by rw [eg2]; exact HB.out.size); replace HB := Aside0.mk (below_step HB.out b1); replace Kg2 := Aside0.mk Kg2; clear b1 eg2) | ((with_reducible refine gate_dst (N := 3) rfl ?_); refine box_event rfl (N := 3) rfl (cs := #[.int .u64 r, .int .u32 rc, .int .u64 b, .int .u16 q]) (t := 56) (by first | (go_simp; done) | (go_simp; rfl)) ?_; intro g3 eg3 v2 Kg3 b2; have Dg2_g3 := Aside0.mk (show g2 ≠ g3 from by have := blk_lt Kg2.out; omega); replace Kg2 := Aside0.mk (blk_below Kg2.out b2); have Gg3 := Aside0.mk (show w.heap.size ≤ g3 from by rw [eg3]; exact HB.out.size); replace HB := Aside0.mk (below_step HB.out b2); replace Kg3 := Aside0.mk Kg3; clear b2 eg3) | ((with_reducible refine gate_dst (N := 4) rfl ?_); refine box_event rfl (N := 4) rfl (cs := #[.int .u16 0, .int .i64 0, .int .u32 0, .int .u64 0, .int .u32 0, .int .u64 0, .int .u16 0, .bool false, .bool false, .bool false, .int .i64 0, .bool false, .int .i64 0, .bool false, .int .i64 0]) (t := 58) (by first | (go_simp; done) | (go_simp; rfl)) ?_; intro g4 eg4 v3 Kg4 b3; have Dg2_g4 := Aside0.mk (show g2 ≠ g4 from by have := blk_lt Kg2.out; omega); replace Kg2 := Aside0.mk (blk_below Kg2.out b3); have Dg3_g4 := Aside0.mk (show g3 ≠ g4 from by have := blk_lt Kg3.out; omega); replace Kg3 := Aside0.mk (blk_below Kg3.out b3); have Gg4 := Aside0.mk (show w.heap.size ≤ g4 from by rw [eg4]; exact HB.out.size); replace HB := Aside0.mk (below_step HB.out b3); replace Kg4 := Aside0.mk Kg4; clear b3 eg4) | ((with_reducible refine gate_dst (N := 6) rfl ?_); refine ev_ld1 rfl _ _ rfl g2 0 rfl Kg2.out (.int .u16 p.id) Try.underlying54 rfl (enc_0 p) ?_) | ((with_reducible refine gate_store (p := 7) rfl ?_); refine ev_st rfl 54 _ _ rfl g3 3 rfl rfl #[.int .u16 p.id] rfl info54 (by simp [Value.oneCell']) Kg3.out (by first | (rw [enc_size]; simp; done) | simp) (#[.int .u64 r, .int .u32 rc, .int .u64 b, .int .u16 p.id]) rfl ?_; intro v4 q4 b4; replace Kg2 := Aside0.mk (b4.keep Kg2.out Dg2_g3.out); replace Kg4 := Aside0.mk (b4.keep Kg4.out Dg3_g4.out.symm); replace HB := Aside0.mk (b4.below HB.out Gg3.out HB.out.size); replace Kg3 := Aside0.mk q4; clear b4) | ((with_reducible refine gate_dst (N := 8) rfl ?_); refine ev_ld rfl _ _ rfl g3 0 rfl Kg3.out #[.int .u64 r, .int .u32 rc, .int .u64 b, .int .u16 p.id] Try.underlying56 rfl info56 (fun j u hj => by simpa using hj) ?_) | ((with_reducible refine gate_store (p := 9) rfl ?_); refine ev_st rfl 56 _ _ rfl g2 3 rfl rfl #[.int .u64 r, .int .u32 rc, .int .u64 b, .int .u16 p.id] rfl info56 (by simp [Value.oneCell']) Kg2.out (by first | (rw [enc_size]; simp; done) | simp) (enc { p with root := r, rcost := rc, br := b, rp := p.id }) (enc_held _ _ _ _ _) ?_; intro v5 q5 b5; replace Kg3 := Aside0.mk (b5.keep Kg3.out Dg2_g3.out.symm); replace Kg4 := Aside0.mk (b5.keep Kg4.out Dg2_g4.out.symm); replace HB := Aside0.mk (b5.below HB.out Gg2.out HB.out.size); replace Kg2 := Aside0.mk q5; clear b5) | ((with_reducible refine gate_dst (N := 10) rfl ?_); refine ld58 Kg2.out rfl _ rfl rfl ?_) | ((with_reducible refine gate_store (p := 4) rfl ?_); refine st58 (p := { p with root := r, rcost := rc, br := b, rp := p.id }) Kg4.out (by first | exact enc_size _ | rfl) rfl _ _ rfl rfl rfl ?_; intro v6 q6 b6; replace Kg2 := Aside0.mk (b6.keep Kg2.out Dg2_g4.out); replace Kg3 := Aside0.mk (b6.keep Kg3.out Dg3_g4.out); replace HB := Aside0.mk (b6.below HB.out Gg4.out HB.out.size); replace Kg4 := Aside0.mk q6; clear b6))
  exact bodyPost_ret (results_cell_row rfl _ _ g4 58 (enc { p with root := r, rcost := rc, br := b, rp := p.id }) (0, 0) _ rfl Kg4.out Try.underlying58 rfl (by rw [enc_size]; exact info58)) rfl ⟨rfl, HB.out⟩

set_option maxHeartbeats 8000000 in
set_option maxRecDepth 100000 in
theorem Start_calls (w : World) : Calls Try.prog 24 #[.int .i64 0] w fun e w' => e = .returned (.agg #[.bool true, .int .i64 0]) ∧ Below w.heap.size w w' := by
  go_enter Try.func24, Try.ntmps24
  go_wp2_with fail
  refine bodyPost_ret (v := .agg #[.bool true, .int .i64 0]) (by simp [results, Try.results24, go_sem]) rfl ⟨rfl, ?_⟩
  repeat (first | exact Below.refl _ _ | apply below_alloc | refine below_set ?_ (by simp))

set_option maxHeartbeats 8000000 in
set_option maxRecDepth 100000 in
theorem Stop_calls (w : World) : Calls Try.prog 23 #[] w fun e w' => e = .returned (.agg #[.bool false, .int .i64 0]) ∧ Below w.heap.size w w' := by
  go_enter Try.func23, Try.ntmps23
  go_wp2_with fail
  refine bodyPost_ret (v := .agg #[.bool false, .int .i64 0]) (by simp [results, Try.results23, go_sem]) rfl ⟨rfl, ?_⟩
  repeat (first | exact Below.refl _ _ | apply below_alloc | refine below_set ?_ (by simp))

set_option maxHeartbeats 8000000 in
set_option maxRecDepth 100000 in
theorem New_true (id cost r rc b q : Int) (w : World) : Calls Try.prog 34 #[.int .u16 id, .int .u32 cost, .bool true, .agg #[.int .u64 r, .int .u32 rc, .int .u64 b, .int .u16 q]] w fun e w' => e = .returned (.agg (enc { id := id, st := 1, cost := cost, root := r, rcost := rc, br := b, rp := id, c7 := false, c8 := false, aOn := false, aV := 0, dOn := false, dV := 0, hOn := false, hV := 0 })) ∧ Below w.heap.size w w' := by
  have HB := Aside0.mk (Below.refl w.heap.size w)
  go_enter Try.func34, Try.ntmps34
  go_wp2_with (first | ((with_reducible refine gate_dst (N := 7) rfl ?_); refine box_event rfl (N := 7) rfl (cs := #[.int .u64 r, .int .u32 rc, .int .u64 b, .int .u16 q]) (t := 56) (by first | (go_simp; done) | (go_simp; rfl)) ?_; intro g7 eg7 v1 Kg7 b1; have Gg7 := Aside0.mk (show w.heap.size ≤ g7 from by rw [eg7]; exact HB.out.size); replace HB := Aside0.mk (below_step HB.out b1); replace Kg7 := Aside0.mk Kg7; clear b1 eg7) | ((with_reducible refine gate_dst (N := 8) rfl ?_); refine box_event rfl (N := 8) rfl (cs := #[.int .u16 0, .int .i64 0, .int .u32 0, .int .u64 0, .int .u32 0, .int .u64 0, .int .u16 0, .bool false, .bool false, .bool false, .int .i64 0, .bool false, .int .i64 0, .bool false, .int .i64 0]) (t := 58) (by first | (go_simp; done) | (go_simp; rfl)) ?_; intro g8 eg8 v2 Kg8 b2; have Dg7_g8 := Aside0.mk (show g7 ≠ g8 from by have := blk_lt Kg7.out; omega); replace Kg7 := Aside0.mk (blk_below Kg7.out b2); have Gg8 := Aside0.mk (show w.heap.size ≤ g8 from by rw [eg8]; exact HB.out.size); replace HB := Aside0.mk (below_step HB.out b2); replace Kg8 := Aside0.mk Kg8; clear b2 eg8) | ((with_reducible refine gate_dst (N := 13) rfl ?_); refine ev_ld rfl _ _ rfl g7 0 rfl Kg7.out #[.int .u64 r, .int .u32 rc, .int .u64 b, .int .u16 q] Try.underlying56 rfl info56 (fun j u hj => by simpa using hj) ?_) | ((with_reducible refine gate_dst (N := 14) rfl ?_); refine goesL_ (some 14) rfl rfl Try.func35 (by kernel_rfl) rfl #[.agg (enc { id := id, st := 0, cost := cost, root := 0, rcost := 0, br := 0, rp := 0, c7 := false, c8 := false, aOn := false, aV := 0, dOn := false, dV := 0, hOn := false, hV := 0 }), .agg #[.int .u64 r, .int .u32 rc, .int .u64 b, .int .u16 q]] rfl (by (try simp only [List.map_toArray, List.map_cons, List.map_nil]); unfold enc; first | done | rfl) ?_; refine (Become_calls { id := id, st := 0, cost := cost, root := 0, rcost := 0, br := 0, rp := 0, c7 := false, c8 := false, aOn := false, aV := 0, dOn := false, dV := 0, hOn := false, hV := 0 } r rc b q _).mono ?_; rintro e v3 ⟨rfl, b3⟩; refine ⟨_, rfl, ?_⟩; replace Kg7 := Aside0.mk (blk_below Kg7.out b3); replace Kg8 := Aside0.mk (blk_below Kg8.out b3); replace HB := Aside0.mk (below_step HB.out b3); clear b3) | ((with_reducible refine gate_dst (N := 9) rfl ?_); refine box_event rfl (N := 9) rfl (cs := #[.int .u16 0, .int .i64 0, .int .u32 0, .int .u64 0, .int .u32 0, .int .u64 0, .int .u16 0, .bool false, .bool false, .bool false, .int .i64 0, .bool false, .int .i64 0, .bool false, .int .i64 0]) (t := 58) (by first | (go_simp; done) | (go_simp; rfl)) ?_; intro g9 eg9 v4 Kg9 b4; have Dg7_g9 := Aside0.mk (show g7 ≠ g9 from by have := blk_lt Kg7.out; omega); replace Kg7 := Aside0.mk (blk_below Kg7.out b4); have Dg8_g9 := Aside0.mk (show g8 ≠ g9 from by have := blk_lt Kg8.out; omega); replace Kg8 := Aside0.mk (blk_below Kg8.out b4); have Gg9 := Aside0.mk (show w.heap.size ≤ g9 from by rw [eg9]; exact HB.out.size); replace HB := Aside0.mk (below_step HB.out b4); replace Kg9 := Aside0.mk Kg9; clear b4 eg9) | ((with_reducible refine gate_store (p := 9) rfl ?_); refine st58 (p := { id := id, st := 0, cost := cost, root := r, rcost := rc, br := b, rp := id, c7 := false, c8 := false, aOn := false, aV := 0, dOn := false, dV := 0, hOn := false, hV := 0 }) Kg9.out (by first | exact enc_size _ | rfl) rfl _ _ rfl rfl rfl ?_; intro v5 q5 b5; replace Kg7 := Aside0.mk (b5.keep Kg7.out Dg7_g9.out); replace Kg8 := Aside0.mk (b5.keep Kg8.out Dg8_g9.out); replace HB := Aside0.mk (b5.below HB.out Gg9.out HB.out.size); replace Kg9 := Aside0.mk q5; clear b5) | ((with_reducible refine gate_store (p := 16) rfl ?_); refine ev_st rfl 3 _ _ rfl g9 1 rfl rfl #[.int .i64 1] rfl info3 (by simp [Value.oneCell']) Kg9.out (by first | (rw [enc_size]; simp; done) | simp) (enc { id := id, st := 1, cost := cost, root := r, rcost := rc, br := b, rp := id, c7 := false, c8 := false, aOn := false, aV := 0, dOn := false, dV := 0, hOn := false, hV := 0 }) (enc_st _ _) ?_; intro v6 q6 b6; replace Kg7 := Aside0.mk (b6.keep Kg7.out Dg7_g9.out); replace Kg8 := Aside0.mk (b6.keep Kg8.out Dg8_g9.out); replace HB := Aside0.mk (b6.below HB.out Gg9.out HB.out.size); replace Kg9 := Aside0.mk q6; clear b6) | ((with_reducible refine gate_dst (N := 17) rfl ?_); refine ld58 Kg9.out rfl _ rfl rfl ?_) | ((with_reducible refine gate_store (p := 8) rfl ?_); refine st58 (p := { id := id, st := 1, cost := cost, root := r, rcost := rc, br := b, rp := id, c7 := false, c8 := false, aOn := false, aV := 0, dOn := false, dV := 0, hOn := false, hV := 0 }) Kg8.out (by first | exact enc_size _ | rfl) rfl _ _ rfl rfl rfl ?_; intro v7 q7 b7; replace Kg7 := Aside0.mk (b7.keep Kg7.out Dg7_g8.out); replace Kg9 := Aside0.mk (b7.keep Kg9.out Dg8_g9.out.symm); replace HB := Aside0.mk (b7.below HB.out Gg8.out HB.out.size); replace Kg8 := Aside0.mk q7; clear b7))
  exact bodyPost_ret (results_cell_row rfl _ _ g8 58 (enc ({ id := id, st := 1, cost := cost, root := r, rcost := rc, br := b, rp := id, c7 := false, c8 := false, aOn := false, aV := 0, dOn := false, dV := 0, hOn := false, hV := 0 })) (0, 0) _ rfl Kg8.out Try.underlying58 rfl (by rw [enc_size]; exact info58)) rfl ⟨rfl, HB.out⟩

set_option maxHeartbeats 8000000 in
set_option maxRecDepth 100000 in
theorem New_false (id cost r rc b q : Int) (w : World) : Calls Try.prog 34 #[.int .u16 id, .int .u32 cost, .bool false, .agg #[.int .u64 r, .int .u32 rc, .int .u64 b, .int .u16 q]] w fun e w' => e = .returned (.agg (enc { id := id, st := 0, cost := cost, root := r, rcost := rc, br := b, rp := id, c7 := false, c8 := false, aOn := false, aV := 0, dOn := false, dV := 0, hOn := false, hV := 0 })) ∧ Below w.heap.size w w' := by
  have HB := Aside0.mk (Below.refl w.heap.size w)
  go_enter Try.func34, Try.ntmps34
  go_wp2_with (first | ((with_reducible refine gate_dst (N := 7) rfl ?_); refine box_event rfl (N := 7) rfl (cs := #[.int .u64 r, .int .u32 rc, .int .u64 b, .int .u16 q]) (t := 56) (by first | (go_simp; done) | (go_simp; rfl)) ?_; intro g7 eg7 v1 Kg7 b1; have Gg7 := Aside0.mk (show w.heap.size ≤ g7 from by rw [eg7]; exact HB.out.size); replace HB := Aside0.mk (below_step HB.out b1); replace Kg7 := Aside0.mk Kg7; clear b1 eg7) | ((with_reducible refine gate_dst (N := 8) rfl ?_); refine box_event rfl (N := 8) rfl (cs := #[.int .u16 0, .int .i64 0, .int .u32 0, .int .u64 0, .int .u32 0, .int .u64 0, .int .u16 0, .bool false, .bool false, .bool false, .int .i64 0, .bool false, .int .i64 0, .bool false, .int .i64 0]) (t := 58) (by first | (go_simp; done) | (go_simp; rfl)) ?_; intro g8 eg8 v2 Kg8 b2; have Dg7_g8 := Aside0.mk (show g7 ≠ g8 from by have := blk_lt Kg7.out; omega); replace Kg7 := Aside0.mk (blk_below Kg7.out b2); have Gg8 := Aside0.mk (show w.heap.size ≤ g8 from by rw [eg8]; exact HB.out.size); replace HB := Aside0.mk (below_step HB.out b2); replace Kg8 := Aside0.mk Kg8; clear b2 eg8) | ((with_reducible refine gate_dst (N := 13) rfl ?_); refine ev_ld rfl _ _ rfl g7 0 rfl Kg7.out #[.int .u64 r, .int .u32 rc, .int .u64 b, .int .u16 q] Try.underlying56 rfl info56 (fun j u hj => by simpa using hj) ?_) | ((with_reducible refine gate_dst (N := 14) rfl ?_); refine goesL_ (some 14) rfl rfl Try.func35 (by kernel_rfl) rfl #[.agg (enc { id := id, st := 0, cost := cost, root := 0, rcost := 0, br := 0, rp := 0, c7 := false, c8 := false, aOn := false, aV := 0, dOn := false, dV := 0, hOn := false, hV := 0 }), .agg #[.int .u64 r, .int .u32 rc, .int .u64 b, .int .u16 q]] rfl (by (try simp only [List.map_toArray, List.map_cons, List.map_nil]); unfold enc; first | done | rfl) ?_; refine (Become_calls { id := id, st := 0, cost := cost, root := 0, rcost := 0, br := 0, rp := 0, c7 := false, c8 := false, aOn := false, aV := 0, dOn := false, dV := 0, hOn := false, hV := 0 } r rc b q _).mono ?_; rintro e v3 ⟨rfl, b3⟩; refine ⟨_, rfl, ?_⟩; replace Kg7 := Aside0.mk (blk_below Kg7.out b3); replace Kg8 := Aside0.mk (blk_below Kg8.out b3); replace HB := Aside0.mk (below_step HB.out b3); clear b3) | ((with_reducible refine gate_dst (N := 9) rfl ?_); refine box_event rfl (N := 9) rfl (cs := #[.int .u16 0, .int .i64 0, .int .u32 0, .int .u64 0, .int .u32 0, .int .u64 0, .int .u16 0, .bool false, .bool false, .bool false, .int .i64 0, .bool false, .int .i64 0, .bool false, .int .i64 0]) (t := 58) (by first | (go_simp; done) | (go_simp; rfl)) ?_; intro g9 eg9 v4 Kg9 b4; have Dg7_g9 := Aside0.mk (show g7 ≠ g9 from by have := blk_lt Kg7.out; omega); replace Kg7 := Aside0.mk (blk_below Kg7.out b4); have Dg8_g9 := Aside0.mk (show g8 ≠ g9 from by have := blk_lt Kg8.out; omega); replace Kg8 := Aside0.mk (blk_below Kg8.out b4); have Gg9 := Aside0.mk (show w.heap.size ≤ g9 from by rw [eg9]; exact HB.out.size); replace HB := Aside0.mk (below_step HB.out b4); replace Kg9 := Aside0.mk Kg9; clear b4 eg9) | ((with_reducible refine gate_store (p := 9) rfl ?_); refine st58 (p := { id := id, st := 0, cost := cost, root := r, rcost := rc, br := b, rp := id, c7 := false, c8 := false, aOn := false, aV := 0, dOn := false, dV := 0, hOn := false, hV := 0 }) Kg9.out (by first | exact enc_size _ | rfl) rfl _ _ rfl rfl rfl ?_; intro v5 q5 b5; replace Kg7 := Aside0.mk (b5.keep Kg7.out Dg7_g9.out); replace Kg8 := Aside0.mk (b5.keep Kg8.out Dg8_g9.out); replace HB := Aside0.mk (b5.below HB.out Gg9.out HB.out.size); replace Kg9 := Aside0.mk q5; clear b5) | ((with_reducible refine gate_dst (N := 17) rfl ?_); refine ld58 Kg9.out rfl _ rfl rfl ?_) | ((with_reducible refine gate_store (p := 8) rfl ?_); refine st58 (p := { id := id, st := 0, cost := cost, root := r, rcost := rc, br := b, rp := id, c7 := false, c8 := false, aOn := false, aV := 0, dOn := false, dV := 0, hOn := false, hV := 0 }) Kg8.out (by first | exact enc_size _ | rfl) rfl _ _ rfl rfl rfl ?_; intro v6 q6 b6; replace Kg7 := Aside0.mk (b6.keep Kg7.out Dg7_g8.out); replace Kg9 := Aside0.mk (b6.keep Kg9.out Dg8_g9.out.symm); replace HB := Aside0.mk (b6.below HB.out Gg8.out HB.out.size); replace Kg8 := Aside0.mk q6; clear b6))
  exact bodyPost_ret (results_cell_row rfl _ _ g8 58 (enc ({ id := id, st := 0, cost := cost, root := r, rcost := rc, br := b, rp := id, c7 := false, c8 := false, aOn := false, aV := 0, dOn := false, dV := 0, hOn := false, hV := 0 })) (0, 0) _ rfl Kg8.out Try.underlying58 rfl (by rw [enc_size]; exact info58)) rfl ⟨rfl, HB.out⟩

set_option maxHeartbeats 8000000 in
set_option maxRecDepth 100000 in
theorem Rise_1 (p : Pt) (h : p.st = 1) (w : World) : Calls Try.prog 38 #[.agg (enc p)] w fun e w' => e = .returned (.agg (enc { p with st := 2, dOn := true, dV := 0 })) ∧ Below w.heap.size w w' := by
  have c : (p.st == 1) = true := beq_iff_eq.2 h
  clear h
  have HB := Aside0.mk (Below.refl w.heap.size w)
  go_enter Try.func38, Try.ntmps38
  go_wp2_with (first | ((with_reducible refine gate_dst (N := 1) rfl ?_); refine box_event rfl (N := 1) rfl (cs := enc p) (t := 58) (by first | (go_simp; done) | (go_simp; rfl)) ?_; intro g1 eg1 v1 Kg1 b1; have Gg1 := Aside0.mk (show w.heap.size ≤ g1 from by rw [eg1]; exact HB.out.size); replace HB := Aside0.mk (below_step HB.out b1); replace Kg1 := Aside0.mk Kg1; clear b1 eg1) | ((with_reducible refine gate_dst (N := 2) rfl ?_); refine box_event rfl (N := 2) rfl (cs := #[.int .u16 0, .int .i64 0, .int .u32 0, .int .u64 0, .int .u32 0, .int .u64 0, .int .u16 0, .bool false, .bool false, .bool false, .int .i64 0, .bool false, .int .i64 0, .bool false, .int .i64 0]) (t := 58) (by first | (go_simp; done) | (go_simp; rfl)) ?_; intro g2 eg2 v2 Kg2 b2; have Dg1_g2 := Aside0.mk (show g1 ≠ g2 from by have := blk_lt Kg1.out; omega); replace Kg1 := Aside0.mk (blk_below Kg1.out b2); have Gg2 := Aside0.mk (show w.heap.size ≤ g2 from by rw [eg2]; exact HB.out.size); replace HB := Aside0.mk (below_step HB.out b2); replace Kg2 := Aside0.mk Kg2; clear b2 eg2) | ((with_reducible refine gate_dst (N := 4) rfl ?_); refine ev_ld1 rfl _ _ rfl g1 1 rfl Kg1.out (.int .i64 p.st) Try.underlying3 rfl (enc_1 p) ?_) | ((with_reducible refine gate_store (p := 6) rfl ?_); refine ev_st rfl 3 _ _ rfl g1 1 rfl rfl #[.int .i64 2] rfl info3 (by simp [Value.oneCell']) Kg1.out (by first | (rw [enc_size]; simp; done) | simp) (enc { p with st := 2 }) (enc_st _ _) ?_; intro v3 q3 b3; replace Kg2 := Aside0.mk (b3.keep Kg2.out Dg1_g2.out.symm); replace HB := Aside0.mk (b3.below HB.out Gg1.out HB.out.size); replace Kg1 := Aside0.mk q3; clear b3) | ((with_reducible refine gate_dst (N := 7) rfl ?_); refine goesL_ (some 7) rfl rfl Try.func24 (by kernel_rfl) rfl #[.int .i64 0] rfl (by (try simp only [List.map_toArray, List.map_cons, List.map_nil]); first | done | rfl) ?_; refine (Start_calls _).mono ?_; rintro e v4 ⟨rfl, b4⟩; refine ⟨_, rfl, ?_⟩; replace Kg1 := Aside0.mk (blk_below Kg1.out b4); replace Kg2 := Aside0.mk (blk_below Kg2.out b4); replace HB := Aside0.mk (below_step HB.out b4); clear b4) | ((with_reducible refine gate_store (p := 8) rfl ?_); refine ev_st rfl 39 _ _ rfl g1 11 rfl rfl #[.bool true, .int .i64 0] rfl info39 (by simp [Value.oneCell']) Kg1.out (by first | (rw [enc_size]; simp; done) | simp) (enc { p with st := 2, dOn := true, dV := 0 }) (enc_delay _ _ _) ?_; intro v5 q5 b5; replace Kg2 := Aside0.mk (b5.keep Kg2.out Dg1_g2.out.symm); replace HB := Aside0.mk (b5.below HB.out Gg1.out HB.out.size); replace Kg1 := Aside0.mk q5; clear b5) | ((with_reducible refine gate_dst (N := 9) rfl ?_); refine ld58 Kg1.out rfl _ rfl rfl ?_) | ((with_reducible refine gate_store (p := 2) rfl ?_); refine st58 (p := { p with st := 2, dOn := true, dV := 0 }) Kg2.out (by first | exact enc_size _ | rfl) rfl _ _ rfl rfl rfl ?_; intro v6 q6 b6; replace Kg1 := Aside0.mk (b6.keep Kg1.out Dg1_g2.out); replace HB := Aside0.mk (b6.below HB.out Gg2.out HB.out.size); replace Kg2 := Aside0.mk q6; clear b6))
  exact bodyPost_ret (results_cell_row rfl _ _ g2 58 (enc ({ p with st := 2, dOn := true, dV := 0 })) (0, 0) _ rfl Kg2.out Try.underlying58 rfl (by rw [enc_size]; exact info58)) rfl ⟨rfl, HB.out⟩

set_option maxHeartbeats 8000000 in
set_option maxRecDepth 100000 in
theorem Rise_0 (p : Pt) (h : p.st ≠ 1) (w : World) : Calls Try.prog 38 #[.agg (enc p)] w fun e w' => e = .returned (.agg (enc p)) ∧ Below w.heap.size w w' := by
  have c : (p.st == 1) = false := beq_eq_false_iff_ne.2 h
  clear h
  have HB := Aside0.mk (Below.refl w.heap.size w)
  go_enter Try.func38, Try.ntmps38
  go_wp2_with (first | ((with_reducible refine gate_dst (N := 1) rfl ?_); refine box_event rfl (N := 1) rfl (cs := enc p) (t := 58) (by first | (go_simp; done) | (go_simp; rfl)) ?_; intro g1 eg1 v1 Kg1 b1; have Gg1 := Aside0.mk (show w.heap.size ≤ g1 from by rw [eg1]; exact HB.out.size); replace HB := Aside0.mk (below_step HB.out b1); replace Kg1 := Aside0.mk Kg1; clear b1 eg1) | ((with_reducible refine gate_dst (N := 2) rfl ?_); refine box_event rfl (N := 2) rfl (cs := #[.int .u16 0, .int .i64 0, .int .u32 0, .int .u64 0, .int .u32 0, .int .u64 0, .int .u16 0, .bool false, .bool false, .bool false, .int .i64 0, .bool false, .int .i64 0, .bool false, .int .i64 0]) (t := 58) (by first | (go_simp; done) | (go_simp; rfl)) ?_; intro g2 eg2 v2 Kg2 b2; have Dg1_g2 := Aside0.mk (show g1 ≠ g2 from by have := blk_lt Kg1.out; omega); replace Kg1 := Aside0.mk (blk_below Kg1.out b2); have Gg2 := Aside0.mk (show w.heap.size ≤ g2 from by rw [eg2]; exact HB.out.size); replace HB := Aside0.mk (below_step HB.out b2); replace Kg2 := Aside0.mk Kg2; clear b2 eg2) | ((with_reducible refine gate_dst (N := 4) rfl ?_); refine ev_ld1 rfl _ _ rfl g1 1 rfl Kg1.out (.int .i64 p.st) Try.underlying3 rfl (enc_1 p) ?_) | ((with_reducible refine gate_dst (N := 9) rfl ?_); refine ld58 Kg1.out rfl _ rfl rfl ?_) | ((with_reducible refine gate_store (p := 2) rfl ?_); refine st58 (p := p) Kg2.out (by first | exact enc_size _ | rfl) rfl _ _ rfl rfl rfl ?_; intro v3 q3 b3; replace Kg1 := Aside0.mk (b3.keep Kg1.out Dg1_g2.out); replace HB := Aside0.mk (b3.below HB.out Gg2.out HB.out.size); replace Kg2 := Aside0.mk q3; clear b3))
  exact bodyPost_ret (results_cell_row rfl _ _ g2 58 (enc (p)) (0, 0) _ rfl Kg2.out Try.underlying58 rfl (by rw [enc_size]; exact info58)) rfl ⟨rfl, HB.out⟩

set_option maxHeartbeats 8000000 in
set_option maxRecDepth 100000 in
theorem Next_2 (p : Pt) (h : p.st = 2) (w : World) : Calls Try.prog 39 #[.agg (enc p)] w fun e w' => e = .returned (.tuple #[.agg (enc { p with st := 3, dOn := true, dV := 0 }), .bool false]) ∧ Below w.heap.size w w' := by
  have c : (p.st == 2) = true := beq_iff_eq.2 h
  clear h
  have HB := Aside0.mk (Below.refl w.heap.size w)
  go_enter Try.func39, Try.ntmps39
  go_wp2_with (first | ((with_reducible refine gate_dst (N := 1) rfl ?_); refine box_event rfl (N := 1) rfl (cs := enc p) (t := 58) (by first | (go_simp; done) | (go_simp; rfl)) ?_; intro g1 eg1 v1 Kg1 b1; have Gg1 := Aside0.mk (show w.heap.size ≤ g1 from by rw [eg1]; exact HB.out.size); replace HB := Aside0.mk (below_step HB.out b1); replace Kg1 := Aside0.mk Kg1; clear b1 eg1) | ((with_reducible refine gate_dst (N := 2) rfl ?_); refine box_event rfl (N := 2) rfl (cs := #[.int .u16 0, .int .i64 0, .int .u32 0, .int .u64 0, .int .u32 0, .int .u64 0, .int .u16 0, .bool false, .bool false, .bool false, .int .i64 0, .bool false, .int .i64 0, .bool false, .int .i64 0]) (t := 58) (by first | (go_simp; done) | (go_simp; rfl)) ?_; intro g2 eg2 v2 Kg2 b2; have Dg1_g2 := Aside0.mk (show g1 ≠ g2 from by have := blk_lt Kg1.out; omega); replace Kg1 := Aside0.mk (blk_below Kg1.out b2); have Gg2 := Aside0.mk (show w.heap.size ≤ g2 from by rw [eg2]; exact HB.out.size); replace HB := Aside0.mk (below_step HB.out b2); replace Kg2 := Aside0.mk Kg2; clear b2 eg2) | ((with_reducible refine gate_dst (N := 5) rfl ?_); refine ev_ld1 rfl _ _ rfl g1 1 rfl Kg1.out (.int .i64 p.st) Try.underlying3 rfl (enc_1 p) ?_) | ((with_reducible refine gate_store (p := 8) rfl ?_); refine ev_st rfl 3 _ _ rfl g1 1 rfl rfl #[.int .i64 3] rfl info3 (by simp [Value.oneCell']) Kg1.out (by first | (rw [enc_size]; simp; done) | simp) (enc { p with st := 3 }) (enc_st _ _) ?_; intro v3 q3 b3; replace Kg2 := Aside0.mk (b3.keep Kg2.out Dg1_g2.out.symm); replace HB := Aside0.mk (b3.below HB.out Gg1.out HB.out.size); replace Kg1 := Aside0.mk q3; clear b3) | ((with_reducible refine gate_dst (N := 9) rfl ?_); refine goesL_ (some 9) rfl rfl Try.func24 (by kernel_rfl) rfl #[.int .i64 0] rfl (by (try simp only [List.map_toArray, List.map_cons, List.map_nil]); first | done | rfl) ?_; refine (Start_calls _).mono ?_; rintro e v4 ⟨rfl, b4⟩; refine ⟨_, rfl, ?_⟩; replace Kg1 := Aside0.mk (blk_below Kg1.out b4); replace Kg2 := Aside0.mk (blk_below Kg2.out b4); replace HB := Aside0.mk (below_step HB.out b4); clear b4) | ((with_reducible refine gate_store (p := 10) rfl ?_); refine ev_st rfl 39 _ _ rfl g1 11 rfl rfl #[.bool true, .int .i64 0] rfl info39 (by simp [Value.oneCell']) Kg1.out (by first | (rw [enc_size]; simp; done) | simp) (enc { p with st := 3, dOn := true, dV := 0 }) (enc_delay _ _ _) ?_; intro v5 q5 b5; replace Kg2 := Aside0.mk (b5.keep Kg2.out Dg1_g2.out.symm); replace HB := Aside0.mk (b5.below HB.out Gg1.out HB.out.size); replace Kg1 := Aside0.mk q5; clear b5) | ((with_reducible refine gate_dst (N := 15) rfl ?_); refine ld58 Kg1.out rfl _ rfl rfl ?_) | ((with_reducible refine gate_store (p := 2) rfl ?_); refine st58 (p := { p with st := 3, dOn := true, dV := 0 }) Kg2.out (by first | exact enc_size _ | rfl) rfl _ _ rfl rfl rfl ?_; intro v6 q6 b6; replace Kg1 := Aside0.mk (b6.keep Kg1.out Dg1_g2.out); replace HB := Aside0.mk (b6.below HB.out Gg2.out HB.out.size); replace Kg2 := Aside0.mk q6; clear b6))
  exact bodyPost_ret (results_ct (p := 2) (u := 3) rfl _ _ g2 58 (enc ({ p with st := 3, dOn := true, dV := 0 })) (0, 0) _ rfl Kg2.out Try.underlying58 rfl (by rw [enc_size]; exact info58)) rfl ⟨rfl, HB.out⟩

set_option maxHeartbeats 8000000 in
set_option maxRecDepth 100000 in
theorem Next_3 (p : Pt) (h : p.st = 3) (w : World) : Calls Try.prog 39 #[.agg (enc p)] w fun e w' => e = .returned (.tuple #[.agg (enc { p with st := 4 }), .bool true]) ∧ Below w.heap.size w w' := by
  have c : (p.st == 2) = false := by rw [h]; rfl
  have d : (p.st == 3) = true := beq_iff_eq.2 h
  clear h
  have HB := Aside0.mk (Below.refl w.heap.size w)
  go_enter Try.func39, Try.ntmps39
  go_wp2_with (first | ((with_reducible refine gate_dst (N := 1) rfl ?_); refine box_event rfl (N := 1) rfl (cs := enc p) (t := 58) (by first | (go_simp; done) | (go_simp; rfl)) ?_; intro g1 eg1 v1 Kg1 b1; have Gg1 := Aside0.mk (show w.heap.size ≤ g1 from by rw [eg1]; exact HB.out.size); replace HB := Aside0.mk (below_step HB.out b1); replace Kg1 := Aside0.mk Kg1; clear b1 eg1) | ((with_reducible refine gate_dst (N := 2) rfl ?_); refine box_event rfl (N := 2) rfl (cs := #[.int .u16 0, .int .i64 0, .int .u32 0, .int .u64 0, .int .u32 0, .int .u64 0, .int .u16 0, .bool false, .bool false, .bool false, .int .i64 0, .bool false, .int .i64 0, .bool false, .int .i64 0]) (t := 58) (by first | (go_simp; done) | (go_simp; rfl)) ?_; intro g2 eg2 v2 Kg2 b2; have Dg1_g2 := Aside0.mk (show g1 ≠ g2 from by have := blk_lt Kg1.out; omega); replace Kg1 := Aside0.mk (blk_below Kg1.out b2); have Gg2 := Aside0.mk (show w.heap.size ≤ g2 from by rw [eg2]; exact HB.out.size); replace HB := Aside0.mk (below_step HB.out b2); replace Kg2 := Aside0.mk Kg2; clear b2 eg2) | ((with_reducible refine gate_dst (N := 5) rfl ?_); refine ev_ld1 rfl _ _ rfl g1 1 rfl Kg1.out (.int .i64 p.st) Try.underlying3 rfl (enc_1 p) ?_) | ((with_reducible refine gate_store (p := 13) rfl ?_); refine ev_st rfl 3 _ _ rfl g1 1 rfl rfl #[.int .i64 4] rfl info3 (by simp [Value.oneCell']) Kg1.out (by first | (rw [enc_size]; simp; done) | simp) (enc { p with st := 4 }) (enc_st _ _) ?_; intro v3 q3 b3; replace Kg2 := Aside0.mk (b3.keep Kg2.out Dg1_g2.out.symm); replace HB := Aside0.mk (b3.below HB.out Gg1.out HB.out.size); replace Kg1 := Aside0.mk q3; clear b3) | ((with_reducible refine gate_dst (N := 14) rfl ?_); refine ld58 Kg1.out rfl _ rfl rfl ?_) | ((with_reducible refine gate_store (p := 2) rfl ?_); refine st58 (p := { p with st := 4 }) Kg2.out (by first | exact enc_size _ | rfl) rfl _ _ rfl rfl rfl ?_; intro v4 q4 b4; replace Kg1 := Aside0.mk (b4.keep Kg1.out Dg1_g2.out); replace HB := Aside0.mk (b4.below HB.out Gg2.out HB.out.size); replace Kg2 := Aside0.mk q4; clear b4))
  exact bodyPost_ret (results_ct (p := 2) (u := 3) rfl _ _ g2 58 (enc ({ p with st := 4 })) (0, 0) _ rfl Kg2.out Try.underlying58 rfl (by rw [enc_size]; exact info58)) rfl ⟨rfl, HB.out⟩

set_option maxHeartbeats 8000000 in
set_option maxRecDepth 100000 in
theorem Next_0 (p : Pt) (h2 : p.st ≠ 2) (h3 : p.st ≠ 3) (w : World) : Calls Try.prog 39 #[.agg (enc p)] w fun e w' => e = .returned (.tuple #[.agg (enc p), .bool false]) ∧ Below w.heap.size w w' := by
  have c : (p.st == 2) = false := beq_eq_false_iff_ne.2 h2
  have d : (p.st == 3) = false := beq_eq_false_iff_ne.2 h3
  clear h2 h3
  have HB := Aside0.mk (Below.refl w.heap.size w)
  go_enter Try.func39, Try.ntmps39
  go_wp2_with (first | ((with_reducible refine gate_dst (N := 1) rfl ?_); refine box_event rfl (N := 1) rfl (cs := enc p) (t := 58) (by first | (go_simp; done) | (go_simp; rfl)) ?_; intro g1 eg1 v1 Kg1 b1; have Gg1 := Aside0.mk (show w.heap.size ≤ g1 from by rw [eg1]; exact HB.out.size); replace HB := Aside0.mk (below_step HB.out b1); replace Kg1 := Aside0.mk Kg1; clear b1 eg1) | ((with_reducible refine gate_dst (N := 2) rfl ?_); refine box_event rfl (N := 2) rfl (cs := #[.int .u16 0, .int .i64 0, .int .u32 0, .int .u64 0, .int .u32 0, .int .u64 0, .int .u16 0, .bool false, .bool false, .bool false, .int .i64 0, .bool false, .int .i64 0, .bool false, .int .i64 0]) (t := 58) (by first | (go_simp; done) | (go_simp; rfl)) ?_; intro g2 eg2 v2 Kg2 b2; have Dg1_g2 := Aside0.mk (show g1 ≠ g2 from by have := blk_lt Kg1.out; omega); replace Kg1 := Aside0.mk (blk_below Kg1.out b2); have Gg2 := Aside0.mk (show w.heap.size ≤ g2 from by rw [eg2]; exact HB.out.size); replace HB := Aside0.mk (below_step HB.out b2); replace Kg2 := Aside0.mk Kg2; clear b2 eg2) | ((with_reducible refine gate_dst (N := 5) rfl ?_); refine ev_ld1 rfl _ _ rfl g1 1 rfl Kg1.out (.int .i64 p.st) Try.underlying3 rfl (enc_1 p) ?_) | ((with_reducible refine gate_dst (N := 15) rfl ?_); refine ld58 Kg1.out rfl _ rfl rfl ?_) | ((with_reducible refine gate_store (p := 2) rfl ?_); refine st58 (p := p) Kg2.out (by first | exact enc_size _ | rfl) rfl _ _ rfl rfl rfl ?_; intro v3 q3 b3; replace Kg1 := Aside0.mk (b3.keep Kg1.out Dg1_g2.out); replace HB := Aside0.mk (b3.below HB.out Gg2.out HB.out.size); replace Kg2 := Aside0.mk q3; clear b3))
  exact bodyPost_ret (results_ct (p := 2) (u := 3) rfl _ _ g2 58 (enc (p)) (0, 0) _ rfl Kg2.out Try.underlying58 rfl (by rw [enc_size]; exact info58)) rfl ⟨rfl, HB.out⟩

set_option maxHeartbeats 8000000 in
set_option maxRecDepth 100000 in
theorem Block_0 (p : Pt) (h : p.st = 0) (w : World) : Calls Try.prog 37 #[.agg (enc p)] w fun e w' => e = .returned (.tuple #[.agg (enc p), .bool false]) ∧ Below w.heap.size w w' := by
  have c : (p.st == 0) = true := beq_iff_eq.2 h
  clear h
  have HB := Aside0.mk (Below.refl w.heap.size w)
  go_enter Try.func37, Try.ntmps37
  go_wp2_with (first | ((with_reducible refine gate_dst (N := 1) rfl ?_); refine box_event rfl (N := 1) rfl (cs := enc p) (t := 58) (by first | (go_simp; done) | (go_simp; rfl)) ?_; intro g1 eg1 v1 Kg1 b1; have Gg1 := Aside0.mk (show w.heap.size ≤ g1 from by rw [eg1]; exact HB.out.size); replace HB := Aside0.mk (below_step HB.out b1); replace Kg1 := Aside0.mk Kg1; clear b1 eg1) | ((with_reducible refine gate_dst (N := 2) rfl ?_); refine box_event rfl (N := 2) rfl (cs := #[.int .u16 0, .int .i64 0, .int .u32 0, .int .u64 0, .int .u32 0, .int .u64 0, .int .u16 0, .bool false, .bool false, .bool false, .int .i64 0, .bool false, .int .i64 0, .bool false, .int .i64 0]) (t := 58) (by first | (go_simp; done) | (go_simp; rfl)) ?_; intro g2 eg2 v2 Kg2 b2; have Dg1_g2 := Aside0.mk (show g1 ≠ g2 from by have := blk_lt Kg1.out; omega); replace Kg1 := Aside0.mk (blk_below Kg1.out b2); have Gg2 := Aside0.mk (show w.heap.size ≤ g2 from by rw [eg2]; exact HB.out.size); replace HB := Aside0.mk (below_step HB.out b2); replace Kg2 := Aside0.mk Kg2; clear b2 eg2) | ((with_reducible refine gate_dst (N := 6) rfl ?_); refine ev_ld1 rfl _ _ rfl g1 1 rfl Kg1.out (.int .i64 p.st) Try.underlying3 rfl (enc_1 p) ?_) | ((with_reducible refine gate_dst (N := 10) rfl ?_); (refine gate_guard (by rfl) ?_; dsimp only); refine ev_ld1 rfl _ _ rfl g1 1 rfl Kg1.out (.int .i64 p.st) Try.underlying3 rfl (enc_1 p) ?_) | ((with_reducible refine gate_dst (N := 13) rfl ?_); refine ld58 Kg1.out rfl _ rfl rfl ?_) | ((with_reducible refine gate_store (p := 2) rfl ?_); refine st58 (p := p) Kg2.out (by first | exact enc_size _ | rfl) rfl _ _ rfl rfl rfl ?_; intro v3 q3 b3; replace Kg1 := Aside0.mk (b3.keep Kg1.out Dg1_g2.out); replace HB := Aside0.mk (b3.below HB.out Gg2.out HB.out.size); replace Kg2 := Aside0.mk q3; clear b3))
  exact bodyPost_ret (results_ct (p := 2) (u := 3) rfl _ _ g2 58 (enc (p)) (0, 0) _ rfl Kg2.out Try.underlying58 rfl (by rw [enc_size]; exact info58)) rfl ⟨rfl, HB.out⟩

set_option maxHeartbeats 8000000 in
set_option maxRecDepth 100000 in
theorem Block_1 (p : Pt) (h : p.st = 1) (w : World) : Calls Try.prog 37 #[.agg (enc p)] w fun e w' => e = .returned (.tuple #[.agg (enc p), .bool false]) ∧ Below w.heap.size w w' := by
  have c : (p.st == 0) = false := by rw [h]; rfl
  have d : (p.st == 1) = true := beq_iff_eq.2 h
  clear h
  have HB := Aside0.mk (Below.refl w.heap.size w)
  go_enter Try.func37, Try.ntmps37
  go_wp2_with (first | ((with_reducible refine gate_dst (N := 1) rfl ?_); refine box_event rfl (N := 1) rfl (cs := enc p) (t := 58) (by first | (go_simp; done) | (go_simp; rfl)) ?_; intro g1 eg1 v1 Kg1 b1; have Gg1 := Aside0.mk (show w.heap.size ≤ g1 from by rw [eg1]; exact HB.out.size); replace HB := Aside0.mk (below_step HB.out b1); replace Kg1 := Aside0.mk Kg1; clear b1 eg1) | ((with_reducible refine gate_dst (N := 2) rfl ?_); refine box_event rfl (N := 2) rfl (cs := #[.int .u16 0, .int .i64 0, .int .u32 0, .int .u64 0, .int .u32 0, .int .u64 0, .int .u16 0, .bool false, .bool false, .bool false, .int .i64 0, .bool false, .int .i64 0, .bool false, .int .i64 0]) (t := 58) (by first | (go_simp; done) | (go_simp; rfl)) ?_; intro g2 eg2 v2 Kg2 b2; have Dg1_g2 := Aside0.mk (show g1 ≠ g2 from by have := blk_lt Kg1.out; omega); replace Kg1 := Aside0.mk (blk_below Kg1.out b2); have Gg2 := Aside0.mk (show w.heap.size ≤ g2 from by rw [eg2]; exact HB.out.size); replace HB := Aside0.mk (below_step HB.out b2); replace Kg2 := Aside0.mk Kg2; clear b2 eg2) | ((with_reducible refine gate_dst (N := 6) rfl ?_); refine ev_ld1 rfl _ _ rfl g1 1 rfl Kg1.out (.int .i64 p.st) Try.underlying3 rfl (enc_1 p) ?_) | ((with_reducible refine gate_dst (N := 10) rfl ?_); (refine gate_guard (by rfl) ?_; dsimp only); refine ev_ld1 rfl _ _ rfl g1 1 rfl Kg1.out (.int .i64 p.st) Try.underlying3 rfl (enc_1 p) ?_) | ((with_reducible refine gate_dst (N := 13) rfl ?_); refine ld58 Kg1.out rfl _ rfl rfl ?_) | ((with_reducible refine gate_store (p := 2) rfl ?_); refine st58 (p := p) Kg2.out (by first | exact enc_size _ | rfl) rfl _ _ rfl rfl rfl ?_; intro v3 q3 b3; replace Kg1 := Aside0.mk (b3.keep Kg1.out Dg1_g2.out); replace HB := Aside0.mk (b3.below HB.out Gg2.out HB.out.size); replace Kg2 := Aside0.mk q3; clear b3))
  exact bodyPost_ret (results_ct (p := 2) (u := 3) rfl _ _ g2 58 (enc (p)) (0, 0) _ rfl Kg2.out Try.underlying58 rfl (by rw [enc_size]; exact info58)) rfl ⟨rfl, HB.out⟩

set_option maxHeartbeats 8000000 in
set_option maxRecDepth 100000 in
theorem Block_3 (p : Pt) (h : p.st = 3) (w : World) : Calls Try.prog 37 #[.agg (enc p)] w fun e w' => e = .returned (.tuple #[.agg (enc { p with st := 1, dOn := false, dV := 0 }), .bool true]) ∧ Below w.heap.size w w' := by
  have c : (p.st == 0) = false := by rw [h]; rfl
  have d : (p.st == 1) = false := by rw [h]; rfl
  have f : (p.st == 3) = true := beq_iff_eq.2 h
  clear h
  have HB := Aside0.mk (Below.refl w.heap.size w)
  go_enter Try.func37, Try.ntmps37
  go_wp2_with (first | ((with_reducible refine gate_dst (N := 1) rfl ?_); refine box_event rfl (N := 1) rfl (cs := enc p) (t := 58) (by first | (go_simp; done) | (go_simp; rfl)) ?_; intro g1 eg1 v1 Kg1 b1; have Gg1 := Aside0.mk (show w.heap.size ≤ g1 from by rw [eg1]; exact HB.out.size); replace HB := Aside0.mk (below_step HB.out b1); replace Kg1 := Aside0.mk Kg1; clear b1 eg1) | ((with_reducible refine gate_dst (N := 2) rfl ?_); refine box_event rfl (N := 2) rfl (cs := #[.int .u16 0, .int .i64 0, .int .u32 0, .int .u64 0, .int .u32 0, .int .u64 0, .int .u16 0, .bool false, .bool false, .bool false, .int .i64 0, .bool false, .int .i64 0, .bool false, .int .i64 0]) (t := 58) (by first | (go_simp; done) | (go_simp; rfl)) ?_; intro g2 eg2 v2 Kg2 b2; have Dg1_g2 := Aside0.mk (show g1 ≠ g2 from by have := blk_lt Kg1.out; omega); replace Kg1 := Aside0.mk (blk_below Kg1.out b2); have Gg2 := Aside0.mk (show w.heap.size ≤ g2 from by rw [eg2]; exact HB.out.size); replace HB := Aside0.mk (below_step HB.out b2); replace Kg2 := Aside0.mk Kg2; clear b2 eg2) | ((with_reducible refine gate_dst (N := 6) rfl ?_); refine ev_ld1 rfl _ _ rfl g1 1 rfl Kg1.out (.int .i64 p.st) Try.underlying3 rfl (enc_1 p) ?_) | ((with_reducible refine gate_dst (N := 10) rfl ?_); (refine gate_guard (by rfl) ?_; dsimp only); refine ev_ld1 rfl _ _ rfl g1 1 rfl Kg1.out (.int .i64 p.st) Try.underlying3 rfl (enc_1 p) ?_) | ((with_reducible refine gate_dst (N := 15) rfl ?_); refine ev_ld1 rfl _ _ rfl g1 1 rfl Kg1.out (.int .i64 p.st) Try.underlying3 rfl (enc_1 p) ?_) | ((with_reducible refine gate_dst (N := 19) rfl ?_); (refine gate_guard (by rfl) ?_; dsimp only); refine ev_ld1 rfl _ _ rfl g1 1 rfl Kg1.out (.int .i64 p.st) Try.underlying3 rfl (enc_1 p) ?_) | ((with_reducible refine gate_store (p := 22) rfl ?_); refine ev_st rfl 3 _ _ rfl g1 1 rfl rfl #[.int .i64 1] rfl info3 (by simp [Value.oneCell']) Kg1.out (by first | (rw [enc_size]; simp; done) | simp) (enc { p with st := 1 }) (enc_st _ _) ?_; intro v3 q3 b3; replace Kg2 := Aside0.mk (b3.keep Kg2.out Dg1_g2.out.symm); replace HB := Aside0.mk (b3.below HB.out Gg1.out HB.out.size); replace Kg1 := Aside0.mk q3; clear b3) | ((with_reducible refine gate_dst (N := 23) rfl ?_); refine goesL_ (some 23) rfl rfl Try.func23 (by kernel_rfl) rfl #[] rfl (by (try simp only [List.map_toArray, List.map_cons, List.map_nil]); first | done | rfl) ?_; refine (Stop_calls _).mono ?_; rintro e v4 ⟨rfl, b4⟩; refine ⟨_, rfl, ?_⟩; replace Kg1 := Aside0.mk (blk_below Kg1.out b4); replace Kg2 := Aside0.mk (blk_below Kg2.out b4); replace HB := Aside0.mk (below_step HB.out b4); clear b4) | ((with_reducible refine gate_store (p := 24) rfl ?_); refine ev_st rfl 39 _ _ rfl g1 11 rfl rfl #[.bool false, .int .i64 0] rfl info39 (by simp [Value.oneCell']) Kg1.out (by first | (rw [enc_size]; simp; done) | simp) (enc { p with st := 1, dOn := false, dV := 0 }) (enc_delay _ _ _) ?_; intro v5 q5 b5; replace Kg2 := Aside0.mk (b5.keep Kg2.out Dg1_g2.out.symm); replace HB := Aside0.mk (b5.below HB.out Gg1.out HB.out.size); replace Kg1 := Aside0.mk q5; clear b5) | ((with_reducible refine gate_dst (N := 25) rfl ?_); refine ld58 Kg1.out rfl _ rfl rfl ?_) | ((with_reducible refine gate_store (p := 2) rfl ?_); refine st58 (p := { p with st := 1, dOn := false, dV := 0 }) Kg2.out (by first | exact enc_size _ | rfl) rfl _ _ rfl rfl rfl ?_; intro v6 q6 b6; replace Kg1 := Aside0.mk (b6.keep Kg1.out Dg1_g2.out); replace HB := Aside0.mk (b6.below HB.out Gg2.out HB.out.size); replace Kg2 := Aside0.mk q6; clear b6))
  exact bodyPost_ret (results_ct (p := 2) (u := 3) rfl _ _ g2 58 (enc ({ p with st := 1, dOn := false, dV := 0 })) (0, 0) _ rfl Kg2.out Try.underlying58 rfl (by rw [enc_size]; exact info58)) rfl ⟨rfl, HB.out⟩

set_option maxHeartbeats 8000000 in
set_option maxRecDepth 100000 in
theorem Block_n (p : Pt) (h0 : p.st ≠ 0) (h1 : p.st ≠ 1) (h3 : p.st ≠ 3) (w : World) : Calls Try.prog 37 #[.agg (enc p)] w fun e w' => e = .returned (.tuple #[.agg (enc { p with st := 1, dOn := false, dV := 0 }), .bool (p.st == 4)]) ∧ Below w.heap.size w w' := by
  have c : (p.st == 0) = false := beq_eq_false_iff_ne.2 h0
  have d : (p.st == 1) = false := beq_eq_false_iff_ne.2 h1
  have f : (p.st == 3) = false := beq_eq_false_iff_ne.2 h3
  clear h0 h1 h3
  have HB := Aside0.mk (Below.refl w.heap.size w)
  go_enter Try.func37, Try.ntmps37
  go_wp2_with (first | ((with_reducible refine gate_dst (N := 1) rfl ?_); refine box_event rfl (N := 1) rfl (cs := enc p) (t := 58) (by first | (go_simp; done) | (go_simp; rfl)) ?_; intro g1 eg1 v1 Kg1 b1; have Gg1 := Aside0.mk (show w.heap.size ≤ g1 from by rw [eg1]; exact HB.out.size); replace HB := Aside0.mk (below_step HB.out b1); replace Kg1 := Aside0.mk Kg1; clear b1 eg1) | ((with_reducible refine gate_dst (N := 2) rfl ?_); refine box_event rfl (N := 2) rfl (cs := #[.int .u16 0, .int .i64 0, .int .u32 0, .int .u64 0, .int .u32 0, .int .u64 0, .int .u16 0, .bool false, .bool false, .bool false, .int .i64 0, .bool false, .int .i64 0, .bool false, .int .i64 0]) (t := 58) (by first | (go_simp; done) | (go_simp; rfl)) ?_; intro g2 eg2 v2 Kg2 b2; have Dg1_g2 := Aside0.mk (show g1 ≠ g2 from by have := blk_lt Kg1.out; omega); replace Kg1 := Aside0.mk (blk_below Kg1.out b2); have Gg2 := Aside0.mk (show w.heap.size ≤ g2 from by rw [eg2]; exact HB.out.size); replace HB := Aside0.mk (below_step HB.out b2); replace Kg2 := Aside0.mk Kg2; clear b2 eg2) | ((with_reducible refine gate_dst (N := 6) rfl ?_); refine ev_ld1 rfl _ _ rfl g1 1 rfl Kg1.out (.int .i64 p.st) Try.underlying3 rfl (enc_1 p) ?_) | ((with_reducible refine gate_dst (N := 10) rfl ?_); (refine gate_guard (by rfl) ?_; dsimp only); refine ev_ld1 rfl _ _ rfl g1 1 rfl Kg1.out (.int .i64 p.st) Try.underlying3 rfl (enc_1 p) ?_) | ((with_reducible refine gate_dst (N := 15) rfl ?_); refine ev_ld1 rfl _ _ rfl g1 1 rfl Kg1.out (.int .i64 p.st) Try.underlying3 rfl (enc_1 p) ?_) | ((with_reducible refine gate_dst (N := 19) rfl ?_); (refine gate_guard (by rfl) ?_; dsimp only); refine ev_ld1 rfl _ _ rfl g1 1 rfl Kg1.out (.int .i64 p.st) Try.underlying3 rfl (enc_1 p) ?_) | ((with_reducible refine gate_store (p := 22) rfl ?_); refine ev_st rfl 3 _ _ rfl g1 1 rfl rfl #[.int .i64 1] rfl info3 (by simp [Value.oneCell']) Kg1.out (by first | (rw [enc_size]; simp; done) | simp) (enc { p with st := 1 }) (enc_st _ _) ?_; intro v3 q3 b3; replace Kg2 := Aside0.mk (b3.keep Kg2.out Dg1_g2.out.symm); replace HB := Aside0.mk (b3.below HB.out Gg1.out HB.out.size); replace Kg1 := Aside0.mk q3; clear b3) | ((with_reducible refine gate_dst (N := 23) rfl ?_); refine goesL_ (some 23) rfl rfl Try.func23 (by kernel_rfl) rfl #[] rfl (by (try simp only [List.map_toArray, List.map_cons, List.map_nil]); first | done | rfl) ?_; refine (Stop_calls _).mono ?_; rintro e v4 ⟨rfl, b4⟩; refine ⟨_, rfl, ?_⟩; replace Kg1 := Aside0.mk (blk_below Kg1.out b4); replace Kg2 := Aside0.mk (blk_below Kg2.out b4); replace HB := Aside0.mk (below_step HB.out b4); clear b4) | ((with_reducible refine gate_store (p := 24) rfl ?_); refine ev_st rfl 39 _ _ rfl g1 11 rfl rfl #[.bool false, .int .i64 0] rfl info39 (by simp [Value.oneCell']) Kg1.out (by first | (rw [enc_size]; simp; done) | simp) (enc { p with st := 1, dOn := false, dV := 0 }) (enc_delay _ _ _) ?_; intro v5 q5 b5; replace Kg2 := Aside0.mk (b5.keep Kg2.out Dg1_g2.out.symm); replace HB := Aside0.mk (b5.below HB.out Gg1.out HB.out.size); replace Kg1 := Aside0.mk q5; clear b5) | ((with_reducible refine gate_dst (N := 25) rfl ?_); refine ld58 Kg1.out rfl _ rfl rfl ?_) | ((with_reducible refine gate_store (p := 2) rfl ?_); refine st58 (p := { p with st := 1, dOn := false, dV := 0 }) Kg2.out (by first | exact enc_size _ | rfl) rfl _ _ rfl rfl rfl ?_; intro v6 q6 b6; replace Kg1 := Aside0.mk (b6.keep Kg1.out Dg1_g2.out); replace HB := Aside0.mk (b6.below HB.out Gg2.out HB.out.size); replace Kg2 := Aside0.mk q6; clear b6))
  exact bodyPost_ret (results_ct (p := 2) (u := 3) rfl _ _ g2 58 (enc ({ p with st := 1, dOn := false, dV := 0 })) (0, 0) _ rfl Kg2.out Try.underlying58 rfl (by rw [enc_size]; exact info58)) rfl ⟨rfl, HB.out⟩

set_option maxHeartbeats 8000000 in
set_option maxRecDepth 100000 in
theorem Designated_true (p : Pt) (x : Int) (c : (p.br == x) = true) (w : World) : Calls Try.prog 36 #[.agg (enc p), .int .u64 x] w fun e w' => e = .returned (.bool (p.rp == p.id)) ∧ Below w.heap.size w w' := by
  have HB := Aside0.mk (Below.refl w.heap.size w)
  go_enter Try.func36, Try.ntmps36
  go_wp2_with (first | ((with_reducible refine gate_dst (N := 2) rfl ?_); refine box_event rfl (N := 2) rfl (cs := enc p) (t := 58) (by first | (go_simp; done) | (go_simp; rfl)) ?_; intro g2 eg2 v1 Kg2 b1; have Gg2 := Aside0.mk (show w.heap.size ≤ g2 from by rw [eg2]; exact HB.out.size); replace HB := Aside0.mk (below_step HB.out b1); replace Kg2 := Aside0.mk Kg2; clear b1 eg2) | ((with_reducible refine gate_dst (N := 7) rfl ?_); refine ev_ld1 rfl _ _ rfl g2 5 rfl Kg2.out (.int .u64 p.br) Try.underlying53 rfl (enc_5 p) ?_) | ((with_reducible refine gate_dst (N := 13) rfl ?_); (refine gate_guard (by rfl) ?_; dsimp only); refine ev_ld1 rfl _ _ rfl g2 6 rfl Kg2.out (.int .u16 p.rp) Try.underlying54 rfl (enc_6 p) ?_) | ((with_reducible refine gate_dst (N := 15) rfl ?_); (refine gate_guard (by rfl) ?_; dsimp only); refine ev_ld1 rfl _ _ rfl g2 0 rfl Kg2.out (.int .u16 p.id) Try.underlying54 rfl (enc_0 p) ?_))
  go_ret
  exact ⟨rfl, HB.out⟩

set_option maxHeartbeats 8000000 in
set_option maxRecDepth 100000 in
theorem Designated_false (p : Pt) (x : Int) (c : (p.br == x) = false) (w : World) : Calls Try.prog 36 #[.agg (enc p), .int .u64 x] w fun e w' => e = .returned (.bool false) ∧ Below w.heap.size w w' := by
  have HB := Aside0.mk (Below.refl w.heap.size w)
  go_enter Try.func36, Try.ntmps36
  go_wp2_with (first | ((with_reducible refine gate_dst (N := 2) rfl ?_); refine box_event rfl (N := 2) rfl (cs := enc p) (t := 58) (by first | (go_simp; done) | (go_simp; rfl)) ?_; intro g2 eg2 v1 Kg2 b1; have Gg2 := Aside0.mk (show w.heap.size ≤ g2 from by rw [eg2]; exact HB.out.size); replace HB := Aside0.mk (below_step HB.out b1); replace Kg2 := Aside0.mk Kg2; clear b1 eg2) | ((with_reducible refine gate_dst (N := 7) rfl ?_); refine ev_ld1 rfl _ _ rfl g2 5 rfl Kg2.out (.int .u64 p.br) Try.underlying53 rfl (enc_5 p) ?_) | ((with_reducible refine gate_dst (N := 13) rfl ?_); (refine gate_guard (by rfl) ?_; dsimp only); refine ev_ld1 rfl _ _ rfl g2 6 rfl Kg2.out (.int .u16 p.rp) Try.underlying54 rfl (enc_6 p) ?_) | ((with_reducible refine gate_dst (N := 15) rfl ?_); (refine gate_guard (by rfl) ?_; dsimp only); refine ev_ld1 rfl _ _ rfl g2 0 rfl Kg2.out (.int .u16 p.id) Try.underlying54 rfl (enc_0 p) ?_))
  go_ret
  exact ⟨rfl, HB.out⟩

set_option maxHeartbeats 8000000 in
set_option maxRecDepth 100000 in
theorem Learns_3 (s : Int) (c : (s == 3) = true) (w : World) : Calls Try.prog 43 #[.int .i64 s] w fun e w' => e = .returned (.bool true) ∧ Below w.heap.size w w' := by
  go_enter Try.func43, Try.ntmps43
  go_wp2_with fail
  go_ret
  exact ⟨rfl, Below.refl _ _⟩

set_option maxHeartbeats 8000000 in
set_option maxRecDepth 100000 in
theorem Learns_n (s : Int) (c : (s == 3) = false) (w : World) : Calls Try.prog 43 #[.int .i64 s] w fun e w' => e = .returned (.bool (s == 4)) ∧ Below w.heap.size w w' := by
  go_enter Try.func43, Try.ntmps43
  go_wp2_with fail
  go_ret
  exact ⟨rfl, Below.refl _ _⟩

set_option maxHeartbeats 8000000 in
set_option maxRecDepth 100000 in
theorem Forwards_calls (s : Int) (w : World) : Calls Try.prog 44 #[.int .i64 s] w fun e w' => e = .returned (.bool (s == 4)) ∧ Below w.heap.size w w' := by
  go_enter Try.func44, Try.ntmps44
  go_wp2_with fail
  go_ret
  exact ⟨rfl, Below.refl _ _⟩

set_option maxHeartbeats 8000000 in
set_option maxRecDepth 100000 in
theorem refRise_1 (s : Int) (c : (s == 1) = true) (w : World) : Calls Try.prog 40 #[.int .i64 s] w fun e w' => e = .returned (.tuple #[.int .i64 2, .int .i64 1]) ∧ Below w.heap.size w w' := by
  go_enter Try.func40, Try.ntmps40
  go_wp2_with fail
  exact bodyPost_ret (results_tmp2 (t := 2) (u := 3) rfl _ _ _) rfl ⟨rfl, Below.refl _ _⟩

set_option maxHeartbeats 8000000 in
set_option maxRecDepth 100000 in
theorem refRise_0 (s : Int) (c : (s == 1) = false) (w : World) : Calls Try.prog 40 #[.int .i64 s] w fun e w' => e = .returned (.tuple #[.int .i64 s, .int .i64 0]) ∧ Below w.heap.size w w' := by
  go_enter Try.func40, Try.ntmps40
  go_wp2_with fail
  exact bodyPost_ret (results_tmp2 (t := 2) (u := 3) rfl _ _ _) rfl ⟨rfl, Below.refl _ _⟩

set_option maxHeartbeats 8000000 in
set_option maxRecDepth 100000 in
theorem refBlock_0 (s : Int) (c : (s == 0) = true) (w : World) : Calls Try.prog 41 #[.int .i64 s] w fun e w' => e = .returned (.tuple #[.int .i64 s, .int .i64 0, .int .i64 0]) ∧ Below w.heap.size w w' := by
  go_enter Try.func41, Try.ntmps41
  go_wp2_with fail
  exact bodyPost_ret (results_tmp3 (t := 2) (u := 3) (v := 4) rfl _ _ _) rfl ⟨rfl, Below.refl _ _⟩

set_option maxHeartbeats 8000000 in
set_option maxRecDepth 100000 in
theorem refBlock_1 (s : Int) (c : (s == 0) = false) (d : (s == 1) = true) (w : World) : Calls Try.prog 41 #[.int .i64 s] w fun e w' => e = .returned (.tuple #[.int .i64 s, .int .i64 0, .int .i64 0]) ∧ Below w.heap.size w w' := by
  go_enter Try.func41, Try.ntmps41
  go_wp2_with fail
  exact bodyPost_ret (results_tmp3 (t := 2) (u := 3) (v := 4) rfl _ _ _) rfl ⟨rfl, Below.refl _ _⟩

set_option maxHeartbeats 8000000 in
set_option maxRecDepth 100000 in
theorem refBlock_3 (s : Int) (c : (s == 0) = false) (d : (s == 1) = false) (f : (s == 3) = true) (w : World) : Calls Try.prog 41 #[.int .i64 s] w fun e w' => e = .returned (.tuple #[.int .i64 1, .int .i64 1, .int .i64 1]) ∧ Below w.heap.size w w' := by
  go_enter Try.func41, Try.ntmps41
  go_wp2_with fail
  exact bodyPost_ret (results_tmp3 (t := 2) (u := 3) (v := 4) rfl _ _ _) rfl ⟨rfl, Below.refl _ _⟩

set_option maxHeartbeats 8000000 in
set_option maxRecDepth 100000 in
theorem refBlock_4 (s : Int) (c : (s == 0) = false) (d : (s == 1) = false) (f : (s == 3) = false) (g : (s == 4) = true) (w : World) : Calls Try.prog 41 #[.int .i64 s] w fun e w' => e = .returned (.tuple #[.int .i64 1, .int .i64 1, .int .i64 1]) ∧ Below w.heap.size w w' := by
  go_enter Try.func41, Try.ntmps41
  go_wp2_with fail
  exact bodyPost_ret (results_tmp3 (t := 2) (u := 3) (v := 4) rfl _ _ _) rfl ⟨rfl, Below.refl _ _⟩

set_option maxHeartbeats 8000000 in
set_option maxRecDepth 100000 in
theorem refBlock_n (s : Int) (c : (s == 0) = false) (d : (s == 1) = false) (f : (s == 3) = false) (g : (s == 4) = false) (w : World) : Calls Try.prog 41 #[.int .i64 s] w fun e w' => e = .returned (.tuple #[.int .i64 1, .int .i64 1, .int .i64 0]) ∧ Below w.heap.size w w' := by
  go_enter Try.func41, Try.ntmps41
  go_wp2_with fail
  exact bodyPost_ret (results_tmp3 (t := 2) (u := 3) (v := 4) rfl _ _ _) rfl ⟨rfl, Below.refl _ _⟩

set_option maxHeartbeats 8000000 in
set_option maxRecDepth 100000 in
theorem refNext_2 (s : Int) (c : (s == 2) = true) (w : World) : Calls Try.prog 42 #[.int .i64 s] w fun e w' => e = .returned (.tuple #[.int .i64 3, .int .i64 1, .int .i64 0]) ∧ Below w.heap.size w w' := by
  go_enter Try.func42, Try.ntmps42
  go_wp2_with fail
  exact bodyPost_ret (results_tmp3 (t := 2) (u := 3) (v := 4) rfl _ _ _) rfl ⟨rfl, Below.refl _ _⟩

set_option maxHeartbeats 8000000 in
set_option maxRecDepth 100000 in
theorem refNext_3 (s : Int) (c : (s == 2) = false) (d : (s == 3) = true) (w : World) : Calls Try.prog 42 #[.int .i64 s] w fun e w' => e = .returned (.tuple #[.int .i64 4, .int .i64 0, .int .i64 1]) ∧ Below w.heap.size w w' := by
  go_enter Try.func42, Try.ntmps42
  go_wp2_with fail
  exact bodyPost_ret (results_tmp3 (t := 2) (u := 3) (v := 4) rfl _ _ _) rfl ⟨rfl, Below.refl _ _⟩

set_option maxHeartbeats 8000000 in
set_option maxRecDepth 100000 in
theorem refNext_0 (s : Int) (c : (s == 2) = false) (d : (s == 3) = false) (w : World) : Calls Try.prog 42 #[.int .i64 s] w fun e w' => e = .returned (.tuple #[.int .i64 s, .int .i64 0, .int .i64 0]) ∧ Below w.heap.size w w' := by
  go_enter Try.func42, Try.ntmps42
  go_wp2_with fail
  exact bodyPost_ret (results_tmp3 (t := 2) (u := 3) (v := 4) rfl _ _ _) rfl ⟨rfl, Below.refl _ _⟩

set_option maxHeartbeats 8000000 in
set_option maxRecDepth 100000 in
theorem awake_calls (w : World) : Calls Try.prog 32 #[] w fun e w' => e = .returned (.bool true) ∧ Below w.heap.size w w' := by
  have HB := Aside0.mk (Below.refl w.heap.size w)
  go_enter Try.func32, Try.ntmps32
  go_wp2_with (first | ((with_reducible refine gate_dst (N := 8) rfl ?_); refine goesL_ (some 8) rfl rfl Try.func34 (by kernel_rfl) rfl #[.int .u16 1, .int .u32 19, .bool true, .agg #[.int .u64 0, .int .u32 0, .int .u64 0, .int .u16 0]] rfl (by (try simp only [List.map_toArray, List.map_cons, List.map_nil]); first | done | rfl) ?_; refine (New_true 1 19 0 0 0 0 _).mono ?_; rintro e v1 ⟨rfl, b1⟩; refine ⟨_, rfl, ?_⟩; replace HB := Aside0.mk (below_step HB.out b1); clear b1) | ((with_reducible refine gate_dst (N := 1) rfl ?_); refine box_event rfl (N := 1) rfl (cs := #[.int .u16 0, .int .i64 0, .int .u32 0, .int .u64 0, .int .u32 0, .int .u64 0, .int .u16 0, .bool false, .bool false, .bool false, .int .i64 0, .bool false, .int .i64 0, .bool false, .int .i64 0]) (t := 58) (by first | (go_simp; done) | (go_simp; rfl)) ?_; intro g1 eg1 v2 Kg1 b2; have Gg1 := Aside0.mk (show w.heap.size ≤ g1 from by rw [eg1]; exact HB.out.size); replace HB := Aside0.mk (below_step HB.out b2); replace Kg1 := Aside0.mk Kg1; clear b2 eg1) | ((with_reducible refine gate_store (p := 1) rfl ?_); refine st58 (p := { id := 1, st := 1, cost := 19, root := 0, rcost := 0, br := 0, rp := 1, c7 := false, c8 := false, aOn := false, aV := 0, dOn := false, dV := 0, hOn := false, hV := 0 }) Kg1.out (by first | exact enc_size _ | rfl) rfl _ _ rfl rfl rfl ?_; intro v3 q3 b3; replace HB := Aside0.mk (b3.below HB.out Gg1.out HB.out.size); replace Kg1 := Aside0.mk q3; clear b3) | ((with_reducible refine gate_dst (N := 9) rfl ?_); refine ld58 Kg1.out rfl _ rfl rfl ?_) | ((with_reducible refine gate_dst (N := 10) rfl ?_); refine goesL_ (some 10) rfl rfl Try.func38 (by kernel_rfl) rfl #[.agg (enc { id := 1, st := 1, cost := 19, root := 0, rcost := 0, br := 0, rp := 1, c7 := false, c8 := false, aOn := false, aV := 0, dOn := false, dV := 0, hOn := false, hV := 0 })] rfl (by (try simp only [List.map_toArray, List.map_cons, List.map_nil]); first | done | rfl) ?_; refine (Rise_1 { id := 1, st := 1, cost := 19, root := 0, rcost := 0, br := 0, rp := 1, c7 := false, c8 := false, aOn := false, aV := 0, dOn := false, dV := 0, hOn := false, hV := 0 } rfl _).mono ?_; rintro e v4 ⟨rfl, b4⟩; refine ⟨_, rfl, ?_⟩; replace Kg1 := Aside0.mk (blk_below Kg1.out b4); replace HB := Aside0.mk (below_step HB.out b4); clear b4) | ((with_reducible refine gate_dst (N := 2) rfl ?_); refine box_event rfl (N := 2) rfl (cs := #[.int .u16 0, .int .i64 0, .int .u32 0, .int .u64 0, .int .u32 0, .int .u64 0, .int .u16 0, .bool false, .bool false, .bool false, .int .i64 0, .bool false, .int .i64 0, .bool false, .int .i64 0]) (t := 58) (by first | (go_simp; done) | (go_simp; rfl)) ?_; intro g2 eg2 v5 Kg2 b5; have Dg1_g2 := Aside0.mk (show g1 ≠ g2 from by have := blk_lt Kg1.out; omega); replace Kg1 := Aside0.mk (blk_below Kg1.out b5); have Gg2 := Aside0.mk (show w.heap.size ≤ g2 from by rw [eg2]; exact HB.out.size); replace HB := Aside0.mk (below_step HB.out b5); replace Kg2 := Aside0.mk Kg2; clear b5 eg2) | ((with_reducible refine gate_store (p := 2) rfl ?_); refine st58 (p := { id := 1, st := 2, cost := 19, root := 0, rcost := 0, br := 0, rp := 1, c7 := false, c8 := false, aOn := false, aV := 0, dOn := true, dV := 0, hOn := false, hV := 0 }) Kg2.out (by first | exact enc_size _ | rfl) rfl _ _ rfl rfl rfl ?_; intro v6 q6 b6; replace Kg1 := Aside0.mk (b6.keep Kg1.out Dg1_g2.out); replace HB := Aside0.mk (b6.below HB.out Gg2.out HB.out.size); replace Kg2 := Aside0.mk q6; clear b6) | ((with_reducible refine gate_dst (N := 12) rfl ?_); refine ld58 Kg2.out rfl _ rfl rfl ?_) | ((with_reducible refine gate_dst (N := 13) rfl ?_); refine goesL_ (some 13) rfl rfl Try.func39 (by kernel_rfl) rfl #[.agg (enc { id := 1, st := 2, cost := 19, root := 0, rcost := 0, br := 0, rp := 1, c7 := false, c8 := false, aOn := false, aV := 0, dOn := true, dV := 0, hOn := false, hV := 0 })] rfl (by (try simp only [List.map_toArray, List.map_cons, List.map_nil]); first | done | rfl) ?_; refine (Next_2 { id := 1, st := 2, cost := 19, root := 0, rcost := 0, br := 0, rp := 1, c7 := false, c8 := false, aOn := false, aV := 0, dOn := true, dV := 0, hOn := false, hV := 0 } rfl _).mono ?_; rintro e v7 ⟨rfl, b7⟩; refine ⟨_, rfl, ?_⟩; replace Kg1 := Aside0.mk (blk_below Kg1.out b7); replace Kg2 := Aside0.mk (blk_below Kg2.out b7); replace HB := Aside0.mk (below_step HB.out b7); clear b7) | ((with_reducible refine gate_dst (N := 3) rfl ?_); refine box_event rfl (N := 3) rfl (cs := #[.int .u16 0, .int .i64 0, .int .u32 0, .int .u64 0, .int .u32 0, .int .u64 0, .int .u16 0, .bool false, .bool false, .bool false, .int .i64 0, .bool false, .int .i64 0, .bool false, .int .i64 0]) (t := 58) (by first | (go_simp; done) | (go_simp; rfl)) ?_; intro g3 eg3 v8 Kg3 b8; have Dg1_g3 := Aside0.mk (show g1 ≠ g3 from by have := blk_lt Kg1.out; omega); replace Kg1 := Aside0.mk (blk_below Kg1.out b8); have Dg2_g3 := Aside0.mk (show g2 ≠ g3 from by have := blk_lt Kg2.out; omega); replace Kg2 := Aside0.mk (blk_below Kg2.out b8); have Gg3 := Aside0.mk (show w.heap.size ≤ g3 from by rw [eg3]; exact HB.out.size); replace HB := Aside0.mk (below_step HB.out b8); replace Kg3 := Aside0.mk Kg3; clear b8 eg3) | ((with_reducible refine gate_store (p := 3) rfl ?_); refine st58 (p := { id := 1, st := 3, cost := 19, root := 0, rcost := 0, br := 0, rp := 1, c7 := false, c8 := false, aOn := false, aV := 0, dOn := true, dV := 0, hOn := false, hV := 0 }) Kg3.out (by first | exact enc_size _ | rfl) rfl _ _ rfl rfl rfl ?_; intro v9 q9 b9; replace Kg1 := Aside0.mk (b9.keep Kg1.out Dg1_g3.out); replace Kg2 := Aside0.mk (b9.keep Kg2.out Dg2_g3.out); replace HB := Aside0.mk (b9.below HB.out Gg3.out HB.out.size); replace Kg3 := Aside0.mk q9; clear b9) | ((with_reducible refine gate_dst (N := 17) rfl ?_); refine ld58 Kg3.out rfl _ rfl rfl ?_) | ((with_reducible refine gate_dst (N := 18) rfl ?_); refine goesL_ (some 18) rfl rfl Try.func39 (by kernel_rfl) rfl #[.agg (enc { id := 1, st := 3, cost := 19, root := 0, rcost := 0, br := 0, rp := 1, c7 := false, c8 := false, aOn := false, aV := 0, dOn := true, dV := 0, hOn := false, hV := 0 })] rfl (by (try simp only [List.map_toArray, List.map_cons, List.map_nil]); first | done | rfl) ?_; refine (Next_3 { id := 1, st := 3, cost := 19, root := 0, rcost := 0, br := 0, rp := 1, c7 := false, c8 := false, aOn := false, aV := 0, dOn := true, dV := 0, hOn := false, hV := 0 } rfl _).mono ?_; rintro e v10 ⟨rfl, b10⟩; refine ⟨_, rfl, ?_⟩; replace Kg1 := Aside0.mk (blk_below Kg1.out b10); replace Kg2 := Aside0.mk (blk_below Kg2.out b10); replace Kg3 := Aside0.mk (blk_below Kg3.out b10); replace HB := Aside0.mk (below_step HB.out b10); clear b10) | ((with_reducible refine gate_dst (N := 5) rfl ?_); refine box_event rfl (N := 5) rfl (cs := #[.int .u16 0, .int .i64 0, .int .u32 0, .int .u64 0, .int .u32 0, .int .u64 0, .int .u16 0, .bool false, .bool false, .bool false, .int .i64 0, .bool false, .int .i64 0, .bool false, .int .i64 0]) (t := 58) (by first | (go_simp; done) | (go_simp; rfl)) ?_; intro g5 eg5 v11 Kg5 b11; have Dg1_g5 := Aside0.mk (show g1 ≠ g5 from by have := blk_lt Kg1.out; omega); replace Kg1 := Aside0.mk (blk_below Kg1.out b11); have Dg2_g5 := Aside0.mk (show g2 ≠ g5 from by have := blk_lt Kg2.out; omega); replace Kg2 := Aside0.mk (blk_below Kg2.out b11); have Dg3_g5 := Aside0.mk (show g3 ≠ g5 from by have := blk_lt Kg3.out; omega); replace Kg3 := Aside0.mk (blk_below Kg3.out b11); have Gg5 := Aside0.mk (show w.heap.size ≤ g5 from by rw [eg5]; exact HB.out.size); replace HB := Aside0.mk (below_step HB.out b11); replace Kg5 := Aside0.mk Kg5; clear b11 eg5) | ((with_reducible refine gate_store (p := 5) rfl ?_); refine st58 (p := { id := 1, st := 4, cost := 19, root := 0, rcost := 0, br := 0, rp := 1, c7 := false, c8 := false, aOn := false, aV := 0, dOn := true, dV := 0, hOn := false, hV := 0 }) Kg5.out (by first | exact enc_size _ | rfl) rfl _ _ rfl rfl rfl ?_; intro v12 q12 b12; replace Kg1 := Aside0.mk (b12.keep Kg1.out Dg1_g5.out); replace Kg2 := Aside0.mk (b12.keep Kg2.out Dg2_g5.out); replace Kg3 := Aside0.mk (b12.keep Kg3.out Dg3_g5.out); replace HB := Aside0.mk (b12.below HB.out Gg5.out HB.out.size); replace Kg5 := Aside0.mk q12; clear b12) | ((with_reducible refine gate_dst (N := 22) rfl ?_); refine ev_ld1 rfl _ _ rfl g1 1 rfl Kg1.out (.int .i64 1) Try.underlying3 rfl (enc_1 _) ?_) | ((with_reducible refine gate_dst (N := 26) rfl ?_); (refine gate_guard (by rfl) ?_; dsimp only); refine ev_ld1 rfl _ _ rfl g2 1 rfl Kg2.out (.int .i64 2) Try.underlying3 rfl (enc_1 _) ?_) | ((with_reducible refine gate_dst (N := 35) rfl ?_); (refine gate_guard (by rfl) ?_; dsimp only); refine ev_ld1 rfl _ _ rfl g5 1 rfl Kg5.out (.int .i64 4) Try.underlying3 rfl (enc_1 _) ?_))
  go_ret
  exact ⟨rfl, HB.out⟩

set_option maxHeartbeats 8000000 in
set_option maxRecDepth 100000 in
theorem fits_l0 (p : Pt) (c0 : decide (p.aV < 0) = true) (w : World) : Calls Try.prog 33 #[.agg (enc p)] w fun e w' => e = .returned (.bool false) ∧ Below w.heap.size w w' := by
  have HB := Aside0.mk (Below.refl w.heap.size w)
  go_enter Try.func33, Try.ntmps33
  go_wp2_with (first | ((with_reducible refine gate_dst (N := 1) rfl ?_); refine box_event rfl (N := 1) rfl (cs := enc p) (t := 58) (by first | (go_simp; done) | (go_simp; rfl)) ?_; intro g1 eg1 v1 Kg1 b1; have Gg1 := Aside0.mk (show w.heap.size ≤ g1 from by rw [eg1]; exact HB.out.size); replace HB := Aside0.mk (below_step HB.out b1); replace Kg1 := Aside0.mk Kg1; clear b1 eg1) | ((with_reducible refine gate_dst (N := 6) rfl ?_); refine ev_ld rfl _ _ rfl g1 9 rfl Kg1.out #[.bool p.aOn, .int .i64 p.aV] Try.underlying39 rfl info39 (enc_tm9 p) ?_) | ((with_reducible refine gate_dst (N := 8) rfl ?_); refine ev_ld rfl _ _ rfl g1 11 rfl Kg1.out #[.bool p.dOn, .int .i64 p.dV] Try.underlying39 rfl info39 (enc_tm11 p) ?_) | ((with_reducible refine gate_dst (N := 10) rfl ?_); refine ev_ld rfl _ _ rfl g1 13 rfl Kg1.out #[.bool p.hOn, .int .i64 p.hV] Try.underlying39 rfl info39 (enc_tm13 p) ?_))
  refine wp_loop_rounds 4 ?_
  repeat any_goals (rw [rounds_succ]; go_wp2)
  go_ret
  refine ⟨rfl, ?_⟩
  repeat (first | exact HB.out | apply below_alloc | refine below_set ?_ (by simp))

set_option maxHeartbeats 8000000 in
set_option maxRecDepth 100000 in
theorem fits_g0 (p : Pt) (c0 : decide (p.aV < 0) = false) (c1 : decide (1073741824 < p.aV) = true) (w : World) : Calls Try.prog 33 #[.agg (enc p)] w fun e w' => e = .returned (.bool false) ∧ Below w.heap.size w w' := by
  have HB := Aside0.mk (Below.refl w.heap.size w)
  go_enter Try.func33, Try.ntmps33
  go_wp2_with (first | ((with_reducible refine gate_dst (N := 1) rfl ?_); refine box_event rfl (N := 1) rfl (cs := enc p) (t := 58) (by first | (go_simp; done) | (go_simp; rfl)) ?_; intro g1 eg1 v1 Kg1 b1; have Gg1 := Aside0.mk (show w.heap.size ≤ g1 from by rw [eg1]; exact HB.out.size); replace HB := Aside0.mk (below_step HB.out b1); replace Kg1 := Aside0.mk Kg1; clear b1 eg1) | ((with_reducible refine gate_dst (N := 6) rfl ?_); refine ev_ld rfl _ _ rfl g1 9 rfl Kg1.out #[.bool p.aOn, .int .i64 p.aV] Try.underlying39 rfl info39 (enc_tm9 p) ?_) | ((with_reducible refine gate_dst (N := 8) rfl ?_); refine ev_ld rfl _ _ rfl g1 11 rfl Kg1.out #[.bool p.dOn, .int .i64 p.dV] Try.underlying39 rfl info39 (enc_tm11 p) ?_) | ((with_reducible refine gate_dst (N := 10) rfl ?_); refine ev_ld rfl _ _ rfl g1 13 rfl Kg1.out #[.bool p.hOn, .int .i64 p.hV] Try.underlying39 rfl info39 (enc_tm13 p) ?_))
  refine wp_loop_rounds 4 ?_
  repeat any_goals (rw [rounds_succ]; go_wp2)
  go_ret
  refine ⟨rfl, ?_⟩
  repeat (first | exact HB.out | apply below_alloc | refine below_set ?_ (by simp))

set_option maxHeartbeats 8000000 in
set_option maxRecDepth 100000 in
theorem fits_l1 (p : Pt) (c0 : decide (p.aV < 0) = false) (c1 : decide (1073741824 < p.aV) = false) (c2 : decide (p.dV < 0) = true) (w : World) : Calls Try.prog 33 #[.agg (enc p)] w fun e w' => e = .returned (.bool false) ∧ Below w.heap.size w w' := by
  have HB := Aside0.mk (Below.refl w.heap.size w)
  go_enter Try.func33, Try.ntmps33
  go_wp2_with (first | ((with_reducible refine gate_dst (N := 1) rfl ?_); refine box_event rfl (N := 1) rfl (cs := enc p) (t := 58) (by first | (go_simp; done) | (go_simp; rfl)) ?_; intro g1 eg1 v1 Kg1 b1; have Gg1 := Aside0.mk (show w.heap.size ≤ g1 from by rw [eg1]; exact HB.out.size); replace HB := Aside0.mk (below_step HB.out b1); replace Kg1 := Aside0.mk Kg1; clear b1 eg1) | ((with_reducible refine gate_dst (N := 6) rfl ?_); refine ev_ld rfl _ _ rfl g1 9 rfl Kg1.out #[.bool p.aOn, .int .i64 p.aV] Try.underlying39 rfl info39 (enc_tm9 p) ?_) | ((with_reducible refine gate_dst (N := 8) rfl ?_); refine ev_ld rfl _ _ rfl g1 11 rfl Kg1.out #[.bool p.dOn, .int .i64 p.dV] Try.underlying39 rfl info39 (enc_tm11 p) ?_) | ((with_reducible refine gate_dst (N := 10) rfl ?_); refine ev_ld rfl _ _ rfl g1 13 rfl Kg1.out #[.bool p.hOn, .int .i64 p.hV] Try.underlying39 rfl info39 (enc_tm13 p) ?_))
  refine wp_loop_rounds 4 ?_
  repeat any_goals (rw [rounds_succ]; go_wp2)
  go_ret
  refine ⟨rfl, ?_⟩
  repeat (first | exact HB.out | apply below_alloc | refine below_set ?_ (by simp))

set_option maxHeartbeats 8000000 in
set_option maxRecDepth 100000 in
theorem fits_g1 (p : Pt) (c0 : decide (p.aV < 0) = false) (c1 : decide (1073741824 < p.aV) = false) (c2 : decide (p.dV < 0) = false) (c3 : decide (1073741824 < p.dV) = true) (w : World) : Calls Try.prog 33 #[.agg (enc p)] w fun e w' => e = .returned (.bool false) ∧ Below w.heap.size w w' := by
  have HB := Aside0.mk (Below.refl w.heap.size w)
  go_enter Try.func33, Try.ntmps33
  go_wp2_with (first | ((with_reducible refine gate_dst (N := 1) rfl ?_); refine box_event rfl (N := 1) rfl (cs := enc p) (t := 58) (by first | (go_simp; done) | (go_simp; rfl)) ?_; intro g1 eg1 v1 Kg1 b1; have Gg1 := Aside0.mk (show w.heap.size ≤ g1 from by rw [eg1]; exact HB.out.size); replace HB := Aside0.mk (below_step HB.out b1); replace Kg1 := Aside0.mk Kg1; clear b1 eg1) | ((with_reducible refine gate_dst (N := 6) rfl ?_); refine ev_ld rfl _ _ rfl g1 9 rfl Kg1.out #[.bool p.aOn, .int .i64 p.aV] Try.underlying39 rfl info39 (enc_tm9 p) ?_) | ((with_reducible refine gate_dst (N := 8) rfl ?_); refine ev_ld rfl _ _ rfl g1 11 rfl Kg1.out #[.bool p.dOn, .int .i64 p.dV] Try.underlying39 rfl info39 (enc_tm11 p) ?_) | ((with_reducible refine gate_dst (N := 10) rfl ?_); refine ev_ld rfl _ _ rfl g1 13 rfl Kg1.out #[.bool p.hOn, .int .i64 p.hV] Try.underlying39 rfl info39 (enc_tm13 p) ?_))
  refine wp_loop_rounds 4 ?_
  repeat any_goals (rw [rounds_succ]; go_wp2)
  go_ret
  refine ⟨rfl, ?_⟩
  repeat (first | exact HB.out | apply below_alloc | refine below_set ?_ (by simp))

set_option maxHeartbeats 8000000 in
set_option maxRecDepth 100000 in
theorem fits_l2 (p : Pt) (c0 : decide (p.aV < 0) = false) (c1 : decide (1073741824 < p.aV) = false) (c2 : decide (p.dV < 0) = false) (c3 : decide (1073741824 < p.dV) = false) (c4 : decide (p.hV < 0) = true) (w : World) : Calls Try.prog 33 #[.agg (enc p)] w fun e w' => e = .returned (.bool false) ∧ Below w.heap.size w w' := by
  have HB := Aside0.mk (Below.refl w.heap.size w)
  go_enter Try.func33, Try.ntmps33
  go_wp2_with (first | ((with_reducible refine gate_dst (N := 1) rfl ?_); refine box_event rfl (N := 1) rfl (cs := enc p) (t := 58) (by first | (go_simp; done) | (go_simp; rfl)) ?_; intro g1 eg1 v1 Kg1 b1; have Gg1 := Aside0.mk (show w.heap.size ≤ g1 from by rw [eg1]; exact HB.out.size); replace HB := Aside0.mk (below_step HB.out b1); replace Kg1 := Aside0.mk Kg1; clear b1 eg1) | ((with_reducible refine gate_dst (N := 6) rfl ?_); refine ev_ld rfl _ _ rfl g1 9 rfl Kg1.out #[.bool p.aOn, .int .i64 p.aV] Try.underlying39 rfl info39 (enc_tm9 p) ?_) | ((with_reducible refine gate_dst (N := 8) rfl ?_); refine ev_ld rfl _ _ rfl g1 11 rfl Kg1.out #[.bool p.dOn, .int .i64 p.dV] Try.underlying39 rfl info39 (enc_tm11 p) ?_) | ((with_reducible refine gate_dst (N := 10) rfl ?_); refine ev_ld rfl _ _ rfl g1 13 rfl Kg1.out #[.bool p.hOn, .int .i64 p.hV] Try.underlying39 rfl info39 (enc_tm13 p) ?_))
  refine wp_loop_rounds 4 ?_
  repeat any_goals (rw [rounds_succ]; go_wp2)
  go_ret
  refine ⟨rfl, ?_⟩
  repeat (first | exact HB.out | apply below_alloc | refine below_set ?_ (by simp))

set_option maxHeartbeats 8000000 in
set_option maxRecDepth 100000 in
theorem fits_g2 (p : Pt) (c0 : decide (p.aV < 0) = false) (c1 : decide (1073741824 < p.aV) = false) (c2 : decide (p.dV < 0) = false) (c3 : decide (1073741824 < p.dV) = false) (c4 : decide (p.hV < 0) = false) (c5 : decide (1073741824 < p.hV) = true) (w : World) : Calls Try.prog 33 #[.agg (enc p)] w fun e w' => e = .returned (.bool false) ∧ Below w.heap.size w w' := by
  have HB := Aside0.mk (Below.refl w.heap.size w)
  go_enter Try.func33, Try.ntmps33
  go_wp2_with (first | ((with_reducible refine gate_dst (N := 1) rfl ?_); refine box_event rfl (N := 1) rfl (cs := enc p) (t := 58) (by first | (go_simp; done) | (go_simp; rfl)) ?_; intro g1 eg1 v1 Kg1 b1; have Gg1 := Aside0.mk (show w.heap.size ≤ g1 from by rw [eg1]; exact HB.out.size); replace HB := Aside0.mk (below_step HB.out b1); replace Kg1 := Aside0.mk Kg1; clear b1 eg1) | ((with_reducible refine gate_dst (N := 6) rfl ?_); refine ev_ld rfl _ _ rfl g1 9 rfl Kg1.out #[.bool p.aOn, .int .i64 p.aV] Try.underlying39 rfl info39 (enc_tm9 p) ?_) | ((with_reducible refine gate_dst (N := 8) rfl ?_); refine ev_ld rfl _ _ rfl g1 11 rfl Kg1.out #[.bool p.dOn, .int .i64 p.dV] Try.underlying39 rfl info39 (enc_tm11 p) ?_) | ((with_reducible refine gate_dst (N := 10) rfl ?_); refine ev_ld rfl _ _ rfl g1 13 rfl Kg1.out #[.bool p.hOn, .int .i64 p.hV] Try.underlying39 rfl info39 (enc_tm13 p) ?_))
  refine wp_loop_rounds 4 ?_
  repeat any_goals (rw [rounds_succ]; go_wp2)
  go_ret
  refine ⟨rfl, ?_⟩
  repeat (first | exact HB.out | apply below_alloc | refine below_set ?_ (by simp))

set_option maxHeartbeats 8000000 in
set_option maxRecDepth 100000 in
theorem fits_ok (p : Pt) (c0 : decide (p.aV < 0) = false) (c1 : decide (1073741824 < p.aV) = false) (c2 : decide (p.dV < 0) = false) (c3 : decide (1073741824 < p.dV) = false) (c4 : decide (p.hV < 0) = false) (c5 : decide (1073741824 < p.hV) = false) (w : World) : Calls Try.prog 33 #[.agg (enc p)] w fun e w' => e = .returned (.bool true) ∧ Below w.heap.size w w' := by
  have HB := Aside0.mk (Below.refl w.heap.size w)
  go_enter Try.func33, Try.ntmps33
  go_wp2_with (first | ((with_reducible refine gate_dst (N := 1) rfl ?_); refine box_event rfl (N := 1) rfl (cs := enc p) (t := 58) (by first | (go_simp; done) | (go_simp; rfl)) ?_; intro g1 eg1 v1 Kg1 b1; have Gg1 := Aside0.mk (show w.heap.size ≤ g1 from by rw [eg1]; exact HB.out.size); replace HB := Aside0.mk (below_step HB.out b1); replace Kg1 := Aside0.mk Kg1; clear b1 eg1) | ((with_reducible refine gate_dst (N := 6) rfl ?_); refine ev_ld rfl _ _ rfl g1 9 rfl Kg1.out #[.bool p.aOn, .int .i64 p.aV] Try.underlying39 rfl info39 (enc_tm9 p) ?_) | ((with_reducible refine gate_dst (N := 8) rfl ?_); refine ev_ld rfl _ _ rfl g1 11 rfl Kg1.out #[.bool p.dOn, .int .i64 p.dV] Try.underlying39 rfl info39 (enc_tm11 p) ?_) | ((with_reducible refine gate_dst (N := 10) rfl ?_); refine ev_ld rfl _ _ rfl g1 13 rfl Kg1.out #[.bool p.hOn, .int .i64 p.hV] Try.underlying39 rfl info39 (enc_tm13 p) ?_))
  refine wp_loop_rounds 4 ?_
  repeat any_goals (rw [rounds_succ]; go_wp2)
  go_ret
  refine ⟨rfl, ?_⟩
  repeat (first | exact HB.out | apply below_alloc | refine below_set ?_ (by simp))

theorem fits_calls (p : Pt) : ∃ r, ∀ w, Calls Try.prog 33 #[.agg (enc p)] w fun e w' => e = .returned (.bool r) ∧ Below w.heap.size w w' := by
  cases h0 : decide (p.aV < 0) with
  | true => exact ⟨_, fun w => fits_l0 p h0 w⟩
  | false =>
    cases h1 : decide (1073741824 < p.aV) with
    | true => exact ⟨_, fun w => fits_g0 p h0 h1 w⟩
    | false =>
      cases h2 : decide (p.dV < 0) with
      | true => exact ⟨_, fun w => fits_l1 p h0 h1 h2 w⟩
      | false =>
        cases h3 : decide (1073741824 < p.dV) with
        | true => exact ⟨_, fun w => fits_g1 p h0 h1 h2 h3 w⟩
        | false =>
          cases h4 : decide (p.hV < 0) with
          | true => exact ⟨_, fun w => fits_l2 p h0 h1 h2 h3 h4 w⟩
          | false =>
            cases h5 : decide (1073741824 < p.hV) with
            | true => exact ⟨_, fun w => fits_g2 p h0 h1 h2 h3 h4 h5 w⟩
            | false =>
              exact ⟨_, fun w => fits_ok p h0 h1 h2 h3 h4 h5 w⟩

theorem encL_0 (p : Pt) : (enc p)[0]? = some (.int .u16 p.id) := by unfold enc; rfl
theorem encL_1 (p : Pt) : (enc p)[1]? = some (.int .i64 p.st) := by unfold enc; rfl
theorem encL_2 (p : Pt) : (enc p)[2]? = some (.int .u32 p.cost) := by unfold enc; rfl
theorem encL_3 (p : Pt) : (enc p)[3]? = some (.int .u64 p.root) := by unfold enc; rfl
theorem encL_4 (p : Pt) : (enc p)[4]? = some (.int .u32 p.rcost) := by unfold enc; rfl
theorem encL_5 (p : Pt) : (enc p)[5]? = some (.int .u64 p.br) := by unfold enc; rfl
theorem encL_6 (p : Pt) : (enc p)[6]? = some (.int .u16 p.rp) := by unfold enc; rfl
theorem encL_7 (p : Pt) : (enc p)[7]? = some (.bool p.c7) := by unfold enc; rfl
theorem encL_8 (p : Pt) : (enc p)[8]? = some (.bool p.c8) := by unfold enc; rfl
theorem encL_9 (p : Pt) : (enc p)[9]? = some (.bool p.aOn) := by unfold enc; rfl
theorem encL_10 (p : Pt) : (enc p)[10]? = some (.int .i64 p.aV) := by unfold enc; rfl
theorem encL_11 (p : Pt) : (enc p)[11]? = some (.bool p.dOn) := by unfold enc; rfl
theorem encL_12 (p : Pt) : (enc p)[12]? = some (.int .i64 p.dV) := by unfold enc; rfl
theorem encL_13 (p : Pt) : (enc p)[13]? = some (.bool p.hOn) := by unfold enc; rfl
theorem encL_14 (p : Pt) : (enc p)[14]? = some (.int .i64 p.hV) := by unfold enc; rfl
theorem Designated_lit_true (p : Pt) (x : Int) (c : (p.br == x) = true) (w : World) : Calls Try.prog 36 #[.agg #[.int .u16 p.id, .int .i64 p.st, .int .u32 p.cost, .int .u64 p.root, .int .u32 p.rcost, .int .u64 p.br, .int .u16 p.rp, .bool p.c7, .bool p.c8, .bool p.aOn, .int .i64 p.aV, .bool p.dOn, .int .i64 p.dV, .bool p.hOn, .int .i64 p.hV], .int .u64 x] w fun e w' => e = .returned (.bool (p.rp == p.id)) ∧ Below w.heap.size w w' := by
  have h := Designated_true p x c w
  unfold enc at h
  exact h

theorem Designated_lit_false (p : Pt) (x : Int) (c : (p.br == x) = false) (w : World) : Calls Try.prog 36 #[.agg #[.int .u16 p.id, .int .i64 p.st, .int .u32 p.cost, .int .u64 p.root, .int .u32 p.rcost, .int .u64 p.br, .int .u16 p.rp, .bool p.c7, .bool p.c8, .bool p.aOn, .int .i64 p.aV, .bool p.dOn, .int .i64 p.dV, .bool p.hOn, .int .i64 p.hV], .int .u64 x] w fun e w' => e = .returned (.bool false) ∧ Below w.heap.size w w' := by
  have h := Designated_false p x c w
  unfold enc at h
  exact h

end Go.Proofs.Ytfdjlempllmelaa.Port
