/- For all arguments the law PortHolds answers true: a new port, and one whose bridge's telling is its LAN's, hold that, with their own number. -/
import Derived.Test.YtfdjlempllmelaaPort
import Derived.Test.YtfdjlempllmelaaAr
import Derived.Test.YtfdjlempllmelaaShapePortHolds
import Derived.Deep.RegionHeld3
import Derived.Deep.QuietTactic
import Derived.BigQuiet
namespace Go.Proofs.Ytfdjlempllmelaa.Pure
open Go.Proofs.Ytfdjlempllmelaa.Port Go.Proofs.Ytfdjlempllmelaa.PPortHolds Go.Proofs.Ytfdjlempllmelaa.Ar
open Go.RowKit Go.Proofs.YtfdjlempllmelaaW.PrintWords Go.Proofs.YtfdjlempllmelaaW.PrintLast Go.Proofs.YtfdjlempllmelaaW.PrintMore
set_option linter.unusedVariables false
set_option linter.unusedSimpArgs false
attribute [local go_sem high] eqE
/-- One, two, three ports in memory, and nothing else changed: what holds all along a region that draws. -/
structure B1 (w : World) (g1 : Nat) (c1 : Array Value) (W : World) : Prop where
  k1 : W.heap[g1]? = some (.cells c1 58 (0, 0))
  below : Below w.heap.size w W
structure B2 (w : World) (g1 g2 : Nat) (c1 c2 : Array Value) (W : World) : Prop where
  k1 : W.heap[g1]? = some (.cells c1 58 (0, 0))
  k2 : W.heap[g2]? = some (.cells c2 58 (0, 0))
  below : Below w.heap.size w W
structure B3 (w : World) (g1 g2 g3 : Nat) (c1 c2 c3 : Array Value) (W : World) : Prop where
  k1 : W.heap[g1]? = some (.cells c1 58 (0, 0))
  k2 : W.heap[g2]? = some (.cells c2 58 (0, 0))
  k3 : W.heap[g3]? = some (.cells c3 58 (0, 0))
  below : Below w.heap.size w W
theorem B1.step {w : World} {g1 : Nat} {c1 : Array Value} {W W' : World} (h : B1 w g1 c1 W) (hb : Below W.heap.size W W') : B1 w g1 c1 W' := ⟨blk_below h.k1 hb, below_step h.below hb⟩
theorem B2.step {w : World} {g1 g2 : Nat} {c1 c2 : Array Value} {W W' : World} (h : B2 w g1 g2 c1 c2 W) (hb : Below W.heap.size W W') : B2 w g1 g2 c1 c2 W' := ⟨blk_below h.k1 hb, blk_below h.k2 hb, below_step h.below hb⟩
theorem B3.step {w : World} {g1 g2 g3 : Nat} {c1 c2 c3 : Array Value} {W W' : World} (h : B3 w g1 g2 g3 c1 c2 c3 W) (hb : Below W.heap.size W W') : B3 w g1 g2 g3 c1 c2 c3 W' := ⟨blk_below h.k1 hb, blk_below h.k2 hb, blk_below h.k3 hb, below_step h.below hb⟩
theorem drewB (W : World) : Below W.heap.size W W.drew := below_drew (Below.refl _ _)
theorem startB {P : Program} {ops : Array Oper} {Q : Exit → Act → World → Prop} {W : World} {S : World → Prop} (hS : S W.drew) (ds : List Nat) {id n : Nat} {a : Act} (lits : Array Bool) (hm : P.follows .mixedOrders = true) (hn : ops.size = n) (hl : Array.replicate n false = lits)
    (h : S W.drew → wpAnyLast P .any ops Q S ds n lits a W.drew) : (Code.region id ops true).wp P Q a W := start_ (S := S) (ds := ds) lits hm hn hl hS h
section
variable {o : Oper} {a : Act} {W : World}
theorem run_ldN {g i : Nat} {cs : Array Value} {t : TypeId} (K : W.heap[g]? = some (.cells cs t (0, 0))) (ty : TypeId) (x : Operand) (ho : o.op = .load ty x) (hx : a.eval x = .pointer (some ⟨g, i, none⟩)) (v : Array Value) {d : TypeDesc}
    (hu : Try.prog.underlying ty = some d) (hd : d.isRow = true) (hi : (Try.prog.info? ty).map (·.size) = some v.size) (hv : ∀ j u, v[j]? = some u → cs[i + j]? = some u) : (execOp a.eval o).run Try.prog W = .ok (.value (.agg v)) W := by
  have hr := run_loadVar_mid (P := Try.prog) W g i ty v.toList d (fun j u hj => (cell_of_row W g (i + j) cs t _ K).trans (hv j u (by simpa using hj))) hu hd (by simpa using hi)
  unfold execOp
  simp [ho, hx, Instr.loadAt, Instr.sureAddr, hr]
theorem run_ld58 {g : Nat} {p : Pt} (K : W.heap[g]? = some (.cells (enc p) 58 (0, 0))) (x : Operand) (ho : o.op = .load 58 x) (hx : a.eval x = .pointer (some ⟨g, 0, none⟩)) : (execOp a.eval o).run Try.prog W = .ok (.value (.agg (enc p))) W :=
  run_ldN K 58 x ho hx (enc p) Try.underlying58 rfl (by rw [enc_size]; exact info58) (fun j u hj => by simpa using hj)
theorem run_ld1 {g i : Nat} {cs : Array Value} {t : TypeId} (K : W.heap[g]? = some (.cells cs t (0, 0))) (ty : TypeId) (x : Operand) (ho : o.op = .load ty x) (hx : a.eval x = .pointer (some ⟨g, i, none⟩)) {u : Value} {d : TypeDesc}
    (hu : Try.prog.underlying ty = some d) (hd : d.isRow = false) (hv : cs[i]? = some u) : (execOp a.eval o).run Try.prog W = .ok (.value u) W := by
  have hc : W.cell? ⟨g, i, none⟩ = some u := (cell_of_row W g i cs t _ K).trans hv
  have hagg : (isAgg ty).run Try.prog W = .ok false W := by
    unfold isAgg
    rw [Sem.run_bind, run_underlying hu W]
    cases d <;> simp_all [TypeDesc.isRow]
  unfold execOp
  simp [ho, hx, Instr.loadAt, Instr.sureAddr, loadVar, hagg, hc]
end
set_option maxHeartbeats 8000000 in
set_option maxRecDepth 100000 in
theorem Holds_bad_true (p : Pt) (id cost r rc b q x : Int) (F : ∀ w, Calls Try.prog 33 #[.agg (enc p)] w fun e w' => e = .returned (.bool false) ∧ Below w.heap.size w w') (w : World) : Calls Try.prog 11 #[.int .u16 id, .int .u32 cost, .bool true, .agg #[.int .u64 r, .int .u32 rc, .int .u64 b, .int .u16 q], .agg (enc p), .int .u64 x] w fun e w' => e = .returned (.bool true) ∧ Below w.heap.size w w' := by
  have HB := Aside0.mk (Below.refl w.heap.size w)
  go_enter Try.func11, Try.ntmps11
  go_wp2_with (first | ((with_reducible refine gate_dst (N := 9) rfl ?_); refine box_event rfl (N := 9) rfl (cs := #[.int .u64 r, .int .u32 rc, .int .u64 b, .int .u16 q]) (t := 56) (by first | (go_simp; done) | (go_simp; rfl)) ?_; intro g9 eg9 v1 Kg9 b1; have Gg9 := Aside0.mk (show w.heap.size ≤ g9 from by rw [eg9]; exact HB.out.size); replace HB := Aside0.mk (below_step HB.out b1); replace Kg9 := Aside0.mk Kg9; clear b1 eg9) | ((with_reducible refine gate_dst (N := 10) rfl ?_); refine box_event rfl (N := 10) rfl (cs := enc p) (t := 58) (by first | (go_simp; done) | (go_simp; rfl)) ?_; intro g10 eg10 v2 Kg10 b2; have Dg9_g10 := Aside0.mk (show g9 ≠ g10 from by have := blk_lt Kg9.out; omega); replace Kg9 := Aside0.mk (blk_below Kg9.out b2); have Gg10 := Aside0.mk (show w.heap.size ≤ g10 from by rw [eg10]; exact HB.out.size); replace HB := Aside0.mk (below_step HB.out b2); replace Kg10 := Aside0.mk Kg10; clear b2 eg10) | ((with_reducible refine gate_dst (N := 18) rfl ?_); refine goesL_ (some 18) rfl rfl Try.func32 (by kernel_rfl) rfl #[] rfl (by (try simp only [List.map_toArray, List.map_cons, List.map_nil]); first | done | rfl) ?_; refine (awake_calls _).mono ?_; rintro e v3 ⟨rfl, b3⟩; refine ⟨_, rfl, ?_⟩; replace Kg9 := Aside0.mk (blk_below Kg9.out b3); replace Kg10 := Aside0.mk (blk_below Kg10.out b3); replace HB := Aside0.mk (below_step HB.out b3); clear b3) | ((with_reducible refine gate_dst (N := 21) rfl ?_); (refine gate_guard (by rfl) ?_; dsimp only); refine ld58 Kg10.out rfl _ rfl rfl ?_) | (go_at_call 33; refine (F _).mono ?_; rintro e v4 ⟨rfl, b4⟩; replace Kg9 := Aside0.mk (blk_below Kg9.out b4); replace Kg10 := Aside0.mk (blk_below Kg10.out b4); replace HB := Aside0.mk (below_step HB.out b4); clear b4) | ((with_reducible refine gate_dst (N := 25) rfl ?_); refine goesL_ (some 25) rfl rfl Try.func32 (by kernel_rfl) rfl #[] rfl (by (try simp only [List.map_toArray, List.map_cons, List.map_nil]); first | done | rfl) ?_; refine (awake_calls _).mono ?_; rintro e v5 ⟨rfl, b5⟩; refine ⟨_, rfl, ?_⟩; replace Kg9 := Aside0.mk (blk_below Kg9.out b5); replace Kg10 := Aside0.mk (blk_below Kg10.out b5); replace HB := Aside0.mk (below_step HB.out b5); clear b5))
  go_ret
  exact ⟨rfl, HB.out⟩

set_option maxHeartbeats 8000000 in
set_option maxRecDepth 100000 in
theorem Holds_bad_false (p : Pt) (id cost r rc b q x : Int) (F : ∀ w, Calls Try.prog 33 #[.agg (enc p)] w fun e w' => e = .returned (.bool false) ∧ Below w.heap.size w w') (w : World) : Calls Try.prog 11 #[.int .u16 id, .int .u32 cost, .bool false, .agg #[.int .u64 r, .int .u32 rc, .int .u64 b, .int .u16 q], .agg (enc p), .int .u64 x] w fun e w' => e = .returned (.bool true) ∧ Below w.heap.size w w' := by
  have HB := Aside0.mk (Below.refl w.heap.size w)
  go_enter Try.func11, Try.ntmps11
  go_wp2_with (first | ((with_reducible refine gate_dst (N := 9) rfl ?_); refine box_event rfl (N := 9) rfl (cs := #[.int .u64 r, .int .u32 rc, .int .u64 b, .int .u16 q]) (t := 56) (by first | (go_simp; done) | (go_simp; rfl)) ?_; intro g9 eg9 v1 Kg9 b1; have Gg9 := Aside0.mk (show w.heap.size ≤ g9 from by rw [eg9]; exact HB.out.size); replace HB := Aside0.mk (below_step HB.out b1); replace Kg9 := Aside0.mk Kg9; clear b1 eg9) | ((with_reducible refine gate_dst (N := 10) rfl ?_); refine box_event rfl (N := 10) rfl (cs := enc p) (t := 58) (by first | (go_simp; done) | (go_simp; rfl)) ?_; intro g10 eg10 v2 Kg10 b2; have Dg9_g10 := Aside0.mk (show g9 ≠ g10 from by have := blk_lt Kg9.out; omega); replace Kg9 := Aside0.mk (blk_below Kg9.out b2); have Gg10 := Aside0.mk (show w.heap.size ≤ g10 from by rw [eg10]; exact HB.out.size); replace HB := Aside0.mk (below_step HB.out b2); replace Kg10 := Aside0.mk Kg10; clear b2 eg10) | ((with_reducible refine gate_dst (N := 18) rfl ?_); refine goesL_ (some 18) rfl rfl Try.func32 (by kernel_rfl) rfl #[] rfl (by (try simp only [List.map_toArray, List.map_cons, List.map_nil]); first | done | rfl) ?_; refine (awake_calls _).mono ?_; rintro e v3 ⟨rfl, b3⟩; refine ⟨_, rfl, ?_⟩; replace Kg9 := Aside0.mk (blk_below Kg9.out b3); replace Kg10 := Aside0.mk (blk_below Kg10.out b3); replace HB := Aside0.mk (below_step HB.out b3); clear b3) | ((with_reducible refine gate_dst (N := 21) rfl ?_); (refine gate_guard (by rfl) ?_; dsimp only); refine ld58 Kg10.out rfl _ rfl rfl ?_) | (go_at_call 33; refine (F _).mono ?_; rintro e v4 ⟨rfl, b4⟩; replace Kg9 := Aside0.mk (blk_below Kg9.out b4); replace Kg10 := Aside0.mk (blk_below Kg10.out b4); replace HB := Aside0.mk (below_step HB.out b4); clear b4) | ((with_reducible refine gate_dst (N := 25) rfl ?_); refine goesL_ (some 25) rfl rfl Try.func32 (by kernel_rfl) rfl #[] rfl (by (try simp only [List.map_toArray, List.map_cons, List.map_nil]); first | done | rfl) ?_; refine (awake_calls _).mono ?_; rintro e v5 ⟨rfl, b5⟩; refine ⟨_, rfl, ?_⟩; replace Kg9 := Aside0.mk (blk_below Kg9.out b5); replace Kg10 := Aside0.mk (blk_below Kg10.out b5); replace HB := Aside0.mk (below_step HB.out b5); clear b5))
  go_ret
  exact ⟨rfl, HB.out⟩

theorem Des_own (p : Pt) (r rc b : Int) (w : World) : Calls Try.prog 36 #[.agg (enc { p with root := r, rcost := rc, br := b, rp := p.id }), .int .u64 b] w fun e w' => e = .returned (.bool true) ∧ Below w.heap.size w w' := by
  have h := Designated_true { p with root := r, rcost := rc, br := b, rp := p.id } b (by simp) w
  simpa using h

set_option maxHeartbeats 8000000 in
set_option maxRecDepth 100000 in
theorem Holds_true_true (p : Pt) (id cost r rc b q x : Int) (F : ∀ w, Calls Try.prog 33 #[.agg (enc p)] w fun e w' => e = .returned (.bool true) ∧ Below w.heap.size w w') (c : (p.br == x) = true) (w : World) : Calls Try.prog 11 #[.int .u16 id, .int .u32 cost, .bool true, .agg #[.int .u64 r, .int .u32 rc, .int .u64 b, .int .u16 q], .agg (enc p), .int .u64 x] w fun e w' => e = .returned (.bool true) ∧ Below w.heap.size w w' := by
  have C := Aside0.mk c
  clear c
  have HB := Aside0.mk (Below.refl w.heap.size w)
  go_enter Try.func11, Try.ntmps11
  go_wp2_with (first | ((with_reducible refine gate_dst (N := 9) rfl ?_); refine box_event rfl (N := 9) rfl (cs := #[.int .u64 r, .int .u32 rc, .int .u64 b, .int .u16 q]) (t := 56) (by first | (go_simp; done) | (go_simp; rfl)) ?_; intro g9 eg9 v1 Kg9 b1; have Gg9 := Aside0.mk (show w.heap.size ≤ g9 from by rw [eg9]; exact HB.out.size); replace HB := Aside0.mk (below_step HB.out b1); replace Kg9 := Aside0.mk Kg9; clear b1 eg9) | ((with_reducible refine gate_dst (N := 10) rfl ?_); refine box_event rfl (N := 10) rfl (cs := enc p) (t := 58) (by first | (go_simp; done) | (go_simp; rfl)) ?_; intro g10 eg10 v2 Kg10 b2; have Dg9_g10 := Aside0.mk (show g9 ≠ g10 from by have := blk_lt Kg9.out; omega); replace Kg9 := Aside0.mk (blk_below Kg9.out b2); have Gg10 := Aside0.mk (show w.heap.size ≤ g10 from by rw [eg10]; exact HB.out.size); replace HB := Aside0.mk (below_step HB.out b2); replace Kg10 := Aside0.mk Kg10; clear b2 eg10) | ((with_reducible refine gate_dst (N := 18) rfl ?_); refine goesL_ (some 18) rfl rfl Try.func32 (by kernel_rfl) rfl #[] rfl (by (try simp only [List.map_toArray, List.map_cons, List.map_nil]); first | done | rfl) ?_; refine (awake_calls _).mono ?_; rintro e v3 ⟨rfl, b3⟩; refine ⟨_, rfl, ?_⟩; replace Kg9 := Aside0.mk (blk_below Kg9.out b3); replace Kg10 := Aside0.mk (blk_below Kg10.out b3); replace HB := Aside0.mk (below_step HB.out b3); clear b3) | ((with_reducible refine gate_dst (N := 21) rfl ?_); (refine gate_guard (by rfl) ?_; dsimp only); refine ld58 Kg10.out rfl _ rfl rfl ?_) | (go_at_call 33; refine (F _).mono ?_; rintro e v4 ⟨rfl, b4⟩; replace Kg9 := Aside0.mk (blk_below Kg9.out b4); replace Kg10 := Aside0.mk (blk_below Kg10.out b4); replace HB := Aside0.mk (below_step HB.out b4); clear b4) | ((with_reducible refine gate_dst (N := 26) rfl ?_); refine ev_ld rfl _ _ rfl g9 0 rfl Kg9.out #[.int .u64 r, .int .u32 rc, .int .u64 b, .int .u16 q] Try.underlying56 rfl info56 (fun j u hj => by simpa using hj) ?_) | ((with_reducible refine gate_dst (N := 13) rfl ?_); refine box_event rfl (N := 13) rfl (cs := #[.int .u64 0, .int .u32 0, .int .u64 0, .int .u16 0]) (t := 56) (by first | (go_simp; done) | (go_simp; rfl)) ?_; intro g13 eg13 v5 Kg13 b5; have Dg9_g13 := Aside0.mk (show g9 ≠ g13 from by have := blk_lt Kg9.out; omega); replace Kg9 := Aside0.mk (blk_below Kg9.out b5); have Dg10_g13 := Aside0.mk (show g10 ≠ g13 from by have := blk_lt Kg10.out; omega); replace Kg10 := Aside0.mk (blk_below Kg10.out b5); have Gg13 := Aside0.mk (show w.heap.size ≤ g13 from by rw [eg13]; exact HB.out.size); replace HB := Aside0.mk (below_step HB.out b5); replace Kg13 := Aside0.mk Kg13; clear b5 eg13) | ((with_reducible refine gate_store (p := 13) rfl ?_); refine ev_st rfl 56 _ _ rfl g13 0 rfl rfl #[.int .u64 r, .int .u32 rc, .int .u64 b, .int .u16 q] rfl info56 (by simp [Value.oneCell']) Kg13.out (by first | (rw [enc_size]; simp; done) | simp) (#[.int .u64 r, .int .u32 rc, .int .u64 b, .int .u16 q]) rfl ?_; intro v6 q6 b6; replace Kg9 := Aside0.mk (b6.keep Kg9.out Dg9_g13.out); replace Kg10 := Aside0.mk (b6.keep Kg10.out Dg10_g13.out); replace HB := Aside0.mk (b6.below HB.out Gg13.out HB.out.size); replace Kg13 := Aside0.mk q6; clear b6) | ((with_reducible refine gate_store (p := 28) rfl ?_); refine ev_st rfl 54 _ _ rfl g13 3 rfl rfl #[.int .u16 id] rfl info54 (by simp [Value.oneCell']) Kg13.out (by first | (rw [enc_size]; simp; done) | simp) (#[.int .u64 r, .int .u32 rc, .int .u64 b, .int .u16 id]) rfl ?_; intro v7 q7 b7; replace Kg9 := Aside0.mk (b7.keep Kg9.out Dg9_g13.out); replace Kg10 := Aside0.mk (b7.keep Kg10.out Dg10_g13.out); replace HB := Aside0.mk (b7.below HB.out Gg13.out HB.out.size); replace Kg13 := Aside0.mk q7; clear b7) | ((with_reducible refine gate_dst (N := 32) rfl ?_); refine ev_ld rfl _ _ rfl g9 0 rfl Kg9.out #[.int .u64 r, .int .u32 rc, .int .u64 b, .int .u16 q] Try.underlying56 rfl info56 (fun j u hj => by simpa using hj) ?_) | ((with_reducible refine gate_dst (N := 33) rfl ?_); refine goesL_ (some 33) rfl rfl Try.func34 (by kernel_rfl) rfl #[.int .u16 id, .int .u32 cost, .bool true, .agg #[.int .u64 r, .int .u32 rc, .int .u64 b, .int .u16 q]] rfl (by (try simp only [List.map_toArray, List.map_cons, List.map_nil]); first | done | rfl) ?_; refine (New_true id cost r rc b q _).mono ?_; rintro e v8 ⟨rfl, b8⟩; refine ⟨_, rfl, ?_⟩; replace Kg9 := Aside0.mk (blk_below Kg9.out b8); replace Kg10 := Aside0.mk (blk_below Kg10.out b8); replace Kg13 := Aside0.mk (blk_below Kg13.out b8); replace HB := Aside0.mk (below_step HB.out b8); clear b8) | ((with_reducible refine gate_dst (N := 14) rfl ?_); refine box_event rfl (N := 14) rfl (cs := #[.int .u16 0, .int .i64 0, .int .u32 0, .int .u64 0, .int .u32 0, .int .u64 0, .int .u16 0, .bool false, .bool false, .bool false, .int .i64 0, .bool false, .int .i64 0, .bool false, .int .i64 0]) (t := 58) (by first | (go_simp; done) | (go_simp; rfl)) ?_; intro g14 eg14 v9 Kg14 b9; have Dg9_g14 := Aside0.mk (show g9 ≠ g14 from by have := blk_lt Kg9.out; omega); replace Kg9 := Aside0.mk (blk_below Kg9.out b9); have Dg10_g14 := Aside0.mk (show g10 ≠ g14 from by have := blk_lt Kg10.out; omega); replace Kg10 := Aside0.mk (blk_below Kg10.out b9); have Dg13_g14 := Aside0.mk (show g13 ≠ g14 from by have := blk_lt Kg13.out; omega); replace Kg13 := Aside0.mk (blk_below Kg13.out b9); have Gg14 := Aside0.mk (show w.heap.size ≤ g14 from by rw [eg14]; exact HB.out.size); replace HB := Aside0.mk (below_step HB.out b9); replace Kg14 := Aside0.mk Kg14; clear b9 eg14) | ((with_reducible refine gate_store (p := 14) rfl ?_); refine st58 (p := { id := id, st := 1, cost := cost, root := r, rcost := rc, br := b, rp := id, c7 := false, c8 := false, aOn := false, aV := 0, dOn := false, dV := 0, hOn := false, hV := 0 }) Kg14.out (by first | exact enc_size _ | rfl) rfl _ _ rfl rfl rfl ?_; intro v10 q10 b10; replace Kg9 := Aside0.mk (b10.keep Kg9.out Dg9_g14.out); replace Kg10 := Aside0.mk (b10.keep Kg10.out Dg10_g14.out); replace Kg13 := Aside0.mk (b10.keep Kg13.out Dg13_g14.out); replace HB := Aside0.mk (b10.below HB.out Gg14.out HB.out.size); replace Kg14 := Aside0.mk q10; clear b10) | ((with_reducible refine gate_dst (N := 35) rfl ?_); refine ld58 Kg14.out rfl _ rfl rfl ?_) | ((with_reducible refine gate_dst (N := 39) rfl ?_); refine ev_ld rfl _ _ rfl g13 0 rfl Kg13.out #[.int .u64 r, .int .u32 rc, .int .u64 b, .int .u16 id] Try.underlying56 rfl info56 (fun j u hj => by simpa using hj) ?_) | ((with_reducible refine gate_dst (N := 40) rfl ?_); refine Kd.event_run rfl (v := .agg (enc { id := id, st := 1, cost := cost, root := r, rcost := rc, br := b, rp := id, c7 := false, c8 := false, aOn := false, aV := 0, dOn := false, dV := 0, hOn := false, hV := 0 })) (by unfold enc; first | (go_simp; done) | (go_simp; rfl)) ?_) | ((with_reducible refine gate_dst (N := 42) rfl ?_); refine ld58 Kg10.out rfl _ rfl rfl ?_) | ((with_reducible refine gate_dst (N := 43) rfl ?_); refine ev_ld rfl _ _ rfl g9 0 rfl Kg9.out #[.int .u64 r, .int .u32 rc, .int .u64 b, .int .u16 q] Try.underlying56 rfl info56 (fun j u hj => by simpa using hj) ?_) | ((with_reducible refine gate_dst (N := 44) rfl ?_); refine goesL_ (some 44) rfl rfl Try.func35 (by kernel_rfl) rfl #[.agg (enc p), .agg #[.int .u64 r, .int .u32 rc, .int .u64 b, .int .u16 q]] rfl (by (try simp only [List.map_toArray, List.map_cons, List.map_nil]); first | done | rfl) ?_; refine (Become_calls p r rc b q _).mono ?_; rintro e v11 ⟨rfl, b11⟩; refine ⟨_, rfl, ?_⟩; replace Kg9 := Aside0.mk (blk_below Kg9.out b11); replace Kg10 := Aside0.mk (blk_below Kg10.out b11); replace Kg13 := Aside0.mk (blk_below Kg13.out b11); replace Kg14 := Aside0.mk (blk_below Kg14.out b11); replace HB := Aside0.mk (below_step HB.out b11); clear b11) | ((with_reducible refine gate_dst (N := 16) rfl ?_); refine box_event rfl (N := 16) rfl (cs := #[.int .u16 0, .int .i64 0, .int .u32 0, .int .u64 0, .int .u32 0, .int .u64 0, .int .u16 0, .bool false, .bool false, .bool false, .int .i64 0, .bool false, .int .i64 0, .bool false, .int .i64 0]) (t := 58) (by first | (go_simp; done) | (go_simp; rfl)) ?_; intro g16 eg16 v12 Kg16 b12; have Dg9_g16 := Aside0.mk (show g9 ≠ g16 from by have := blk_lt Kg9.out; omega); replace Kg9 := Aside0.mk (blk_below Kg9.out b12); have Dg10_g16 := Aside0.mk (show g10 ≠ g16 from by have := blk_lt Kg10.out; omega); replace Kg10 := Aside0.mk (blk_below Kg10.out b12); have Dg13_g16 := Aside0.mk (show g13 ≠ g16 from by have := blk_lt Kg13.out; omega); replace Kg13 := Aside0.mk (blk_below Kg13.out b12); have Dg14_g16 := Aside0.mk (show g14 ≠ g16 from by have := blk_lt Kg14.out; omega); replace Kg14 := Aside0.mk (blk_below Kg14.out b12); have Gg16 := Aside0.mk (show w.heap.size ≤ g16 from by rw [eg16]; exact HB.out.size); replace HB := Aside0.mk (below_step HB.out b12); replace Kg16 := Aside0.mk Kg16; clear b12 eg16) | ((with_reducible refine gate_store (p := 16) rfl ?_); refine st58 (p := { p with root := r, rcost := rc, br := b, rp := p.id }) Kg16.out (by first | exact enc_size _ | rfl) rfl _ _ rfl rfl rfl ?_; intro v13 q13 b13; replace Kg9 := Aside0.mk (b13.keep Kg9.out Dg9_g16.out); replace Kg10 := Aside0.mk (b13.keep Kg10.out Dg10_g16.out); replace Kg13 := Aside0.mk (b13.keep Kg13.out Dg13_g16.out); replace Kg14 := Aside0.mk (b13.keep Kg14.out Dg14_g16.out); replace HB := Aside0.mk (b13.below HB.out Gg16.out HB.out.size); replace Kg16 := Aside0.mk q13; clear b13) | ((with_reducible refine gate_dst (N := 45) rfl ?_); refine ld58 Kg10.out rfl _ rfl rfl ?_) | ((with_reducible refine gate_dst (N := 17) rfl ?_); refine box_event rfl (N := 17) rfl (cs := #[.int .u16 0, .int .i64 0, .int .u32 0, .int .u64 0, .int .u32 0, .int .u64 0, .int .u16 0, .bool false, .bool false, .bool false, .int .i64 0, .bool false, .int .i64 0, .bool false, .int .i64 0]) (t := 58) (by first | (go_simp; done) | (go_simp; rfl)) ?_; intro g17 eg17 v14 Kg17 b14; have Dg9_g17 := Aside0.mk (show g9 ≠ g17 from by have := blk_lt Kg9.out; omega); replace Kg9 := Aside0.mk (blk_below Kg9.out b14); have Dg10_g17 := Aside0.mk (show g10 ≠ g17 from by have := blk_lt Kg10.out; omega); replace Kg10 := Aside0.mk (blk_below Kg10.out b14); have Dg13_g17 := Aside0.mk (show g13 ≠ g17 from by have := blk_lt Kg13.out; omega); replace Kg13 := Aside0.mk (blk_below Kg13.out b14); have Dg14_g17 := Aside0.mk (show g14 ≠ g17 from by have := blk_lt Kg14.out; omega); replace Kg14 := Aside0.mk (blk_below Kg14.out b14); have Dg16_g17 := Aside0.mk (show g16 ≠ g17 from by have := blk_lt Kg16.out; omega); replace Kg16 := Aside0.mk (blk_below Kg16.out b14); have Gg17 := Aside0.mk (show w.heap.size ≤ g17 from by rw [eg17]; exact HB.out.size); replace HB := Aside0.mk (below_step HB.out b14); replace Kg17 := Aside0.mk Kg17; clear b14 eg17) | ((with_reducible refine gate_store (p := 17) rfl ?_); refine st58 (p := p) Kg17.out (by first | exact enc_size _ | rfl) rfl _ _ rfl rfl rfl ?_; intro v15 q15 b15; replace Kg9 := Aside0.mk (b15.keep Kg9.out Dg9_g17.out); replace Kg10 := Aside0.mk (b15.keep Kg10.out Dg10_g17.out); replace Kg13 := Aside0.mk (b15.keep Kg13.out Dg13_g17.out); replace Kg14 := Aside0.mk (b15.keep Kg14.out Dg14_g17.out); replace Kg16 := Aside0.mk (b15.keep Kg16.out Dg16_g17.out); replace HB := Aside0.mk (b15.below HB.out Gg17.out HB.out.size); replace Kg17 := Aside0.mk q15; clear b15) | ((with_reducible refine gate_dst (N := 46) rfl ?_); refine ev_ld rfl _ _ rfl g9 0 rfl Kg9.out #[.int .u64 r, .int .u32 rc, .int .u64 b, .int .u16 q] Try.underlying56 rfl info56 (fun j u hj => by simpa using hj) ?_) | ((with_reducible refine gate_store (p := 47) rfl ?_); refine ev_st rfl 56 _ _ rfl g17 3 rfl rfl #[.int .u64 r, .int .u32 rc, .int .u64 b, .int .u16 q] rfl info56 (by simp [Value.oneCell']) Kg17.out (by first | (rw [enc_size]; simp; done) | simp) (enc { p with root := r, rcost := rc, br := b, rp := q }) (enc_held _ _ _ _ _) ?_; intro v16 q16 b16; replace Kg9 := Aside0.mk (b16.keep Kg9.out Dg9_g17.out); replace Kg10 := Aside0.mk (b16.keep Kg10.out Dg10_g17.out); replace Kg13 := Aside0.mk (b16.keep Kg13.out Dg13_g17.out); replace Kg14 := Aside0.mk (b16.keep Kg14.out Dg14_g17.out); replace Kg16 := Aside0.mk (b16.keep Kg16.out Dg16_g17.out); replace HB := Aside0.mk (b16.below HB.out Gg17.out HB.out.size); replace Kg17 := Aside0.mk q16; clear b16) | ((with_reducible refine gate_dst (N := 49) rfl ?_); refine ev_ld1 rfl _ _ rfl g10 0 rfl Kg10.out (.int .u16 p.id) Try.underlying54 rfl (enc_0 p) ?_) | ((with_reducible refine gate_store (p := 51) rfl ?_); refine ev_st rfl 54 _ _ rfl g17 6 rfl rfl #[.int .u16 p.id] rfl info54 (by simp [Value.oneCell']) Kg17.out (by first | (rw [enc_size]; simp; done) | simp) (enc { p with root := r, rcost := rc, br := b, rp := p.id }) (enc_heldPort _ _) ?_; intro v17 q17 b17; replace Kg9 := Aside0.mk (b17.keep Kg9.out Dg9_g17.out); replace Kg10 := Aside0.mk (b17.keep Kg10.out Dg10_g17.out); replace Kg13 := Aside0.mk (b17.keep Kg13.out Dg13_g17.out); replace Kg14 := Aside0.mk (b17.keep Kg14.out Dg14_g17.out); replace Kg16 := Aside0.mk (b17.keep Kg16.out Dg16_g17.out); replace HB := Aside0.mk (b17.below HB.out Gg17.out HB.out.size); replace Kg17 := Aside0.mk q17; clear b17) | ((with_reducible refine gate_dst (N := 52) rfl ?_); refine ld58 Kg16.out rfl _ rfl rfl ?_) | ((with_reducible refine gate_dst (N := 53) rfl ?_); refine ld58 Kg17.out rfl _ rfl rfl ?_) | ((with_reducible refine gate_dst (N := 56) rfl ?_); (refine gate_guard (by rfl) ?_; dsimp only); refine ld58 Kg16.out rfl _ rfl rfl ?_) | ((with_reducible refine gate_dst (N := 58) rfl ?_); (refine gate_guard (by rfl) ?_; dsimp only); refine ev_ld1 rfl _ _ rfl g9 2 rfl Kg9.out (.int .u64 b) Try.underlying53 rfl (rfl) ?_) | (go_at_call 36; refine (Des_own p r rc b _).mono ?_; rintro e v18 ⟨rfl, b18⟩; replace Kg9 := Aside0.mk (blk_below Kg9.out b18); replace Kg10 := Aside0.mk (blk_below Kg10.out b18); replace Kg13 := Aside0.mk (blk_below Kg13.out b18); replace Kg14 := Aside0.mk (blk_below Kg14.out b18); replace Kg16 := Aside0.mk (blk_below Kg16.out b18); replace Kg17 := Aside0.mk (blk_below Kg17.out b18); replace HB := Aside0.mk (below_step HB.out b18); clear b18))
  have SS : B1 w g10 (enc p) _ := ⟨Kg10.out, HB.out⟩
  clear Kg9 Kg10 Kg13 Kg14 Kg16 Kg17
  refine startB (SS.step (drewB _)) (n := 18) [] #[false, false, false, false, false, false, false, false, false, false, false, false, false, false, false, false, false, false] (by kernel_rfl) rfl rfl (fun hHeld => ?_)
  refine pure_ (i := 1) (N := some 63) (v := ?_) (a' := ?_) #[false, true, false, false, false, false, false, false, false, false, false, false, false, false, false, false, false, false] rfl rfl (by kernel_rfl) (fun _ _ _ h => h) (Or.inl ⟨by rfl, ?_⟩) ?_ ?_
  rotate_left
  · intro w'
    go_simp
    with_reducible rfl
  rotate_left
  · simp only [Act.put, List.setIfInBounds_toArray, List.set_cons_zero, List.set_cons_succ, i64_w, i32_w]
    rfl
  refine pure_ (i := 3) (N := some 65) (v := ?_) (a' := ?_) #[false, true, false, true, false, false, false, false, false, false, false, false, false, false, false, false, false, false] rfl rfl (by kernel_rfl) (fun _ _ _ h => h) (Or.inl ⟨by rfl, ?_⟩) ?_ ?_
  rotate_left
  · intro w'
    go_simp
    with_reducible rfl
  rotate_left
  · simp only [Act.put, List.setIfInBounds_toArray, List.set_cons_zero, List.set_cons_succ, i64_w, i32_w]
    rfl
  refine pure_ (i := 4) (N := some 66) (v := ?_) (a' := ?_) #[false, true, false, true, true, false, false, false, false, false, false, false, false, false, false, false, false, false] rfl rfl (by kernel_rfl) (fun _ _ _ h => h) (Or.inl ⟨by rfl, ?_⟩) ?_ ?_
  rotate_left
  · intro w'
    go_simp
    with_reducible rfl
  rotate_left
  · simp only [Act.put, List.setIfInBounds_toArray, List.set_cons_zero, List.set_cons_succ, i64_w, i32_w]
    rfl
  refine pure_ (i := 6) (N := some 68) (v := ?_) (a' := ?_) #[false, true, false, true, true, false, true, false, false, false, false, false, false, false, false, false, false, false] rfl rfl (by kernel_rfl) (fun _ _ _ h => h) (Or.inl ⟨by rfl, ?_⟩) ?_ ?_
  rotate_left
  · intro w'
    go_simp
    with_reducible rfl
  rotate_left
  · simp only [Act.put, List.setIfInBounds_toArray, List.set_cons_zero, List.set_cons_succ, i64_w, i32_w]
    rfl
  refine take_ (i := 0) (N := some 62) (v := _) (a' := ?_) #[true, true, false, true, true, false, true, false, false, false, false, false, false, false, false, false, false, false] rfl rfl (by kernel_rfl) (fun _ _ _ h => h) (Or.inl ⟨by rfl, fun w2 h => run_ld58 h.k1 (.tmp 10) rfl rfl⟩) hHeld ?_ ?_
  rotate_left
  · simp only [Act.put, List.setIfInBounds_toArray, List.set_cons_zero, List.set_cons_succ, i64_w, i32_w]
    rfl
  refine take_ (i := 5) (N := some 67) (v := _) (a' := ?_) #[true, true, false, true, true, true, true, false, false, false, false, false, false, false, false, false, false, false] rfl rfl (by kernel_rfl) (fun _ _ _ h => h) (Or.inl ⟨by rfl, fun w2 h => run_ld1 h.k1 53 (.tmp 66) rfl rfl (u := .int .u64 p.br) Try.underlying53 rfl (enc_5 p)⟩) hHeld ?_ ?_
  rotate_left
  · simp only [Act.put, List.setIfInBounds_toArray, List.set_cons_zero, List.set_cons_succ, i64_w, i32_w]
    rfl
  refine pure_ (i := 7) (N := some 69) (v := .bool true) (a' := ?_) #[true, true, false, true, true, true, true, true, false, false, false, false, false, false, false, false, false, false] rfl rfl (by kernel_rfl) (fun _ _ _ h => h) (Or.inl ⟨by rfl, (fun w' => by have ee : p.br = x := (by simpa using C.out); subst ee; go_simp)⟩) ?_ ?_
  rotate_left
  · simp only [Act.put, List.setIfInBounds_toArray, List.set_cons_zero, List.set_cons_succ, i64_w, i32_w]
    rfl
  refine one_ (i := 2) (N := some 64) #[true, true, true, true, true, true, true, true, false, false, false, false, false, false, false, false, false, false] rfl rfl (by kernel_rfl) (by decide) (fun K hK => ?_)
  refine goes_ Try.func36 (by kernel_rfl) rfl #[.agg (enc p), .int .u64 x] (by rfl) rfl rfl (by (try simp only [List.map_toArray, List.map_cons, List.map_nil]); first | done | rfl) ?_
  refine (Designated_true p x C.out _).mono ?_
  rintro e w3 ⟨rfl, hb⟩
  refine ⟨_, rfl, ?_⟩
  refine hK.out _ _ (hHeld.step hb) (fun hHeld => ?_)
  clear hK K
  refine norm_ (a' := ?_) ?_ ?_
  rotate_left
  · show Act.put _ (some 64) _ = _
    simp only [Act.put, List.setIfInBounds_toArray, List.set_cons_zero, List.set_cons_succ, i64_w, i32_w]
    rfl
  refine pure_ (i := 8) (N := some 70) (v := ?_) (a' := ?_) #[true, true, true, true, true, true, true, true, true, false, false, false, false, false, false, false, false, false] rfl rfl (by kernel_rfl) (fun _ _ _ h => h) (Or.inl ⟨by rfl, ?_⟩) ?_ ?_
  rotate_left
  · intro w'
    go_simp
    with_reducible rfl
  rotate_left
  · simp only [Act.put, List.setIfInBounds_toArray, List.set_cons_zero, List.set_cons_succ, i64_w, i32_w]
    rfl
  refine pure_ (i := 9) (N := some 71) (v := ?_) (a' := ?_) #[true, true, true, true, true, true, true, true, true, true, false, false, false, false, false, false, false, false] rfl rfl (by kernel_rfl) (fun _ _ _ h => h) (Or.inl ⟨by rfl, ?_⟩) ?_ ?_
  rotate_left
  · intro w'
    go_simp
    with_reducible rfl
  rotate_left
  · simp only [Act.put, List.setIfInBounds_toArray, List.set_cons_zero, List.set_cons_succ, i64_w, i32_w]
    rfl
  refine pure_ (i := 10) (N := some 72) (v := ?_) (a' := ?_) #[true, true, true, true, true, true, true, true, true, true, true, false, false, false, false, false, false, false] rfl rfl (by kernel_rfl) (fun _ _ _ h => h) (Or.inl ⟨by rfl, ?_⟩) ?_ ?_
  rotate_left
  · intro w'
    go_simp
    with_reducible rfl
  rotate_left
  · simp only [Act.put, List.setIfInBounds_toArray, List.set_cons_zero, List.set_cons_succ, i64_w, i32_w]
    rfl
  refine pure_ (i := 12) (N := some 74) (v := ?_) (a' := ?_) #[true, true, true, true, true, true, true, true, true, true, true, false, true, false, false, false, false, false] rfl rfl (by kernel_rfl) (fun _ _ _ h => h) (Or.inl ⟨by rfl, ?_⟩) ?_ ?_
  rotate_left
  · intro w'
    go_simp
    with_reducible rfl
  rotate_left
  · simp only [Act.put, List.setIfInBounds_toArray, List.set_cons_zero, List.set_cons_succ, i64_w, i32_w]
    rfl
  refine take_ (i := 11) (N := some 73) (v := _) (a' := ?_) #[true, true, true, true, true, true, true, true, true, true, true, true, true, false, false, false, false, false] rfl rfl (by kernel_rfl) (fun _ _ _ h => h) (Or.inl ⟨by rfl, fun w2 h => run_ld1 h.k1 54 (.tmp 72) rfl rfl (u := .int .u16 p.rp) Try.underlying54 rfl (enc_6 p)⟩) hHeld ?_ ?_
  rotate_left
  · simp only [Act.put, List.setIfInBounds_toArray, List.set_cons_zero, List.set_cons_succ, i64_w, i32_w]
    rfl
  refine take_ (i := 13) (N := some 75) (v := _) (a' := ?_) #[true, true, true, true, true, true, true, true, true, true, true, true, true, true, false, false, false, false] rfl rfl (by kernel_rfl) (fun _ _ _ h => h) (Or.inl ⟨by rfl, fun w2 h => run_ld1 h.k1 54 (.tmp 74) rfl rfl (u := .int .u16 p.id) Try.underlying54 rfl (enc_0 p)⟩) hHeld ?_ ?_
  rotate_left
  · simp only [Act.put, List.setIfInBounds_toArray, List.set_cons_zero, List.set_cons_succ, i64_w, i32_w]
    rfl
  refine pure_ (i := 14) (N := some 76) (v := ?_) (a' := ?_) #[true, true, true, true, true, true, true, true, true, true, true, true, true, true, true, false, false, false] rfl rfl (by kernel_rfl) (fun _ _ _ h => h) (Or.inl ⟨by rfl, ?_⟩) ?_ ?_
  rotate_left
  · intro w'
    go_simp
    with_reducible rfl
  rotate_left
  · simp only [Act.put, List.setIfInBounds_toArray, List.set_cons_zero, List.set_cons_succ, i64_w, i32_w]
    rfl
  refine pure_ (i := 15) (N := some 77) (v := ?_) (a' := ?_) #[true, true, true, true, true, true, true, true, true, true, true, true, true, true, true, true, false, false] rfl rfl (by kernel_rfl) (fun _ _ _ h => h) (Or.inl ⟨by rfl, ?_⟩) ?_ ?_
  rotate_left
  · intro w'
    go_simp
    with_reducible rfl
  rotate_left
  · simp only [Act.put, List.setIfInBounds_toArray, List.set_cons_zero, List.set_cons_succ, i64_w, i32_w]
    rfl
  refine pure_ (i := 16) (N := some 78) (v := ?_) (a' := ?_) #[true, true, true, true, true, true, true, true, true, true, true, true, true, true, true, true, true, false] rfl rfl (by kernel_rfl) (fun _ _ _ h => h) (Or.inl ⟨by rfl, ?_⟩) ?_ ?_
  rotate_left
  · intro w'
    go_simp
    with_reducible rfl
  rotate_left
  · simp only [Act.put, List.setIfInBounds_toArray, List.set_cons_zero, List.set_cons_succ, i64_w, i32_w]
    rfl
  refine pure_ (i := 17) (N := some 12) (v := ?_) (a' := ?_) #[true, true, true, true, true, true, true, true, true, true, true, true, true, true, true, true, true, true] rfl rfl (by kernel_rfl) (fun _ _ _ h => h) (Or.inl ⟨by rfl, ?_⟩) ?_ ?_
  rotate_left
  · intro w'
    go_simp
    with_reducible rfl
  rotate_left
  · simp only [Act.put, List.setIfInBounds_toArray, List.set_cons_zero, List.set_cons_succ, i64_w, i32_w]
    rfl
  refine done_ (by kernel_rfl) ?_
  go_wp2_with fail
  go_ret
  exact ⟨by simp, hHeld.below⟩

set_option maxHeartbeats 8000000 in
set_option maxRecDepth 100000 in
theorem Holds_true_false (p : Pt) (id cost r rc b q x : Int) (F : ∀ w, Calls Try.prog 33 #[.agg (enc p)] w fun e w' => e = .returned (.bool true) ∧ Below w.heap.size w w') (c : (p.br == x) = false) (w : World) : Calls Try.prog 11 #[.int .u16 id, .int .u32 cost, .bool true, .agg #[.int .u64 r, .int .u32 rc, .int .u64 b, .int .u16 q], .agg (enc p), .int .u64 x] w fun e w' => e = .returned (.bool true) ∧ Below w.heap.size w w' := by
  have C := Aside0.mk c
  clear c
  have HB := Aside0.mk (Below.refl w.heap.size w)
  go_enter Try.func11, Try.ntmps11
  go_wp2_with (first | ((with_reducible refine gate_dst (N := 9) rfl ?_); refine box_event rfl (N := 9) rfl (cs := #[.int .u64 r, .int .u32 rc, .int .u64 b, .int .u16 q]) (t := 56) (by first | (go_simp; done) | (go_simp; rfl)) ?_; intro g9 eg9 v1 Kg9 b1; have Gg9 := Aside0.mk (show w.heap.size ≤ g9 from by rw [eg9]; exact HB.out.size); replace HB := Aside0.mk (below_step HB.out b1); replace Kg9 := Aside0.mk Kg9; clear b1 eg9) | ((with_reducible refine gate_dst (N := 10) rfl ?_); refine box_event rfl (N := 10) rfl (cs := enc p) (t := 58) (by first | (go_simp; done) | (go_simp; rfl)) ?_; intro g10 eg10 v2 Kg10 b2; have Dg9_g10 := Aside0.mk (show g9 ≠ g10 from by have := blk_lt Kg9.out; omega); replace Kg9 := Aside0.mk (blk_below Kg9.out b2); have Gg10 := Aside0.mk (show w.heap.size ≤ g10 from by rw [eg10]; exact HB.out.size); replace HB := Aside0.mk (below_step HB.out b2); replace Kg10 := Aside0.mk Kg10; clear b2 eg10) | ((with_reducible refine gate_dst (N := 18) rfl ?_); refine goesL_ (some 18) rfl rfl Try.func32 (by kernel_rfl) rfl #[] rfl (by (try simp only [List.map_toArray, List.map_cons, List.map_nil]); first | done | rfl) ?_; refine (awake_calls _).mono ?_; rintro e v3 ⟨rfl, b3⟩; refine ⟨_, rfl, ?_⟩; replace Kg9 := Aside0.mk (blk_below Kg9.out b3); replace Kg10 := Aside0.mk (blk_below Kg10.out b3); replace HB := Aside0.mk (below_step HB.out b3); clear b3) | ((with_reducible refine gate_dst (N := 21) rfl ?_); (refine gate_guard (by rfl) ?_; dsimp only); refine ld58 Kg10.out rfl _ rfl rfl ?_) | (go_at_call 33; refine (F _).mono ?_; rintro e v4 ⟨rfl, b4⟩; replace Kg9 := Aside0.mk (blk_below Kg9.out b4); replace Kg10 := Aside0.mk (blk_below Kg10.out b4); replace HB := Aside0.mk (below_step HB.out b4); clear b4) | ((with_reducible refine gate_dst (N := 26) rfl ?_); refine ev_ld rfl _ _ rfl g9 0 rfl Kg9.out #[.int .u64 r, .int .u32 rc, .int .u64 b, .int .u16 q] Try.underlying56 rfl info56 (fun j u hj => by simpa using hj) ?_) | ((with_reducible refine gate_dst (N := 13) rfl ?_); refine box_event rfl (N := 13) rfl (cs := #[.int .u64 0, .int .u32 0, .int .u64 0, .int .u16 0]) (t := 56) (by first | (go_simp; done) | (go_simp; rfl)) ?_; intro g13 eg13 v5 Kg13 b5; have Dg9_g13 := Aside0.mk (show g9 ≠ g13 from by have := blk_lt Kg9.out; omega); replace Kg9 := Aside0.mk (blk_below Kg9.out b5); have Dg10_g13 := Aside0.mk (show g10 ≠ g13 from by have := blk_lt Kg10.out; omega); replace Kg10 := Aside0.mk (blk_below Kg10.out b5); have Gg13 := Aside0.mk (show w.heap.size ≤ g13 from by rw [eg13]; exact HB.out.size); replace HB := Aside0.mk (below_step HB.out b5); replace Kg13 := Aside0.mk Kg13; clear b5 eg13) | ((with_reducible refine gate_store (p := 13) rfl ?_); refine ev_st rfl 56 _ _ rfl g13 0 rfl rfl #[.int .u64 r, .int .u32 rc, .int .u64 b, .int .u16 q] rfl info56 (by simp [Value.oneCell']) Kg13.out (by first | (rw [enc_size]; simp; done) | simp) (#[.int .u64 r, .int .u32 rc, .int .u64 b, .int .u16 q]) rfl ?_; intro v6 q6 b6; replace Kg9 := Aside0.mk (b6.keep Kg9.out Dg9_g13.out); replace Kg10 := Aside0.mk (b6.keep Kg10.out Dg10_g13.out); replace HB := Aside0.mk (b6.below HB.out Gg13.out HB.out.size); replace Kg13 := Aside0.mk q6; clear b6) | ((with_reducible refine gate_store (p := 28) rfl ?_); refine ev_st rfl 54 _ _ rfl g13 3 rfl rfl #[.int .u16 id] rfl info54 (by simp [Value.oneCell']) Kg13.out (by first | (rw [enc_size]; simp; done) | simp) (#[.int .u64 r, .int .u32 rc, .int .u64 b, .int .u16 id]) rfl ?_; intro v7 q7 b7; replace Kg9 := Aside0.mk (b7.keep Kg9.out Dg9_g13.out); replace Kg10 := Aside0.mk (b7.keep Kg10.out Dg10_g13.out); replace HB := Aside0.mk (b7.below HB.out Gg13.out HB.out.size); replace Kg13 := Aside0.mk q7; clear b7) | ((with_reducible refine gate_dst (N := 32) rfl ?_); refine ev_ld rfl _ _ rfl g9 0 rfl Kg9.out #[.int .u64 r, .int .u32 rc, .int .u64 b, .int .u16 q] Try.underlying56 rfl info56 (fun j u hj => by simpa using hj) ?_) | ((with_reducible refine gate_dst (N := 33) rfl ?_); refine goesL_ (some 33) rfl rfl Try.func34 (by kernel_rfl) rfl #[.int .u16 id, .int .u32 cost, .bool true, .agg #[.int .u64 r, .int .u32 rc, .int .u64 b, .int .u16 q]] rfl (by (try simp only [List.map_toArray, List.map_cons, List.map_nil]); first | done | rfl) ?_; refine (New_true id cost r rc b q _).mono ?_; rintro e v8 ⟨rfl, b8⟩; refine ⟨_, rfl, ?_⟩; replace Kg9 := Aside0.mk (blk_below Kg9.out b8); replace Kg10 := Aside0.mk (blk_below Kg10.out b8); replace Kg13 := Aside0.mk (blk_below Kg13.out b8); replace HB := Aside0.mk (below_step HB.out b8); clear b8) | ((with_reducible refine gate_dst (N := 14) rfl ?_); refine box_event rfl (N := 14) rfl (cs := #[.int .u16 0, .int .i64 0, .int .u32 0, .int .u64 0, .int .u32 0, .int .u64 0, .int .u16 0, .bool false, .bool false, .bool false, .int .i64 0, .bool false, .int .i64 0, .bool false, .int .i64 0]) (t := 58) (by first | (go_simp; done) | (go_simp; rfl)) ?_; intro g14 eg14 v9 Kg14 b9; have Dg9_g14 := Aside0.mk (show g9 ≠ g14 from by have := blk_lt Kg9.out; omega); replace Kg9 := Aside0.mk (blk_below Kg9.out b9); have Dg10_g14 := Aside0.mk (show g10 ≠ g14 from by have := blk_lt Kg10.out; omega); replace Kg10 := Aside0.mk (blk_below Kg10.out b9); have Dg13_g14 := Aside0.mk (show g13 ≠ g14 from by have := blk_lt Kg13.out; omega); replace Kg13 := Aside0.mk (blk_below Kg13.out b9); have Gg14 := Aside0.mk (show w.heap.size ≤ g14 from by rw [eg14]; exact HB.out.size); replace HB := Aside0.mk (below_step HB.out b9); replace Kg14 := Aside0.mk Kg14; clear b9 eg14) | ((with_reducible refine gate_store (p := 14) rfl ?_); refine st58 (p := { id := id, st := 1, cost := cost, root := r, rcost := rc, br := b, rp := id, c7 := false, c8 := false, aOn := false, aV := 0, dOn := false, dV := 0, hOn := false, hV := 0 }) Kg14.out (by first | exact enc_size _ | rfl) rfl _ _ rfl rfl rfl ?_; intro v10 q10 b10; replace Kg9 := Aside0.mk (b10.keep Kg9.out Dg9_g14.out); replace Kg10 := Aside0.mk (b10.keep Kg10.out Dg10_g14.out); replace Kg13 := Aside0.mk (b10.keep Kg13.out Dg13_g14.out); replace HB := Aside0.mk (b10.below HB.out Gg14.out HB.out.size); replace Kg14 := Aside0.mk q10; clear b10) | ((with_reducible refine gate_dst (N := 35) rfl ?_); refine ld58 Kg14.out rfl _ rfl rfl ?_) | ((with_reducible refine gate_dst (N := 39) rfl ?_); refine ev_ld rfl _ _ rfl g13 0 rfl Kg13.out #[.int .u64 r, .int .u32 rc, .int .u64 b, .int .u16 id] Try.underlying56 rfl info56 (fun j u hj => by simpa using hj) ?_) | ((with_reducible refine gate_dst (N := 40) rfl ?_); refine Kd.event_run rfl (v := .agg (enc { id := id, st := 1, cost := cost, root := r, rcost := rc, br := b, rp := id, c7 := false, c8 := false, aOn := false, aV := 0, dOn := false, dV := 0, hOn := false, hV := 0 })) (by unfold enc; first | (go_simp; done) | (go_simp; rfl)) ?_) | ((with_reducible refine gate_dst (N := 42) rfl ?_); refine ld58 Kg10.out rfl _ rfl rfl ?_) | ((with_reducible refine gate_dst (N := 43) rfl ?_); refine ev_ld rfl _ _ rfl g9 0 rfl Kg9.out #[.int .u64 r, .int .u32 rc, .int .u64 b, .int .u16 q] Try.underlying56 rfl info56 (fun j u hj => by simpa using hj) ?_) | ((with_reducible refine gate_dst (N := 44) rfl ?_); refine goesL_ (some 44) rfl rfl Try.func35 (by kernel_rfl) rfl #[.agg (enc p), .agg #[.int .u64 r, .int .u32 rc, .int .u64 b, .int .u16 q]] rfl (by (try simp only [List.map_toArray, List.map_cons, List.map_nil]); first | done | rfl) ?_; refine (Become_calls p r rc b q _).mono ?_; rintro e v11 ⟨rfl, b11⟩; refine ⟨_, rfl, ?_⟩; replace Kg9 := Aside0.mk (blk_below Kg9.out b11); replace Kg10 := Aside0.mk (blk_below Kg10.out b11); replace Kg13 := Aside0.mk (blk_below Kg13.out b11); replace Kg14 := Aside0.mk (blk_below Kg14.out b11); replace HB := Aside0.mk (below_step HB.out b11); clear b11) | ((with_reducible refine gate_dst (N := 16) rfl ?_); refine box_event rfl (N := 16) rfl (cs := #[.int .u16 0, .int .i64 0, .int .u32 0, .int .u64 0, .int .u32 0, .int .u64 0, .int .u16 0, .bool false, .bool false, .bool false, .int .i64 0, .bool false, .int .i64 0, .bool false, .int .i64 0]) (t := 58) (by first | (go_simp; done) | (go_simp; rfl)) ?_; intro g16 eg16 v12 Kg16 b12; have Dg9_g16 := Aside0.mk (show g9 ≠ g16 from by have := blk_lt Kg9.out; omega); replace Kg9 := Aside0.mk (blk_below Kg9.out b12); have Dg10_g16 := Aside0.mk (show g10 ≠ g16 from by have := blk_lt Kg10.out; omega); replace Kg10 := Aside0.mk (blk_below Kg10.out b12); have Dg13_g16 := Aside0.mk (show g13 ≠ g16 from by have := blk_lt Kg13.out; omega); replace Kg13 := Aside0.mk (blk_below Kg13.out b12); have Dg14_g16 := Aside0.mk (show g14 ≠ g16 from by have := blk_lt Kg14.out; omega); replace Kg14 := Aside0.mk (blk_below Kg14.out b12); have Gg16 := Aside0.mk (show w.heap.size ≤ g16 from by rw [eg16]; exact HB.out.size); replace HB := Aside0.mk (below_step HB.out b12); replace Kg16 := Aside0.mk Kg16; clear b12 eg16) | ((with_reducible refine gate_store (p := 16) rfl ?_); refine st58 (p := { p with root := r, rcost := rc, br := b, rp := p.id }) Kg16.out (by first | exact enc_size _ | rfl) rfl _ _ rfl rfl rfl ?_; intro v13 q13 b13; replace Kg9 := Aside0.mk (b13.keep Kg9.out Dg9_g16.out); replace Kg10 := Aside0.mk (b13.keep Kg10.out Dg10_g16.out); replace Kg13 := Aside0.mk (b13.keep Kg13.out Dg13_g16.out); replace Kg14 := Aside0.mk (b13.keep Kg14.out Dg14_g16.out); replace HB := Aside0.mk (b13.below HB.out Gg16.out HB.out.size); replace Kg16 := Aside0.mk q13; clear b13) | ((with_reducible refine gate_dst (N := 45) rfl ?_); refine ld58 Kg10.out rfl _ rfl rfl ?_) | ((with_reducible refine gate_dst (N := 17) rfl ?_); refine box_event rfl (N := 17) rfl (cs := #[.int .u16 0, .int .i64 0, .int .u32 0, .int .u64 0, .int .u32 0, .int .u64 0, .int .u16 0, .bool false, .bool false, .bool false, .int .i64 0, .bool false, .int .i64 0, .bool false, .int .i64 0]) (t := 58) (by first | (go_simp; done) | (go_simp; rfl)) ?_; intro g17 eg17 v14 Kg17 b14; have Dg9_g17 := Aside0.mk (show g9 ≠ g17 from by have := blk_lt Kg9.out; omega); replace Kg9 := Aside0.mk (blk_below Kg9.out b14); have Dg10_g17 := Aside0.mk (show g10 ≠ g17 from by have := blk_lt Kg10.out; omega); replace Kg10 := Aside0.mk (blk_below Kg10.out b14); have Dg13_g17 := Aside0.mk (show g13 ≠ g17 from by have := blk_lt Kg13.out; omega); replace Kg13 := Aside0.mk (blk_below Kg13.out b14); have Dg14_g17 := Aside0.mk (show g14 ≠ g17 from by have := blk_lt Kg14.out; omega); replace Kg14 := Aside0.mk (blk_below Kg14.out b14); have Dg16_g17 := Aside0.mk (show g16 ≠ g17 from by have := blk_lt Kg16.out; omega); replace Kg16 := Aside0.mk (blk_below Kg16.out b14); have Gg17 := Aside0.mk (show w.heap.size ≤ g17 from by rw [eg17]; exact HB.out.size); replace HB := Aside0.mk (below_step HB.out b14); replace Kg17 := Aside0.mk Kg17; clear b14 eg17) | ((with_reducible refine gate_store (p := 17) rfl ?_); refine st58 (p := p) Kg17.out (by first | exact enc_size _ | rfl) rfl _ _ rfl rfl rfl ?_; intro v15 q15 b15; replace Kg9 := Aside0.mk (b15.keep Kg9.out Dg9_g17.out); replace Kg10 := Aside0.mk (b15.keep Kg10.out Dg10_g17.out); replace Kg13 := Aside0.mk (b15.keep Kg13.out Dg13_g17.out); replace Kg14 := Aside0.mk (b15.keep Kg14.out Dg14_g17.out); replace Kg16 := Aside0.mk (b15.keep Kg16.out Dg16_g17.out); replace HB := Aside0.mk (b15.below HB.out Gg17.out HB.out.size); replace Kg17 := Aside0.mk q15; clear b15) | ((with_reducible refine gate_dst (N := 46) rfl ?_); refine ev_ld rfl _ _ rfl g9 0 rfl Kg9.out #[.int .u64 r, .int .u32 rc, .int .u64 b, .int .u16 q] Try.underlying56 rfl info56 (fun j u hj => by simpa using hj) ?_) | ((with_reducible refine gate_store (p := 47) rfl ?_); refine ev_st rfl 56 _ _ rfl g17 3 rfl rfl #[.int .u64 r, .int .u32 rc, .int .u64 b, .int .u16 q] rfl info56 (by simp [Value.oneCell']) Kg17.out (by first | (rw [enc_size]; simp; done) | simp) (enc { p with root := r, rcost := rc, br := b, rp := q }) (enc_held _ _ _ _ _) ?_; intro v16 q16 b16; replace Kg9 := Aside0.mk (b16.keep Kg9.out Dg9_g17.out); replace Kg10 := Aside0.mk (b16.keep Kg10.out Dg10_g17.out); replace Kg13 := Aside0.mk (b16.keep Kg13.out Dg13_g17.out); replace Kg14 := Aside0.mk (b16.keep Kg14.out Dg14_g17.out); replace Kg16 := Aside0.mk (b16.keep Kg16.out Dg16_g17.out); replace HB := Aside0.mk (b16.below HB.out Gg17.out HB.out.size); replace Kg17 := Aside0.mk q16; clear b16) | ((with_reducible refine gate_dst (N := 49) rfl ?_); refine ev_ld1 rfl _ _ rfl g10 0 rfl Kg10.out (.int .u16 p.id) Try.underlying54 rfl (enc_0 p) ?_) | ((with_reducible refine gate_store (p := 51) rfl ?_); refine ev_st rfl 54 _ _ rfl g17 6 rfl rfl #[.int .u16 p.id] rfl info54 (by simp [Value.oneCell']) Kg17.out (by first | (rw [enc_size]; simp; done) | simp) (enc { p with root := r, rcost := rc, br := b, rp := p.id }) (enc_heldPort _ _) ?_; intro v17 q17 b17; replace Kg9 := Aside0.mk (b17.keep Kg9.out Dg9_g17.out); replace Kg10 := Aside0.mk (b17.keep Kg10.out Dg10_g17.out); replace Kg13 := Aside0.mk (b17.keep Kg13.out Dg13_g17.out); replace Kg14 := Aside0.mk (b17.keep Kg14.out Dg14_g17.out); replace Kg16 := Aside0.mk (b17.keep Kg16.out Dg16_g17.out); replace HB := Aside0.mk (b17.below HB.out Gg17.out HB.out.size); replace Kg17 := Aside0.mk q17; clear b17) | ((with_reducible refine gate_dst (N := 52) rfl ?_); refine ld58 Kg16.out rfl _ rfl rfl ?_) | ((with_reducible refine gate_dst (N := 53) rfl ?_); refine ld58 Kg17.out rfl _ rfl rfl ?_) | ((with_reducible refine gate_dst (N := 56) rfl ?_); (refine gate_guard (by rfl) ?_; dsimp only); refine ld58 Kg16.out rfl _ rfl rfl ?_) | ((with_reducible refine gate_dst (N := 58) rfl ?_); (refine gate_guard (by rfl) ?_; dsimp only); refine ev_ld1 rfl _ _ rfl g9 2 rfl Kg9.out (.int .u64 b) Try.underlying53 rfl (rfl) ?_) | (go_at_call 36; refine (Des_own p r rc b _).mono ?_; rintro e v18 ⟨rfl, b18⟩; replace Kg9 := Aside0.mk (blk_below Kg9.out b18); replace Kg10 := Aside0.mk (blk_below Kg10.out b18); replace Kg13 := Aside0.mk (blk_below Kg13.out b18); replace Kg14 := Aside0.mk (blk_below Kg14.out b18); replace Kg16 := Aside0.mk (blk_below Kg16.out b18); replace Kg17 := Aside0.mk (blk_below Kg17.out b18); replace HB := Aside0.mk (below_step HB.out b18); clear b18))
  have SS : B1 w g10 (enc p) _ := ⟨Kg10.out, HB.out⟩
  clear Kg9 Kg10 Kg13 Kg14 Kg16 Kg17
  refine startB (SS.step (drewB _)) (n := 18) [] #[false, false, false, false, false, false, false, false, false, false, false, false, false, false, false, false, false, false] (by kernel_rfl) rfl rfl (fun hHeld => ?_)
  refine pure_ (i := 1) (N := some 63) (v := ?_) (a' := ?_) #[false, true, false, false, false, false, false, false, false, false, false, false, false, false, false, false, false, false] rfl rfl (by kernel_rfl) (fun _ _ _ h => h) (Or.inl ⟨by rfl, ?_⟩) ?_ ?_
  rotate_left
  · intro w'
    go_simp
    with_reducible rfl
  rotate_left
  · simp only [Act.put, List.setIfInBounds_toArray, List.set_cons_zero, List.set_cons_succ, i64_w, i32_w]
    rfl
  refine pure_ (i := 3) (N := some 65) (v := ?_) (a' := ?_) #[false, true, false, true, false, false, false, false, false, false, false, false, false, false, false, false, false, false] rfl rfl (by kernel_rfl) (fun _ _ _ h => h) (Or.inl ⟨by rfl, ?_⟩) ?_ ?_
  rotate_left
  · intro w'
    go_simp
    with_reducible rfl
  rotate_left
  · simp only [Act.put, List.setIfInBounds_toArray, List.set_cons_zero, List.set_cons_succ, i64_w, i32_w]
    rfl
  refine pure_ (i := 4) (N := some 66) (v := ?_) (a' := ?_) #[false, true, false, true, true, false, false, false, false, false, false, false, false, false, false, false, false, false] rfl rfl (by kernel_rfl) (fun _ _ _ h => h) (Or.inl ⟨by rfl, ?_⟩) ?_ ?_
  rotate_left
  · intro w'
    go_simp
    with_reducible rfl
  rotate_left
  · simp only [Act.put, List.setIfInBounds_toArray, List.set_cons_zero, List.set_cons_succ, i64_w, i32_w]
    rfl
  refine pure_ (i := 6) (N := some 68) (v := ?_) (a' := ?_) #[false, true, false, true, true, false, true, false, false, false, false, false, false, false, false, false, false, false] rfl rfl (by kernel_rfl) (fun _ _ _ h => h) (Or.inl ⟨by rfl, ?_⟩) ?_ ?_
  rotate_left
  · intro w'
    go_simp
    with_reducible rfl
  rotate_left
  · simp only [Act.put, List.setIfInBounds_toArray, List.set_cons_zero, List.set_cons_succ, i64_w, i32_w]
    rfl
  refine take_ (i := 0) (N := some 62) (v := _) (a' := ?_) #[true, true, false, true, true, false, true, false, false, false, false, false, false, false, false, false, false, false] rfl rfl (by kernel_rfl) (fun _ _ _ h => h) (Or.inl ⟨by rfl, fun w2 h => run_ld58 h.k1 (.tmp 10) rfl rfl⟩) hHeld ?_ ?_
  rotate_left
  · simp only [Act.put, List.setIfInBounds_toArray, List.set_cons_zero, List.set_cons_succ, i64_w, i32_w]
    rfl
  refine take_ (i := 5) (N := some 67) (v := _) (a' := ?_) #[true, true, false, true, true, true, true, false, false, false, false, false, false, false, false, false, false, false] rfl rfl (by kernel_rfl) (fun _ _ _ h => h) (Or.inl ⟨by rfl, fun w2 h => run_ld1 h.k1 53 (.tmp 66) rfl rfl (u := .int .u64 p.br) Try.underlying53 rfl (enc_5 p)⟩) hHeld ?_ ?_
  rotate_left
  · simp only [Act.put, List.setIfInBounds_toArray, List.set_cons_zero, List.set_cons_succ, i64_w, i32_w]
    rfl
  refine pure_ (i := 7) (N := some 69) (v := .bool false) (a' := ?_) #[true, true, false, true, true, true, true, true, false, false, false, false, false, false, false, false, false, false] rfl rfl (by kernel_rfl) (fun _ _ _ h => h) (Or.inl ⟨by rfl, (fun w' => by rw [← C.out]; go_simp)⟩) ?_ ?_
  rotate_left
  · simp only [Act.put, List.setIfInBounds_toArray, List.set_cons_zero, List.set_cons_succ, i64_w, i32_w]
    rfl
  refine one_ (i := 2) (N := some 64) #[true, true, true, true, true, true, true, true, false, false, false, false, false, false, false, false, false, false] rfl rfl (by kernel_rfl) (by decide) (fun K hK => ?_)
  refine goes_ Try.func36 (by kernel_rfl) rfl #[.agg (enc p), .int .u64 x] (by rfl) rfl rfl (by (try simp only [List.map_toArray, List.map_cons, List.map_nil]); first | done | rfl) ?_
  refine (Designated_false p x C.out _).mono ?_
  rintro e w3 ⟨rfl, hb⟩
  refine ⟨_, rfl, ?_⟩
  refine hK.out _ _ (hHeld.step hb) (fun hHeld => ?_)
  clear hK K
  refine norm_ (a' := ?_) ?_ ?_
  rotate_left
  · show Act.put _ (some 64) _ = _
    simp only [Act.put, List.setIfInBounds_toArray, List.set_cons_zero, List.set_cons_succ, i64_w, i32_w]
    rfl
  refine pure_ (i := 8) (N := some 70) (v := ?_) (a' := ?_) #[true, true, true, true, true, true, true, true, true, false, false, false, false, false, false, false, false, false] rfl rfl (by kernel_rfl) (fun _ _ _ h => h) (Or.inl ⟨by rfl, ?_⟩) ?_ ?_
  rotate_left
  · intro w'
    go_simp
    with_reducible rfl
  rotate_left
  · simp only [Act.put, List.setIfInBounds_toArray, List.set_cons_zero, List.set_cons_succ, i64_w, i32_w]
    rfl
  refine pure_ (i := 9) (N := some 71) (v := undef) (a' := ?_) #[true, true, true, true, true, true, true, true, true, true, false, false, false, false, false, false, false, false] rfl rfl (by kernel_rfl) (fun _ _ _ h => h) (Or.inr ⟨by rfl, rfl⟩) ?_ ?_
  rotate_left
  · simp only [Act.put, List.setIfInBounds_toArray, List.set_cons_zero, List.set_cons_succ, i64_w, i32_w]
    rfl
  refine pure_ (i := 10) (N := some 72) (v := undef) (a' := ?_) #[true, true, true, true, true, true, true, true, true, true, true, false, false, false, false, false, false, false] rfl rfl (by kernel_rfl) (fun _ _ _ h => h) (Or.inr ⟨by rfl, rfl⟩) ?_ ?_
  rotate_left
  · simp only [Act.put, List.setIfInBounds_toArray, List.set_cons_zero, List.set_cons_succ, i64_w, i32_w]
    rfl
  refine pure_ (i := 11) (N := some 73) (v := undef) (a' := ?_) #[true, true, true, true, true, true, true, true, true, true, true, true, false, false, false, false, false, false] rfl rfl (by kernel_rfl) (fun _ _ _ h => h) (Or.inr ⟨by rfl, rfl⟩) ?_ ?_
  rotate_left
  · simp only [Act.put, List.setIfInBounds_toArray, List.set_cons_zero, List.set_cons_succ, i64_w, i32_w]
    rfl
  refine pure_ (i := 12) (N := some 74) (v := undef) (a' := ?_) #[true, true, true, true, true, true, true, true, true, true, true, true, true, false, false, false, false, false] rfl rfl (by kernel_rfl) (fun _ _ _ h => h) (Or.inr ⟨by rfl, rfl⟩) ?_ ?_
  rotate_left
  · simp only [Act.put, List.setIfInBounds_toArray, List.set_cons_zero, List.set_cons_succ, i64_w, i32_w]
    rfl
  refine pure_ (i := 13) (N := some 75) (v := undef) (a' := ?_) #[true, true, true, true, true, true, true, true, true, true, true, true, true, true, false, false, false, false] rfl rfl (by kernel_rfl) (fun _ _ _ h => h) (Or.inr ⟨by rfl, rfl⟩) ?_ ?_
  rotate_left
  · simp only [Act.put, List.setIfInBounds_toArray, List.set_cons_zero, List.set_cons_succ, i64_w, i32_w]
    rfl
  refine pure_ (i := 14) (N := some 76) (v := undef) (a' := ?_) #[true, true, true, true, true, true, true, true, true, true, true, true, true, true, true, false, false, false] rfl rfl (by kernel_rfl) (fun _ _ _ h => h) (Or.inr ⟨by rfl, rfl⟩) ?_ ?_
  rotate_left
  · simp only [Act.put, List.setIfInBounds_toArray, List.set_cons_zero, List.set_cons_succ, i64_w, i32_w]
    rfl
  refine pure_ (i := 15) (N := some 77) (v := ?_) (a' := ?_) #[true, true, true, true, true, true, true, true, true, true, true, true, true, true, true, true, false, false] rfl rfl (by kernel_rfl) (fun _ _ _ h => h) (Or.inl ⟨by rfl, ?_⟩) ?_ ?_
  rotate_left
  · intro w'
    go_simp
    with_reducible rfl
  rotate_left
  · simp only [Act.put, List.setIfInBounds_toArray, List.set_cons_zero, List.set_cons_succ, i64_w, i32_w]
    rfl
  refine pure_ (i := 16) (N := some 78) (v := ?_) (a' := ?_) #[true, true, true, true, true, true, true, true, true, true, true, true, true, true, true, true, true, false] rfl rfl (by kernel_rfl) (fun _ _ _ h => h) (Or.inl ⟨by rfl, ?_⟩) ?_ ?_
  rotate_left
  · intro w'
    go_simp
    with_reducible rfl
  rotate_left
  · simp only [Act.put, List.setIfInBounds_toArray, List.set_cons_zero, List.set_cons_succ, i64_w, i32_w]
    rfl
  refine pure_ (i := 17) (N := some 12) (v := ?_) (a' := ?_) #[true, true, true, true, true, true, true, true, true, true, true, true, true, true, true, true, true, true] rfl rfl (by kernel_rfl) (fun _ _ _ h => h) (Or.inl ⟨by rfl, ?_⟩) ?_ ?_
  rotate_left
  · intro w'
    go_simp
    with_reducible rfl
  rotate_left
  · simp only [Act.put, List.setIfInBounds_toArray, List.set_cons_zero, List.set_cons_succ, i64_w, i32_w]
    rfl
  refine done_ (by kernel_rfl) ?_
  go_wp2_with fail
  go_ret
  exact ⟨by simp, hHeld.below⟩

set_option maxHeartbeats 8000000 in
set_option maxRecDepth 100000 in
theorem Holds_false_true (p : Pt) (id cost r rc b q x : Int) (F : ∀ w, Calls Try.prog 33 #[.agg (enc p)] w fun e w' => e = .returned (.bool true) ∧ Below w.heap.size w w') (c : (p.br == x) = true) (w : World) : Calls Try.prog 11 #[.int .u16 id, .int .u32 cost, .bool false, .agg #[.int .u64 r, .int .u32 rc, .int .u64 b, .int .u16 q], .agg (enc p), .int .u64 x] w fun e w' => e = .returned (.bool true) ∧ Below w.heap.size w w' := by
  have C := Aside0.mk c
  clear c
  have HB := Aside0.mk (Below.refl w.heap.size w)
  go_enter Try.func11, Try.ntmps11
  go_wp2_with (first | ((with_reducible refine gate_dst (N := 9) rfl ?_); refine box_event rfl (N := 9) rfl (cs := #[.int .u64 r, .int .u32 rc, .int .u64 b, .int .u16 q]) (t := 56) (by first | (go_simp; done) | (go_simp; rfl)) ?_; intro g9 eg9 v1 Kg9 b1; have Gg9 := Aside0.mk (show w.heap.size ≤ g9 from by rw [eg9]; exact HB.out.size); replace HB := Aside0.mk (below_step HB.out b1); replace Kg9 := Aside0.mk Kg9; clear b1 eg9) | ((with_reducible refine gate_dst (N := 10) rfl ?_); refine box_event rfl (N := 10) rfl (cs := enc p) (t := 58) (by first | (go_simp; done) | (go_simp; rfl)) ?_; intro g10 eg10 v2 Kg10 b2; have Dg9_g10 := Aside0.mk (show g9 ≠ g10 from by have := blk_lt Kg9.out; omega); replace Kg9 := Aside0.mk (blk_below Kg9.out b2); have Gg10 := Aside0.mk (show w.heap.size ≤ g10 from by rw [eg10]; exact HB.out.size); replace HB := Aside0.mk (below_step HB.out b2); replace Kg10 := Aside0.mk Kg10; clear b2 eg10) | ((with_reducible refine gate_dst (N := 18) rfl ?_); refine goesL_ (some 18) rfl rfl Try.func32 (by kernel_rfl) rfl #[] rfl (by (try simp only [List.map_toArray, List.map_cons, List.map_nil]); first | done | rfl) ?_; refine (awake_calls _).mono ?_; rintro e v3 ⟨rfl, b3⟩; refine ⟨_, rfl, ?_⟩; replace Kg9 := Aside0.mk (blk_below Kg9.out b3); replace Kg10 := Aside0.mk (blk_below Kg10.out b3); replace HB := Aside0.mk (below_step HB.out b3); clear b3) | ((with_reducible refine gate_dst (N := 21) rfl ?_); (refine gate_guard (by rfl) ?_; dsimp only); refine ld58 Kg10.out rfl _ rfl rfl ?_) | (go_at_call 33; refine (F _).mono ?_; rintro e v4 ⟨rfl, b4⟩; replace Kg9 := Aside0.mk (blk_below Kg9.out b4); replace Kg10 := Aside0.mk (blk_below Kg10.out b4); replace HB := Aside0.mk (below_step HB.out b4); clear b4) | ((with_reducible refine gate_dst (N := 26) rfl ?_); refine ev_ld rfl _ _ rfl g9 0 rfl Kg9.out #[.int .u64 r, .int .u32 rc, .int .u64 b, .int .u16 q] Try.underlying56 rfl info56 (fun j u hj => by simpa using hj) ?_) | ((with_reducible refine gate_dst (N := 13) rfl ?_); refine box_event rfl (N := 13) rfl (cs := #[.int .u64 0, .int .u32 0, .int .u64 0, .int .u16 0]) (t := 56) (by first | (go_simp; done) | (go_simp; rfl)) ?_; intro g13 eg13 v5 Kg13 b5; have Dg9_g13 := Aside0.mk (show g9 ≠ g13 from by have := blk_lt Kg9.out; omega); replace Kg9 := Aside0.mk (blk_below Kg9.out b5); have Dg10_g13 := Aside0.mk (show g10 ≠ g13 from by have := blk_lt Kg10.out; omega); replace Kg10 := Aside0.mk (blk_below Kg10.out b5); have Gg13 := Aside0.mk (show w.heap.size ≤ g13 from by rw [eg13]; exact HB.out.size); replace HB := Aside0.mk (below_step HB.out b5); replace Kg13 := Aside0.mk Kg13; clear b5 eg13) | ((with_reducible refine gate_store (p := 13) rfl ?_); refine ev_st rfl 56 _ _ rfl g13 0 rfl rfl #[.int .u64 r, .int .u32 rc, .int .u64 b, .int .u16 q] rfl info56 (by simp [Value.oneCell']) Kg13.out (by first | (rw [enc_size]; simp; done) | simp) (#[.int .u64 r, .int .u32 rc, .int .u64 b, .int .u16 q]) rfl ?_; intro v6 q6 b6; replace Kg9 := Aside0.mk (b6.keep Kg9.out Dg9_g13.out); replace Kg10 := Aside0.mk (b6.keep Kg10.out Dg10_g13.out); replace HB := Aside0.mk (b6.below HB.out Gg13.out HB.out.size); replace Kg13 := Aside0.mk q6; clear b6) | ((with_reducible refine gate_store (p := 28) rfl ?_); refine ev_st rfl 54 _ _ rfl g13 3 rfl rfl #[.int .u16 id] rfl info54 (by simp [Value.oneCell']) Kg13.out (by first | (rw [enc_size]; simp; done) | simp) (#[.int .u64 r, .int .u32 rc, .int .u64 b, .int .u16 id]) rfl ?_; intro v7 q7 b7; replace Kg9 := Aside0.mk (b7.keep Kg9.out Dg9_g13.out); replace Kg10 := Aside0.mk (b7.keep Kg10.out Dg10_g13.out); replace HB := Aside0.mk (b7.below HB.out Gg13.out HB.out.size); replace Kg13 := Aside0.mk q7; clear b7) | ((with_reducible refine gate_dst (N := 32) rfl ?_); refine ev_ld rfl _ _ rfl g9 0 rfl Kg9.out #[.int .u64 r, .int .u32 rc, .int .u64 b, .int .u16 q] Try.underlying56 rfl info56 (fun j u hj => by simpa using hj) ?_) | ((with_reducible refine gate_dst (N := 33) rfl ?_); refine goesL_ (some 33) rfl rfl Try.func34 (by kernel_rfl) rfl #[.int .u16 id, .int .u32 cost, .bool false, .agg #[.int .u64 r, .int .u32 rc, .int .u64 b, .int .u16 q]] rfl (by (try simp only [List.map_toArray, List.map_cons, List.map_nil]); first | done | rfl) ?_; refine (New_false id cost r rc b q _).mono ?_; rintro e v8 ⟨rfl, b8⟩; refine ⟨_, rfl, ?_⟩; replace Kg9 := Aside0.mk (blk_below Kg9.out b8); replace Kg10 := Aside0.mk (blk_below Kg10.out b8); replace Kg13 := Aside0.mk (blk_below Kg13.out b8); replace HB := Aside0.mk (below_step HB.out b8); clear b8) | ((with_reducible refine gate_dst (N := 14) rfl ?_); refine box_event rfl (N := 14) rfl (cs := #[.int .u16 0, .int .i64 0, .int .u32 0, .int .u64 0, .int .u32 0, .int .u64 0, .int .u16 0, .bool false, .bool false, .bool false, .int .i64 0, .bool false, .int .i64 0, .bool false, .int .i64 0]) (t := 58) (by first | (go_simp; done) | (go_simp; rfl)) ?_; intro g14 eg14 v9 Kg14 b9; have Dg9_g14 := Aside0.mk (show g9 ≠ g14 from by have := blk_lt Kg9.out; omega); replace Kg9 := Aside0.mk (blk_below Kg9.out b9); have Dg10_g14 := Aside0.mk (show g10 ≠ g14 from by have := blk_lt Kg10.out; omega); replace Kg10 := Aside0.mk (blk_below Kg10.out b9); have Dg13_g14 := Aside0.mk (show g13 ≠ g14 from by have := blk_lt Kg13.out; omega); replace Kg13 := Aside0.mk (blk_below Kg13.out b9); have Gg14 := Aside0.mk (show w.heap.size ≤ g14 from by rw [eg14]; exact HB.out.size); replace HB := Aside0.mk (below_step HB.out b9); replace Kg14 := Aside0.mk Kg14; clear b9 eg14) | ((with_reducible refine gate_store (p := 14) rfl ?_); refine st58 (p := { id := id, st := 0, cost := cost, root := r, rcost := rc, br := b, rp := id, c7 := false, c8 := false, aOn := false, aV := 0, dOn := false, dV := 0, hOn := false, hV := 0 }) Kg14.out (by first | exact enc_size _ | rfl) rfl _ _ rfl rfl rfl ?_; intro v10 q10 b10; replace Kg9 := Aside0.mk (b10.keep Kg9.out Dg9_g14.out); replace Kg10 := Aside0.mk (b10.keep Kg10.out Dg10_g14.out); replace Kg13 := Aside0.mk (b10.keep Kg13.out Dg13_g14.out); replace HB := Aside0.mk (b10.below HB.out Gg14.out HB.out.size); replace Kg14 := Aside0.mk q10; clear b10) | ((with_reducible refine gate_dst (N := 35) rfl ?_); refine ld58 Kg14.out rfl _ rfl rfl ?_) | ((with_reducible refine gate_dst (N := 39) rfl ?_); refine ev_ld rfl _ _ rfl g13 0 rfl Kg13.out #[.int .u64 r, .int .u32 rc, .int .u64 b, .int .u16 id] Try.underlying56 rfl info56 (fun j u hj => by simpa using hj) ?_) | ((with_reducible refine gate_dst (N := 40) rfl ?_); refine Kd.event_run rfl (v := .agg (enc { id := id, st := 0, cost := cost, root := r, rcost := rc, br := b, rp := id, c7 := false, c8 := false, aOn := false, aV := 0, dOn := false, dV := 0, hOn := false, hV := 0 })) (by unfold enc; first | (go_simp; done) | (go_simp; rfl)) ?_) | ((with_reducible refine gate_dst (N := 42) rfl ?_); refine ld58 Kg10.out rfl _ rfl rfl ?_) | ((with_reducible refine gate_dst (N := 43) rfl ?_); refine ev_ld rfl _ _ rfl g9 0 rfl Kg9.out #[.int .u64 r, .int .u32 rc, .int .u64 b, .int .u16 q] Try.underlying56 rfl info56 (fun j u hj => by simpa using hj) ?_) | ((with_reducible refine gate_dst (N := 44) rfl ?_); refine goesL_ (some 44) rfl rfl Try.func35 (by kernel_rfl) rfl #[.agg (enc p), .agg #[.int .u64 r, .int .u32 rc, .int .u64 b, .int .u16 q]] rfl (by (try simp only [List.map_toArray, List.map_cons, List.map_nil]); first | done | rfl) ?_; refine (Become_calls p r rc b q _).mono ?_; rintro e v11 ⟨rfl, b11⟩; refine ⟨_, rfl, ?_⟩; replace Kg9 := Aside0.mk (blk_below Kg9.out b11); replace Kg10 := Aside0.mk (blk_below Kg10.out b11); replace Kg13 := Aside0.mk (blk_below Kg13.out b11); replace Kg14 := Aside0.mk (blk_below Kg14.out b11); replace HB := Aside0.mk (below_step HB.out b11); clear b11) | ((with_reducible refine gate_dst (N := 16) rfl ?_); refine box_event rfl (N := 16) rfl (cs := #[.int .u16 0, .int .i64 0, .int .u32 0, .int .u64 0, .int .u32 0, .int .u64 0, .int .u16 0, .bool false, .bool false, .bool false, .int .i64 0, .bool false, .int .i64 0, .bool false, .int .i64 0]) (t := 58) (by first | (go_simp; done) | (go_simp; rfl)) ?_; intro g16 eg16 v12 Kg16 b12; have Dg9_g16 := Aside0.mk (show g9 ≠ g16 from by have := blk_lt Kg9.out; omega); replace Kg9 := Aside0.mk (blk_below Kg9.out b12); have Dg10_g16 := Aside0.mk (show g10 ≠ g16 from by have := blk_lt Kg10.out; omega); replace Kg10 := Aside0.mk (blk_below Kg10.out b12); have Dg13_g16 := Aside0.mk (show g13 ≠ g16 from by have := blk_lt Kg13.out; omega); replace Kg13 := Aside0.mk (blk_below Kg13.out b12); have Dg14_g16 := Aside0.mk (show g14 ≠ g16 from by have := blk_lt Kg14.out; omega); replace Kg14 := Aside0.mk (blk_below Kg14.out b12); have Gg16 := Aside0.mk (show w.heap.size ≤ g16 from by rw [eg16]; exact HB.out.size); replace HB := Aside0.mk (below_step HB.out b12); replace Kg16 := Aside0.mk Kg16; clear b12 eg16) | ((with_reducible refine gate_store (p := 16) rfl ?_); refine st58 (p := { p with root := r, rcost := rc, br := b, rp := p.id }) Kg16.out (by first | exact enc_size _ | rfl) rfl _ _ rfl rfl rfl ?_; intro v13 q13 b13; replace Kg9 := Aside0.mk (b13.keep Kg9.out Dg9_g16.out); replace Kg10 := Aside0.mk (b13.keep Kg10.out Dg10_g16.out); replace Kg13 := Aside0.mk (b13.keep Kg13.out Dg13_g16.out); replace Kg14 := Aside0.mk (b13.keep Kg14.out Dg14_g16.out); replace HB := Aside0.mk (b13.below HB.out Gg16.out HB.out.size); replace Kg16 := Aside0.mk q13; clear b13) | ((with_reducible refine gate_dst (N := 45) rfl ?_); refine ld58 Kg10.out rfl _ rfl rfl ?_) | ((with_reducible refine gate_dst (N := 17) rfl ?_); refine box_event rfl (N := 17) rfl (cs := #[.int .u16 0, .int .i64 0, .int .u32 0, .int .u64 0, .int .u32 0, .int .u64 0, .int .u16 0, .bool false, .bool false, .bool false, .int .i64 0, .bool false, .int .i64 0, .bool false, .int .i64 0]) (t := 58) (by first | (go_simp; done) | (go_simp; rfl)) ?_; intro g17 eg17 v14 Kg17 b14; have Dg9_g17 := Aside0.mk (show g9 ≠ g17 from by have := blk_lt Kg9.out; omega); replace Kg9 := Aside0.mk (blk_below Kg9.out b14); have Dg10_g17 := Aside0.mk (show g10 ≠ g17 from by have := blk_lt Kg10.out; omega); replace Kg10 := Aside0.mk (blk_below Kg10.out b14); have Dg13_g17 := Aside0.mk (show g13 ≠ g17 from by have := blk_lt Kg13.out; omega); replace Kg13 := Aside0.mk (blk_below Kg13.out b14); have Dg14_g17 := Aside0.mk (show g14 ≠ g17 from by have := blk_lt Kg14.out; omega); replace Kg14 := Aside0.mk (blk_below Kg14.out b14); have Dg16_g17 := Aside0.mk (show g16 ≠ g17 from by have := blk_lt Kg16.out; omega); replace Kg16 := Aside0.mk (blk_below Kg16.out b14); have Gg17 := Aside0.mk (show w.heap.size ≤ g17 from by rw [eg17]; exact HB.out.size); replace HB := Aside0.mk (below_step HB.out b14); replace Kg17 := Aside0.mk Kg17; clear b14 eg17) | ((with_reducible refine gate_store (p := 17) rfl ?_); refine st58 (p := p) Kg17.out (by first | exact enc_size _ | rfl) rfl _ _ rfl rfl rfl ?_; intro v15 q15 b15; replace Kg9 := Aside0.mk (b15.keep Kg9.out Dg9_g17.out); replace Kg10 := Aside0.mk (b15.keep Kg10.out Dg10_g17.out); replace Kg13 := Aside0.mk (b15.keep Kg13.out Dg13_g17.out); replace Kg14 := Aside0.mk (b15.keep Kg14.out Dg14_g17.out); replace Kg16 := Aside0.mk (b15.keep Kg16.out Dg16_g17.out); replace HB := Aside0.mk (b15.below HB.out Gg17.out HB.out.size); replace Kg17 := Aside0.mk q15; clear b15) | ((with_reducible refine gate_dst (N := 46) rfl ?_); refine ev_ld rfl _ _ rfl g9 0 rfl Kg9.out #[.int .u64 r, .int .u32 rc, .int .u64 b, .int .u16 q] Try.underlying56 rfl info56 (fun j u hj => by simpa using hj) ?_) | ((with_reducible refine gate_store (p := 47) rfl ?_); refine ev_st rfl 56 _ _ rfl g17 3 rfl rfl #[.int .u64 r, .int .u32 rc, .int .u64 b, .int .u16 q] rfl info56 (by simp [Value.oneCell']) Kg17.out (by first | (rw [enc_size]; simp; done) | simp) (enc { p with root := r, rcost := rc, br := b, rp := q }) (enc_held _ _ _ _ _) ?_; intro v16 q16 b16; replace Kg9 := Aside0.mk (b16.keep Kg9.out Dg9_g17.out); replace Kg10 := Aside0.mk (b16.keep Kg10.out Dg10_g17.out); replace Kg13 := Aside0.mk (b16.keep Kg13.out Dg13_g17.out); replace Kg14 := Aside0.mk (b16.keep Kg14.out Dg14_g17.out); replace Kg16 := Aside0.mk (b16.keep Kg16.out Dg16_g17.out); replace HB := Aside0.mk (b16.below HB.out Gg17.out HB.out.size); replace Kg17 := Aside0.mk q16; clear b16) | ((with_reducible refine gate_dst (N := 49) rfl ?_); refine ev_ld1 rfl _ _ rfl g10 0 rfl Kg10.out (.int .u16 p.id) Try.underlying54 rfl (enc_0 p) ?_) | ((with_reducible refine gate_store (p := 51) rfl ?_); refine ev_st rfl 54 _ _ rfl g17 6 rfl rfl #[.int .u16 p.id] rfl info54 (by simp [Value.oneCell']) Kg17.out (by first | (rw [enc_size]; simp; done) | simp) (enc { p with root := r, rcost := rc, br := b, rp := p.id }) (enc_heldPort _ _) ?_; intro v17 q17 b17; replace Kg9 := Aside0.mk (b17.keep Kg9.out Dg9_g17.out); replace Kg10 := Aside0.mk (b17.keep Kg10.out Dg10_g17.out); replace Kg13 := Aside0.mk (b17.keep Kg13.out Dg13_g17.out); replace Kg14 := Aside0.mk (b17.keep Kg14.out Dg14_g17.out); replace Kg16 := Aside0.mk (b17.keep Kg16.out Dg16_g17.out); replace HB := Aside0.mk (b17.below HB.out Gg17.out HB.out.size); replace Kg17 := Aside0.mk q17; clear b17) | ((with_reducible refine gate_dst (N := 52) rfl ?_); refine ld58 Kg16.out rfl _ rfl rfl ?_) | ((with_reducible refine gate_dst (N := 53) rfl ?_); refine ld58 Kg17.out rfl _ rfl rfl ?_) | ((with_reducible refine gate_dst (N := 56) rfl ?_); (refine gate_guard (by rfl) ?_; dsimp only); refine ld58 Kg16.out rfl _ rfl rfl ?_) | ((with_reducible refine gate_dst (N := 58) rfl ?_); (refine gate_guard (by rfl) ?_; dsimp only); refine ev_ld1 rfl _ _ rfl g9 2 rfl Kg9.out (.int .u64 b) Try.underlying53 rfl (rfl) ?_) | (go_at_call 36; refine (Des_own p r rc b _).mono ?_; rintro e v18 ⟨rfl, b18⟩; replace Kg9 := Aside0.mk (blk_below Kg9.out b18); replace Kg10 := Aside0.mk (blk_below Kg10.out b18); replace Kg13 := Aside0.mk (blk_below Kg13.out b18); replace Kg14 := Aside0.mk (blk_below Kg14.out b18); replace Kg16 := Aside0.mk (blk_below Kg16.out b18); replace Kg17 := Aside0.mk (blk_below Kg17.out b18); replace HB := Aside0.mk (below_step HB.out b18); clear b18))
  have SS : B1 w g10 (enc p) _ := ⟨Kg10.out, HB.out⟩
  clear Kg9 Kg10 Kg13 Kg14 Kg16 Kg17
  refine startB (SS.step (drewB _)) (n := 18) [] #[false, false, false, false, false, false, false, false, false, false, false, false, false, false, false, false, false, false] (by kernel_rfl) rfl rfl (fun hHeld => ?_)
  refine pure_ (i := 1) (N := some 63) (v := ?_) (a' := ?_) #[false, true, false, false, false, false, false, false, false, false, false, false, false, false, false, false, false, false] rfl rfl (by kernel_rfl) (fun _ _ _ h => h) (Or.inl ⟨by rfl, ?_⟩) ?_ ?_
  rotate_left
  · intro w'
    go_simp
    with_reducible rfl
  rotate_left
  · simp only [Act.put, List.setIfInBounds_toArray, List.set_cons_zero, List.set_cons_succ, i64_w, i32_w]
    rfl
  refine pure_ (i := 3) (N := some 65) (v := ?_) (a' := ?_) #[false, true, false, true, false, false, false, false, false, false, false, false, false, false, false, false, false, false] rfl rfl (by kernel_rfl) (fun _ _ _ h => h) (Or.inl ⟨by rfl, ?_⟩) ?_ ?_
  rotate_left
  · intro w'
    go_simp
    with_reducible rfl
  rotate_left
  · simp only [Act.put, List.setIfInBounds_toArray, List.set_cons_zero, List.set_cons_succ, i64_w, i32_w]
    rfl
  refine pure_ (i := 4) (N := some 66) (v := ?_) (a' := ?_) #[false, true, false, true, true, false, false, false, false, false, false, false, false, false, false, false, false, false] rfl rfl (by kernel_rfl) (fun _ _ _ h => h) (Or.inl ⟨by rfl, ?_⟩) ?_ ?_
  rotate_left
  · intro w'
    go_simp
    with_reducible rfl
  rotate_left
  · simp only [Act.put, List.setIfInBounds_toArray, List.set_cons_zero, List.set_cons_succ, i64_w, i32_w]
    rfl
  refine pure_ (i := 6) (N := some 68) (v := ?_) (a' := ?_) #[false, true, false, true, true, false, true, false, false, false, false, false, false, false, false, false, false, false] rfl rfl (by kernel_rfl) (fun _ _ _ h => h) (Or.inl ⟨by rfl, ?_⟩) ?_ ?_
  rotate_left
  · intro w'
    go_simp
    with_reducible rfl
  rotate_left
  · simp only [Act.put, List.setIfInBounds_toArray, List.set_cons_zero, List.set_cons_succ, i64_w, i32_w]
    rfl
  refine take_ (i := 0) (N := some 62) (v := _) (a' := ?_) #[true, true, false, true, true, false, true, false, false, false, false, false, false, false, false, false, false, false] rfl rfl (by kernel_rfl) (fun _ _ _ h => h) (Or.inl ⟨by rfl, fun w2 h => run_ld58 h.k1 (.tmp 10) rfl rfl⟩) hHeld ?_ ?_
  rotate_left
  · simp only [Act.put, List.setIfInBounds_toArray, List.set_cons_zero, List.set_cons_succ, i64_w, i32_w]
    rfl
  refine take_ (i := 5) (N := some 67) (v := _) (a' := ?_) #[true, true, false, true, true, true, true, false, false, false, false, false, false, false, false, false, false, false] rfl rfl (by kernel_rfl) (fun _ _ _ h => h) (Or.inl ⟨by rfl, fun w2 h => run_ld1 h.k1 53 (.tmp 66) rfl rfl (u := .int .u64 p.br) Try.underlying53 rfl (enc_5 p)⟩) hHeld ?_ ?_
  rotate_left
  · simp only [Act.put, List.setIfInBounds_toArray, List.set_cons_zero, List.set_cons_succ, i64_w, i32_w]
    rfl
  refine pure_ (i := 7) (N := some 69) (v := .bool true) (a' := ?_) #[true, true, false, true, true, true, true, true, false, false, false, false, false, false, false, false, false, false] rfl rfl (by kernel_rfl) (fun _ _ _ h => h) (Or.inl ⟨by rfl, (fun w' => by have ee : p.br = x := (by simpa using C.out); subst ee; go_simp)⟩) ?_ ?_
  rotate_left
  · simp only [Act.put, List.setIfInBounds_toArray, List.set_cons_zero, List.set_cons_succ, i64_w, i32_w]
    rfl
  refine one_ (i := 2) (N := some 64) #[true, true, true, true, true, true, true, true, false, false, false, false, false, false, false, false, false, false] rfl rfl (by kernel_rfl) (by decide) (fun K hK => ?_)
  refine goes_ Try.func36 (by kernel_rfl) rfl #[.agg (enc p), .int .u64 x] (by rfl) rfl rfl (by (try simp only [List.map_toArray, List.map_cons, List.map_nil]); first | done | rfl) ?_
  refine (Designated_true p x C.out _).mono ?_
  rintro e w3 ⟨rfl, hb⟩
  refine ⟨_, rfl, ?_⟩
  refine hK.out _ _ (hHeld.step hb) (fun hHeld => ?_)
  clear hK K
  refine norm_ (a' := ?_) ?_ ?_
  rotate_left
  · show Act.put _ (some 64) _ = _
    simp only [Act.put, List.setIfInBounds_toArray, List.set_cons_zero, List.set_cons_succ, i64_w, i32_w]
    rfl
  refine pure_ (i := 8) (N := some 70) (v := ?_) (a' := ?_) #[true, true, true, true, true, true, true, true, true, false, false, false, false, false, false, false, false, false] rfl rfl (by kernel_rfl) (fun _ _ _ h => h) (Or.inl ⟨by rfl, ?_⟩) ?_ ?_
  rotate_left
  · intro w'
    go_simp
    with_reducible rfl
  rotate_left
  · simp only [Act.put, List.setIfInBounds_toArray, List.set_cons_zero, List.set_cons_succ, i64_w, i32_w]
    rfl
  refine pure_ (i := 9) (N := some 71) (v := ?_) (a' := ?_) #[true, true, true, true, true, true, true, true, true, true, false, false, false, false, false, false, false, false] rfl rfl (by kernel_rfl) (fun _ _ _ h => h) (Or.inl ⟨by rfl, ?_⟩) ?_ ?_
  rotate_left
  · intro w'
    go_simp
    with_reducible rfl
  rotate_left
  · simp only [Act.put, List.setIfInBounds_toArray, List.set_cons_zero, List.set_cons_succ, i64_w, i32_w]
    rfl
  refine pure_ (i := 10) (N := some 72) (v := ?_) (a' := ?_) #[true, true, true, true, true, true, true, true, true, true, true, false, false, false, false, false, false, false] rfl rfl (by kernel_rfl) (fun _ _ _ h => h) (Or.inl ⟨by rfl, ?_⟩) ?_ ?_
  rotate_left
  · intro w'
    go_simp
    with_reducible rfl
  rotate_left
  · simp only [Act.put, List.setIfInBounds_toArray, List.set_cons_zero, List.set_cons_succ, i64_w, i32_w]
    rfl
  refine pure_ (i := 12) (N := some 74) (v := ?_) (a' := ?_) #[true, true, true, true, true, true, true, true, true, true, true, false, true, false, false, false, false, false] rfl rfl (by kernel_rfl) (fun _ _ _ h => h) (Or.inl ⟨by rfl, ?_⟩) ?_ ?_
  rotate_left
  · intro w'
    go_simp
    with_reducible rfl
  rotate_left
  · simp only [Act.put, List.setIfInBounds_toArray, List.set_cons_zero, List.set_cons_succ, i64_w, i32_w]
    rfl
  refine take_ (i := 11) (N := some 73) (v := _) (a' := ?_) #[true, true, true, true, true, true, true, true, true, true, true, true, true, false, false, false, false, false] rfl rfl (by kernel_rfl) (fun _ _ _ h => h) (Or.inl ⟨by rfl, fun w2 h => run_ld1 h.k1 54 (.tmp 72) rfl rfl (u := .int .u16 p.rp) Try.underlying54 rfl (enc_6 p)⟩) hHeld ?_ ?_
  rotate_left
  · simp only [Act.put, List.setIfInBounds_toArray, List.set_cons_zero, List.set_cons_succ, i64_w, i32_w]
    rfl
  refine take_ (i := 13) (N := some 75) (v := _) (a' := ?_) #[true, true, true, true, true, true, true, true, true, true, true, true, true, true, false, false, false, false] rfl rfl (by kernel_rfl) (fun _ _ _ h => h) (Or.inl ⟨by rfl, fun w2 h => run_ld1 h.k1 54 (.tmp 74) rfl rfl (u := .int .u16 p.id) Try.underlying54 rfl (enc_0 p)⟩) hHeld ?_ ?_
  rotate_left
  · simp only [Act.put, List.setIfInBounds_toArray, List.set_cons_zero, List.set_cons_succ, i64_w, i32_w]
    rfl
  refine pure_ (i := 14) (N := some 76) (v := ?_) (a' := ?_) #[true, true, true, true, true, true, true, true, true, true, true, true, true, true, true, false, false, false] rfl rfl (by kernel_rfl) (fun _ _ _ h => h) (Or.inl ⟨by rfl, ?_⟩) ?_ ?_
  rotate_left
  · intro w'
    go_simp
    with_reducible rfl
  rotate_left
  · simp only [Act.put, List.setIfInBounds_toArray, List.set_cons_zero, List.set_cons_succ, i64_w, i32_w]
    rfl
  refine pure_ (i := 15) (N := some 77) (v := ?_) (a' := ?_) #[true, true, true, true, true, true, true, true, true, true, true, true, true, true, true, true, false, false] rfl rfl (by kernel_rfl) (fun _ _ _ h => h) (Or.inl ⟨by rfl, ?_⟩) ?_ ?_
  rotate_left
  · intro w'
    go_simp
    with_reducible rfl
  rotate_left
  · simp only [Act.put, List.setIfInBounds_toArray, List.set_cons_zero, List.set_cons_succ, i64_w, i32_w]
    rfl
  refine pure_ (i := 16) (N := some 78) (v := ?_) (a' := ?_) #[true, true, true, true, true, true, true, true, true, true, true, true, true, true, true, true, true, false] rfl rfl (by kernel_rfl) (fun _ _ _ h => h) (Or.inl ⟨by rfl, ?_⟩) ?_ ?_
  rotate_left
  · intro w'
    go_simp
    with_reducible rfl
  rotate_left
  · simp only [Act.put, List.setIfInBounds_toArray, List.set_cons_zero, List.set_cons_succ, i64_w, i32_w]
    rfl
  refine pure_ (i := 17) (N := some 12) (v := ?_) (a' := ?_) #[true, true, true, true, true, true, true, true, true, true, true, true, true, true, true, true, true, true] rfl rfl (by kernel_rfl) (fun _ _ _ h => h) (Or.inl ⟨by rfl, ?_⟩) ?_ ?_
  rotate_left
  · intro w'
    go_simp
    with_reducible rfl
  rotate_left
  · simp only [Act.put, List.setIfInBounds_toArray, List.set_cons_zero, List.set_cons_succ, i64_w, i32_w]
    rfl
  refine done_ (by kernel_rfl) ?_
  go_wp2_with fail
  go_ret
  exact ⟨by simp, hHeld.below⟩

set_option maxHeartbeats 8000000 in
set_option maxRecDepth 100000 in
theorem Holds_false_false (p : Pt) (id cost r rc b q x : Int) (F : ∀ w, Calls Try.prog 33 #[.agg (enc p)] w fun e w' => e = .returned (.bool true) ∧ Below w.heap.size w w') (c : (p.br == x) = false) (w : World) : Calls Try.prog 11 #[.int .u16 id, .int .u32 cost, .bool false, .agg #[.int .u64 r, .int .u32 rc, .int .u64 b, .int .u16 q], .agg (enc p), .int .u64 x] w fun e w' => e = .returned (.bool true) ∧ Below w.heap.size w w' := by
  have C := Aside0.mk c
  clear c
  have HB := Aside0.mk (Below.refl w.heap.size w)
  go_enter Try.func11, Try.ntmps11
  go_wp2_with (first | ((with_reducible refine gate_dst (N := 9) rfl ?_); refine box_event rfl (N := 9) rfl (cs := #[.int .u64 r, .int .u32 rc, .int .u64 b, .int .u16 q]) (t := 56) (by first | (go_simp; done) | (go_simp; rfl)) ?_; intro g9 eg9 v1 Kg9 b1; have Gg9 := Aside0.mk (show w.heap.size ≤ g9 from by rw [eg9]; exact HB.out.size); replace HB := Aside0.mk (below_step HB.out b1); replace Kg9 := Aside0.mk Kg9; clear b1 eg9) | ((with_reducible refine gate_dst (N := 10) rfl ?_); refine box_event rfl (N := 10) rfl (cs := enc p) (t := 58) (by first | (go_simp; done) | (go_simp; rfl)) ?_; intro g10 eg10 v2 Kg10 b2; have Dg9_g10 := Aside0.mk (show g9 ≠ g10 from by have := blk_lt Kg9.out; omega); replace Kg9 := Aside0.mk (blk_below Kg9.out b2); have Gg10 := Aside0.mk (show w.heap.size ≤ g10 from by rw [eg10]; exact HB.out.size); replace HB := Aside0.mk (below_step HB.out b2); replace Kg10 := Aside0.mk Kg10; clear b2 eg10) | ((with_reducible refine gate_dst (N := 18) rfl ?_); refine goesL_ (some 18) rfl rfl Try.func32 (by kernel_rfl) rfl #[] rfl (by (try simp only [List.map_toArray, List.map_cons, List.map_nil]); first | done | rfl) ?_; refine (awake_calls _).mono ?_; rintro e v3 ⟨rfl, b3⟩; refine ⟨_, rfl, ?_⟩; replace Kg9 := Aside0.mk (blk_below Kg9.out b3); replace Kg10 := Aside0.mk (blk_below Kg10.out b3); replace HB := Aside0.mk (below_step HB.out b3); clear b3) | ((with_reducible refine gate_dst (N := 21) rfl ?_); (refine gate_guard (by rfl) ?_; dsimp only); refine ld58 Kg10.out rfl _ rfl rfl ?_) | (go_at_call 33; refine (F _).mono ?_; rintro e v4 ⟨rfl, b4⟩; replace Kg9 := Aside0.mk (blk_below Kg9.out b4); replace Kg10 := Aside0.mk (blk_below Kg10.out b4); replace HB := Aside0.mk (below_step HB.out b4); clear b4) | ((with_reducible refine gate_dst (N := 26) rfl ?_); refine ev_ld rfl _ _ rfl g9 0 rfl Kg9.out #[.int .u64 r, .int .u32 rc, .int .u64 b, .int .u16 q] Try.underlying56 rfl info56 (fun j u hj => by simpa using hj) ?_) | ((with_reducible refine gate_dst (N := 13) rfl ?_); refine box_event rfl (N := 13) rfl (cs := #[.int .u64 0, .int .u32 0, .int .u64 0, .int .u16 0]) (t := 56) (by first | (go_simp; done) | (go_simp; rfl)) ?_; intro g13 eg13 v5 Kg13 b5; have Dg9_g13 := Aside0.mk (show g9 ≠ g13 from by have := blk_lt Kg9.out; omega); replace Kg9 := Aside0.mk (blk_below Kg9.out b5); have Dg10_g13 := Aside0.mk (show g10 ≠ g13 from by have := blk_lt Kg10.out; omega); replace Kg10 := Aside0.mk (blk_below Kg10.out b5); have Gg13 := Aside0.mk (show w.heap.size ≤ g13 from by rw [eg13]; exact HB.out.size); replace HB := Aside0.mk (below_step HB.out b5); replace Kg13 := Aside0.mk Kg13; clear b5 eg13) | ((with_reducible refine gate_store (p := 13) rfl ?_); refine ev_st rfl 56 _ _ rfl g13 0 rfl rfl #[.int .u64 r, .int .u32 rc, .int .u64 b, .int .u16 q] rfl info56 (by simp [Value.oneCell']) Kg13.out (by first | (rw [enc_size]; simp; done) | simp) (#[.int .u64 r, .int .u32 rc, .int .u64 b, .int .u16 q]) rfl ?_; intro v6 q6 b6; replace Kg9 := Aside0.mk (b6.keep Kg9.out Dg9_g13.out); replace Kg10 := Aside0.mk (b6.keep Kg10.out Dg10_g13.out); replace HB := Aside0.mk (b6.below HB.out Gg13.out HB.out.size); replace Kg13 := Aside0.mk q6; clear b6) | ((with_reducible refine gate_store (p := 28) rfl ?_); refine ev_st rfl 54 _ _ rfl g13 3 rfl rfl #[.int .u16 id] rfl info54 (by simp [Value.oneCell']) Kg13.out (by first | (rw [enc_size]; simp; done) | simp) (#[.int .u64 r, .int .u32 rc, .int .u64 b, .int .u16 id]) rfl ?_; intro v7 q7 b7; replace Kg9 := Aside0.mk (b7.keep Kg9.out Dg9_g13.out); replace Kg10 := Aside0.mk (b7.keep Kg10.out Dg10_g13.out); replace HB := Aside0.mk (b7.below HB.out Gg13.out HB.out.size); replace Kg13 := Aside0.mk q7; clear b7) | ((with_reducible refine gate_dst (N := 32) rfl ?_); refine ev_ld rfl _ _ rfl g9 0 rfl Kg9.out #[.int .u64 r, .int .u32 rc, .int .u64 b, .int .u16 q] Try.underlying56 rfl info56 (fun j u hj => by simpa using hj) ?_) | ((with_reducible refine gate_dst (N := 33) rfl ?_); refine goesL_ (some 33) rfl rfl Try.func34 (by kernel_rfl) rfl #[.int .u16 id, .int .u32 cost, .bool false, .agg #[.int .u64 r, .int .u32 rc, .int .u64 b, .int .u16 q]] rfl (by (try simp only [List.map_toArray, List.map_cons, List.map_nil]); first | done | rfl) ?_; refine (New_false id cost r rc b q _).mono ?_; rintro e v8 ⟨rfl, b8⟩; refine ⟨_, rfl, ?_⟩; replace Kg9 := Aside0.mk (blk_below Kg9.out b8); replace Kg10 := Aside0.mk (blk_below Kg10.out b8); replace Kg13 := Aside0.mk (blk_below Kg13.out b8); replace HB := Aside0.mk (below_step HB.out b8); clear b8) | ((with_reducible refine gate_dst (N := 14) rfl ?_); refine box_event rfl (N := 14) rfl (cs := #[.int .u16 0, .int .i64 0, .int .u32 0, .int .u64 0, .int .u32 0, .int .u64 0, .int .u16 0, .bool false, .bool false, .bool false, .int .i64 0, .bool false, .int .i64 0, .bool false, .int .i64 0]) (t := 58) (by first | (go_simp; done) | (go_simp; rfl)) ?_; intro g14 eg14 v9 Kg14 b9; have Dg9_g14 := Aside0.mk (show g9 ≠ g14 from by have := blk_lt Kg9.out; omega); replace Kg9 := Aside0.mk (blk_below Kg9.out b9); have Dg10_g14 := Aside0.mk (show g10 ≠ g14 from by have := blk_lt Kg10.out; omega); replace Kg10 := Aside0.mk (blk_below Kg10.out b9); have Dg13_g14 := Aside0.mk (show g13 ≠ g14 from by have := blk_lt Kg13.out; omega); replace Kg13 := Aside0.mk (blk_below Kg13.out b9); have Gg14 := Aside0.mk (show w.heap.size ≤ g14 from by rw [eg14]; exact HB.out.size); replace HB := Aside0.mk (below_step HB.out b9); replace Kg14 := Aside0.mk Kg14; clear b9 eg14) | ((with_reducible refine gate_store (p := 14) rfl ?_); refine st58 (p := { id := id, st := 0, cost := cost, root := r, rcost := rc, br := b, rp := id, c7 := false, c8 := false, aOn := false, aV := 0, dOn := false, dV := 0, hOn := false, hV := 0 }) Kg14.out (by first | exact enc_size _ | rfl) rfl _ _ rfl rfl rfl ?_; intro v10 q10 b10; replace Kg9 := Aside0.mk (b10.keep Kg9.out Dg9_g14.out); replace Kg10 := Aside0.mk (b10.keep Kg10.out Dg10_g14.out); replace Kg13 := Aside0.mk (b10.keep Kg13.out Dg13_g14.out); replace HB := Aside0.mk (b10.below HB.out Gg14.out HB.out.size); replace Kg14 := Aside0.mk q10; clear b10) | ((with_reducible refine gate_dst (N := 35) rfl ?_); refine ld58 Kg14.out rfl _ rfl rfl ?_) | ((with_reducible refine gate_dst (N := 39) rfl ?_); refine ev_ld rfl _ _ rfl g13 0 rfl Kg13.out #[.int .u64 r, .int .u32 rc, .int .u64 b, .int .u16 id] Try.underlying56 rfl info56 (fun j u hj => by simpa using hj) ?_) | ((with_reducible refine gate_dst (N := 40) rfl ?_); refine Kd.event_run rfl (v := .agg (enc { id := id, st := 0, cost := cost, root := r, rcost := rc, br := b, rp := id, c7 := false, c8 := false, aOn := false, aV := 0, dOn := false, dV := 0, hOn := false, hV := 0 })) (by unfold enc; first | (go_simp; done) | (go_simp; rfl)) ?_) | ((with_reducible refine gate_dst (N := 42) rfl ?_); refine ld58 Kg10.out rfl _ rfl rfl ?_) | ((with_reducible refine gate_dst (N := 43) rfl ?_); refine ev_ld rfl _ _ rfl g9 0 rfl Kg9.out #[.int .u64 r, .int .u32 rc, .int .u64 b, .int .u16 q] Try.underlying56 rfl info56 (fun j u hj => by simpa using hj) ?_) | ((with_reducible refine gate_dst (N := 44) rfl ?_); refine goesL_ (some 44) rfl rfl Try.func35 (by kernel_rfl) rfl #[.agg (enc p), .agg #[.int .u64 r, .int .u32 rc, .int .u64 b, .int .u16 q]] rfl (by (try simp only [List.map_toArray, List.map_cons, List.map_nil]); first | done | rfl) ?_; refine (Become_calls p r rc b q _).mono ?_; rintro e v11 ⟨rfl, b11⟩; refine ⟨_, rfl, ?_⟩; replace Kg9 := Aside0.mk (blk_below Kg9.out b11); replace Kg10 := Aside0.mk (blk_below Kg10.out b11); replace Kg13 := Aside0.mk (blk_below Kg13.out b11); replace Kg14 := Aside0.mk (blk_below Kg14.out b11); replace HB := Aside0.mk (below_step HB.out b11); clear b11) | ((with_reducible refine gate_dst (N := 16) rfl ?_); refine box_event rfl (N := 16) rfl (cs := #[.int .u16 0, .int .i64 0, .int .u32 0, .int .u64 0, .int .u32 0, .int .u64 0, .int .u16 0, .bool false, .bool false, .bool false, .int .i64 0, .bool false, .int .i64 0, .bool false, .int .i64 0]) (t := 58) (by first | (go_simp; done) | (go_simp; rfl)) ?_; intro g16 eg16 v12 Kg16 b12; have Dg9_g16 := Aside0.mk (show g9 ≠ g16 from by have := blk_lt Kg9.out; omega); replace Kg9 := Aside0.mk (blk_below Kg9.out b12); have Dg10_g16 := Aside0.mk (show g10 ≠ g16 from by have := blk_lt Kg10.out; omega); replace Kg10 := Aside0.mk (blk_below Kg10.out b12); have Dg13_g16 := Aside0.mk (show g13 ≠ g16 from by have := blk_lt Kg13.out; omega); replace Kg13 := Aside0.mk (blk_below Kg13.out b12); have Dg14_g16 := Aside0.mk (show g14 ≠ g16 from by have := blk_lt Kg14.out; omega); replace Kg14 := Aside0.mk (blk_below Kg14.out b12); have Gg16 := Aside0.mk (show w.heap.size ≤ g16 from by rw [eg16]; exact HB.out.size); replace HB := Aside0.mk (below_step HB.out b12); replace Kg16 := Aside0.mk Kg16; clear b12 eg16) | ((with_reducible refine gate_store (p := 16) rfl ?_); refine st58 (p := { p with root := r, rcost := rc, br := b, rp := p.id }) Kg16.out (by first | exact enc_size _ | rfl) rfl _ _ rfl rfl rfl ?_; intro v13 q13 b13; replace Kg9 := Aside0.mk (b13.keep Kg9.out Dg9_g16.out); replace Kg10 := Aside0.mk (b13.keep Kg10.out Dg10_g16.out); replace Kg13 := Aside0.mk (b13.keep Kg13.out Dg13_g16.out); replace Kg14 := Aside0.mk (b13.keep Kg14.out Dg14_g16.out); replace HB := Aside0.mk (b13.below HB.out Gg16.out HB.out.size); replace Kg16 := Aside0.mk q13; clear b13) | ((with_reducible refine gate_dst (N := 45) rfl ?_); refine ld58 Kg10.out rfl _ rfl rfl ?_) | ((with_reducible refine gate_dst (N := 17) rfl ?_); refine box_event rfl (N := 17) rfl (cs := #[.int .u16 0, .int .i64 0, .int .u32 0, .int .u64 0, .int .u32 0, .int .u64 0, .int .u16 0, .bool false, .bool false, .bool false, .int .i64 0, .bool false, .int .i64 0, .bool false, .int .i64 0]) (t := 58) (by first | (go_simp; done) | (go_simp; rfl)) ?_; intro g17 eg17 v14 Kg17 b14; have Dg9_g17 := Aside0.mk (show g9 ≠ g17 from by have := blk_lt Kg9.out; omega); replace Kg9 := Aside0.mk (blk_below Kg9.out b14); have Dg10_g17 := Aside0.mk (show g10 ≠ g17 from by have := blk_lt Kg10.out; omega); replace Kg10 := Aside0.mk (blk_below Kg10.out b14); have Dg13_g17 := Aside0.mk (show g13 ≠ g17 from by have := blk_lt Kg13.out; omega); replace Kg13 := Aside0.mk (blk_below Kg13.out b14); have Dg14_g17 := Aside0.mk (show g14 ≠ g17 from by have := blk_lt Kg14.out; omega); replace Kg14 := Aside0.mk (blk_below Kg14.out b14); have Dg16_g17 := Aside0.mk (show g16 ≠ g17 from by have := blk_lt Kg16.out; omega); replace Kg16 := Aside0.mk (blk_below Kg16.out b14); have Gg17 := Aside0.mk (show w.heap.size ≤ g17 from by rw [eg17]; exact HB.out.size); replace HB := Aside0.mk (below_step HB.out b14); replace Kg17 := Aside0.mk Kg17; clear b14 eg17) | ((with_reducible refine gate_store (p := 17) rfl ?_); refine st58 (p := p) Kg17.out (by first | exact enc_size _ | rfl) rfl _ _ rfl rfl rfl ?_; intro v15 q15 b15; replace Kg9 := Aside0.mk (b15.keep Kg9.out Dg9_g17.out); replace Kg10 := Aside0.mk (b15.keep Kg10.out Dg10_g17.out); replace Kg13 := Aside0.mk (b15.keep Kg13.out Dg13_g17.out); replace Kg14 := Aside0.mk (b15.keep Kg14.out Dg14_g17.out); replace Kg16 := Aside0.mk (b15.keep Kg16.out Dg16_g17.out); replace HB := Aside0.mk (b15.below HB.out Gg17.out HB.out.size); replace Kg17 := Aside0.mk q15; clear b15) | ((with_reducible refine gate_dst (N := 46) rfl ?_); refine ev_ld rfl _ _ rfl g9 0 rfl Kg9.out #[.int .u64 r, .int .u32 rc, .int .u64 b, .int .u16 q] Try.underlying56 rfl info56 (fun j u hj => by simpa using hj) ?_) | ((with_reducible refine gate_store (p := 47) rfl ?_); refine ev_st rfl 56 _ _ rfl g17 3 rfl rfl #[.int .u64 r, .int .u32 rc, .int .u64 b, .int .u16 q] rfl info56 (by simp [Value.oneCell']) Kg17.out (by first | (rw [enc_size]; simp; done) | simp) (enc { p with root := r, rcost := rc, br := b, rp := q }) (enc_held _ _ _ _ _) ?_; intro v16 q16 b16; replace Kg9 := Aside0.mk (b16.keep Kg9.out Dg9_g17.out); replace Kg10 := Aside0.mk (b16.keep Kg10.out Dg10_g17.out); replace Kg13 := Aside0.mk (b16.keep Kg13.out Dg13_g17.out); replace Kg14 := Aside0.mk (b16.keep Kg14.out Dg14_g17.out); replace Kg16 := Aside0.mk (b16.keep Kg16.out Dg16_g17.out); replace HB := Aside0.mk (b16.below HB.out Gg17.out HB.out.size); replace Kg17 := Aside0.mk q16; clear b16) | ((with_reducible refine gate_dst (N := 49) rfl ?_); refine ev_ld1 rfl _ _ rfl g10 0 rfl Kg10.out (.int .u16 p.id) Try.underlying54 rfl (enc_0 p) ?_) | ((with_reducible refine gate_store (p := 51) rfl ?_); refine ev_st rfl 54 _ _ rfl g17 6 rfl rfl #[.int .u16 p.id] rfl info54 (by simp [Value.oneCell']) Kg17.out (by first | (rw [enc_size]; simp; done) | simp) (enc { p with root := r, rcost := rc, br := b, rp := p.id }) (enc_heldPort _ _) ?_; intro v17 q17 b17; replace Kg9 := Aside0.mk (b17.keep Kg9.out Dg9_g17.out); replace Kg10 := Aside0.mk (b17.keep Kg10.out Dg10_g17.out); replace Kg13 := Aside0.mk (b17.keep Kg13.out Dg13_g17.out); replace Kg14 := Aside0.mk (b17.keep Kg14.out Dg14_g17.out); replace Kg16 := Aside0.mk (b17.keep Kg16.out Dg16_g17.out); replace HB := Aside0.mk (b17.below HB.out Gg17.out HB.out.size); replace Kg17 := Aside0.mk q17; clear b17) | ((with_reducible refine gate_dst (N := 52) rfl ?_); refine ld58 Kg16.out rfl _ rfl rfl ?_) | ((with_reducible refine gate_dst (N := 53) rfl ?_); refine ld58 Kg17.out rfl _ rfl rfl ?_) | ((with_reducible refine gate_dst (N := 56) rfl ?_); (refine gate_guard (by rfl) ?_; dsimp only); refine ld58 Kg16.out rfl _ rfl rfl ?_) | ((with_reducible refine gate_dst (N := 58) rfl ?_); (refine gate_guard (by rfl) ?_; dsimp only); refine ev_ld1 rfl _ _ rfl g9 2 rfl Kg9.out (.int .u64 b) Try.underlying53 rfl (rfl) ?_) | (go_at_call 36; refine (Des_own p r rc b _).mono ?_; rintro e v18 ⟨rfl, b18⟩; replace Kg9 := Aside0.mk (blk_below Kg9.out b18); replace Kg10 := Aside0.mk (blk_below Kg10.out b18); replace Kg13 := Aside0.mk (blk_below Kg13.out b18); replace Kg14 := Aside0.mk (blk_below Kg14.out b18); replace Kg16 := Aside0.mk (blk_below Kg16.out b18); replace Kg17 := Aside0.mk (blk_below Kg17.out b18); replace HB := Aside0.mk (below_step HB.out b18); clear b18))
  have SS : B1 w g10 (enc p) _ := ⟨Kg10.out, HB.out⟩
  clear Kg9 Kg10 Kg13 Kg14 Kg16 Kg17
  refine startB (SS.step (drewB _)) (n := 18) [] #[false, false, false, false, false, false, false, false, false, false, false, false, false, false, false, false, false, false] (by kernel_rfl) rfl rfl (fun hHeld => ?_)
  refine pure_ (i := 1) (N := some 63) (v := ?_) (a' := ?_) #[false, true, false, false, false, false, false, false, false, false, false, false, false, false, false, false, false, false] rfl rfl (by kernel_rfl) (fun _ _ _ h => h) (Or.inl ⟨by rfl, ?_⟩) ?_ ?_
  rotate_left
  · intro w'
    go_simp
    with_reducible rfl
  rotate_left
  · simp only [Act.put, List.setIfInBounds_toArray, List.set_cons_zero, List.set_cons_succ, i64_w, i32_w]
    rfl
  refine pure_ (i := 3) (N := some 65) (v := ?_) (a' := ?_) #[false, true, false, true, false, false, false, false, false, false, false, false, false, false, false, false, false, false] rfl rfl (by kernel_rfl) (fun _ _ _ h => h) (Or.inl ⟨by rfl, ?_⟩) ?_ ?_
  rotate_left
  · intro w'
    go_simp
    with_reducible rfl
  rotate_left
  · simp only [Act.put, List.setIfInBounds_toArray, List.set_cons_zero, List.set_cons_succ, i64_w, i32_w]
    rfl
  refine pure_ (i := 4) (N := some 66) (v := ?_) (a' := ?_) #[false, true, false, true, true, false, false, false, false, false, false, false, false, false, false, false, false, false] rfl rfl (by kernel_rfl) (fun _ _ _ h => h) (Or.inl ⟨by rfl, ?_⟩) ?_ ?_
  rotate_left
  · intro w'
    go_simp
    with_reducible rfl
  rotate_left
  · simp only [Act.put, List.setIfInBounds_toArray, List.set_cons_zero, List.set_cons_succ, i64_w, i32_w]
    rfl
  refine pure_ (i := 6) (N := some 68) (v := ?_) (a' := ?_) #[false, true, false, true, true, false, true, false, false, false, false, false, false, false, false, false, false, false] rfl rfl (by kernel_rfl) (fun _ _ _ h => h) (Or.inl ⟨by rfl, ?_⟩) ?_ ?_
  rotate_left
  · intro w'
    go_simp
    with_reducible rfl
  rotate_left
  · simp only [Act.put, List.setIfInBounds_toArray, List.set_cons_zero, List.set_cons_succ, i64_w, i32_w]
    rfl
  refine take_ (i := 0) (N := some 62) (v := _) (a' := ?_) #[true, true, false, true, true, false, true, false, false, false, false, false, false, false, false, false, false, false] rfl rfl (by kernel_rfl) (fun _ _ _ h => h) (Or.inl ⟨by rfl, fun w2 h => run_ld58 h.k1 (.tmp 10) rfl rfl⟩) hHeld ?_ ?_
  rotate_left
  · simp only [Act.put, List.setIfInBounds_toArray, List.set_cons_zero, List.set_cons_succ, i64_w, i32_w]
    rfl
  refine take_ (i := 5) (N := some 67) (v := _) (a' := ?_) #[true, true, false, true, true, true, true, false, false, false, false, false, false, false, false, false, false, false] rfl rfl (by kernel_rfl) (fun _ _ _ h => h) (Or.inl ⟨by rfl, fun w2 h => run_ld1 h.k1 53 (.tmp 66) rfl rfl (u := .int .u64 p.br) Try.underlying53 rfl (enc_5 p)⟩) hHeld ?_ ?_
  rotate_left
  · simp only [Act.put, List.setIfInBounds_toArray, List.set_cons_zero, List.set_cons_succ, i64_w, i32_w]
    rfl
  refine pure_ (i := 7) (N := some 69) (v := .bool false) (a' := ?_) #[true, true, false, true, true, true, true, true, false, false, false, false, false, false, false, false, false, false] rfl rfl (by kernel_rfl) (fun _ _ _ h => h) (Or.inl ⟨by rfl, (fun w' => by rw [← C.out]; go_simp)⟩) ?_ ?_
  rotate_left
  · simp only [Act.put, List.setIfInBounds_toArray, List.set_cons_zero, List.set_cons_succ, i64_w, i32_w]
    rfl
  refine one_ (i := 2) (N := some 64) #[true, true, true, true, true, true, true, true, false, false, false, false, false, false, false, false, false, false] rfl rfl (by kernel_rfl) (by decide) (fun K hK => ?_)
  refine goes_ Try.func36 (by kernel_rfl) rfl #[.agg (enc p), .int .u64 x] (by rfl) rfl rfl (by (try simp only [List.map_toArray, List.map_cons, List.map_nil]); first | done | rfl) ?_
  refine (Designated_false p x C.out _).mono ?_
  rintro e w3 ⟨rfl, hb⟩
  refine ⟨_, rfl, ?_⟩
  refine hK.out _ _ (hHeld.step hb) (fun hHeld => ?_)
  clear hK K
  refine norm_ (a' := ?_) ?_ ?_
  rotate_left
  · show Act.put _ (some 64) _ = _
    simp only [Act.put, List.setIfInBounds_toArray, List.set_cons_zero, List.set_cons_succ, i64_w, i32_w]
    rfl
  refine pure_ (i := 8) (N := some 70) (v := ?_) (a' := ?_) #[true, true, true, true, true, true, true, true, true, false, false, false, false, false, false, false, false, false] rfl rfl (by kernel_rfl) (fun _ _ _ h => h) (Or.inl ⟨by rfl, ?_⟩) ?_ ?_
  rotate_left
  · intro w'
    go_simp
    with_reducible rfl
  rotate_left
  · simp only [Act.put, List.setIfInBounds_toArray, List.set_cons_zero, List.set_cons_succ, i64_w, i32_w]
    rfl
  refine pure_ (i := 9) (N := some 71) (v := undef) (a' := ?_) #[true, true, true, true, true, true, true, true, true, true, false, false, false, false, false, false, false, false] rfl rfl (by kernel_rfl) (fun _ _ _ h => h) (Or.inr ⟨by rfl, rfl⟩) ?_ ?_
  rotate_left
  · simp only [Act.put, List.setIfInBounds_toArray, List.set_cons_zero, List.set_cons_succ, i64_w, i32_w]
    rfl
  refine pure_ (i := 10) (N := some 72) (v := undef) (a' := ?_) #[true, true, true, true, true, true, true, true, true, true, true, false, false, false, false, false, false, false] rfl rfl (by kernel_rfl) (fun _ _ _ h => h) (Or.inr ⟨by rfl, rfl⟩) ?_ ?_
  rotate_left
  · simp only [Act.put, List.setIfInBounds_toArray, List.set_cons_zero, List.set_cons_succ, i64_w, i32_w]
    rfl
  refine pure_ (i := 11) (N := some 73) (v := undef) (a' := ?_) #[true, true, true, true, true, true, true, true, true, true, true, true, false, false, false, false, false, false] rfl rfl (by kernel_rfl) (fun _ _ _ h => h) (Or.inr ⟨by rfl, rfl⟩) ?_ ?_
  rotate_left
  · simp only [Act.put, List.setIfInBounds_toArray, List.set_cons_zero, List.set_cons_succ, i64_w, i32_w]
    rfl
  refine pure_ (i := 12) (N := some 74) (v := undef) (a' := ?_) #[true, true, true, true, true, true, true, true, true, true, true, true, true, false, false, false, false, false] rfl rfl (by kernel_rfl) (fun _ _ _ h => h) (Or.inr ⟨by rfl, rfl⟩) ?_ ?_
  rotate_left
  · simp only [Act.put, List.setIfInBounds_toArray, List.set_cons_zero, List.set_cons_succ, i64_w, i32_w]
    rfl
  refine pure_ (i := 13) (N := some 75) (v := undef) (a' := ?_) #[true, true, true, true, true, true, true, true, true, true, true, true, true, true, false, false, false, false] rfl rfl (by kernel_rfl) (fun _ _ _ h => h) (Or.inr ⟨by rfl, rfl⟩) ?_ ?_
  rotate_left
  · simp only [Act.put, List.setIfInBounds_toArray, List.set_cons_zero, List.set_cons_succ, i64_w, i32_w]
    rfl
  refine pure_ (i := 14) (N := some 76) (v := undef) (a' := ?_) #[true, true, true, true, true, true, true, true, true, true, true, true, true, true, true, false, false, false] rfl rfl (by kernel_rfl) (fun _ _ _ h => h) (Or.inr ⟨by rfl, rfl⟩) ?_ ?_
  rotate_left
  · simp only [Act.put, List.setIfInBounds_toArray, List.set_cons_zero, List.set_cons_succ, i64_w, i32_w]
    rfl
  refine pure_ (i := 15) (N := some 77) (v := ?_) (a' := ?_) #[true, true, true, true, true, true, true, true, true, true, true, true, true, true, true, true, false, false] rfl rfl (by kernel_rfl) (fun _ _ _ h => h) (Or.inl ⟨by rfl, ?_⟩) ?_ ?_
  rotate_left
  · intro w'
    go_simp
    with_reducible rfl
  rotate_left
  · simp only [Act.put, List.setIfInBounds_toArray, List.set_cons_zero, List.set_cons_succ, i64_w, i32_w]
    rfl
  refine pure_ (i := 16) (N := some 78) (v := ?_) (a' := ?_) #[true, true, true, true, true, true, true, true, true, true, true, true, true, true, true, true, true, false] rfl rfl (by kernel_rfl) (fun _ _ _ h => h) (Or.inl ⟨by rfl, ?_⟩) ?_ ?_
  rotate_left
  · intro w'
    go_simp
    with_reducible rfl
  rotate_left
  · simp only [Act.put, List.setIfInBounds_toArray, List.set_cons_zero, List.set_cons_succ, i64_w, i32_w]
    rfl
  refine pure_ (i := 17) (N := some 12) (v := ?_) (a' := ?_) #[true, true, true, true, true, true, true, true, true, true, true, true, true, true, true, true, true, true] rfl rfl (by kernel_rfl) (fun _ _ _ h => h) (Or.inl ⟨by rfl, ?_⟩) ?_ ?_
  rotate_left
  · intro w'
    go_simp
    with_reducible rfl
  rotate_left
  · simp only [Act.put, List.setIfInBounds_toArray, List.set_cons_zero, List.set_cons_succ, i64_w, i32_w]
    rfl
  refine done_ (by kernel_rfl) ?_
  go_wp2_with fail
  go_ret
  exact ⟨by simp, hHeld.below⟩

theorem Holds (p : Pt) (id cost : Int) (on : Bool) (r rc b q x : Int) (w : World) : Calls Try.prog 11 #[.int .u16 id, .int .u32 cost, .bool on, .agg #[.int .u64 r, .int .u32 rc, .int .u64 b, .int .u16 q], .agg (enc p), .int .u64 x] w fun e w' => e = .returned (.bool true) ∧ Below w.heap.size w w' := by
  obtain ⟨f, F⟩ := fits_calls p
  cases f with
  | false =>
    cases on with
    | false => exact Holds_bad_false p id cost r rc b q x F w
    | true => exact Holds_bad_true p id cost r rc b q x F w
  | true =>
    cases c : (p.br == x) with
    | false =>
      cases on with
      | false => exact Holds_false_false p id cost r rc b q x F c w
      | true => exact Holds_true_false p id cost r rc b q x F c w
    | true =>
      cases on with
      | false => exact Holds_false_true p id cost r rc b q x F c w
      | true => exact Holds_true_true p id cost r rc b q x F c w

theorem PortHolds (W : World) (a0 a1 : Int) (a2 : Bool) (a3 : Int × Int × Int × Int) (a : Int × Int × Int × (Int × Int × Int × Int) × Bool × Bool × S39 × S39 × S39) (a5 : Int) (w0 : (Lit.int .u16 a0).wf = true) (w1 : (Lit.int .u32 a1).wf = true) (w3 : portHolds.wf56 a3) (w4 : portHolds.wf58 a) (w5 : (Lit.int .u64 a5).wf = true) : Calls Try.prog 11 #[.int .u16 a0, .int .u32 a1, .bool a2, .agg #[.int .u64 a3.1, .int .u32 a3.2.1, .int .u64 a3.2.2.1, .int .u16 a3.2.2.2], .agg #[.int .u16 (a.1), .int .i64 (a.2.1), .int .u32 (a.2.2.1), .int .u64 (a.2.2.2.1.1), .int .u32 (a.2.2.2.1.2.1), .int .u64 (a.2.2.2.1.2.2.1), .int .u16 (a.2.2.2.1.2.2.2), .bool (a.2.2.2.2.1), .bool (a.2.2.2.2.2.1), .bool (a.2.2.2.2.2.2.1.f0), .int .i64 (a.2.2.2.2.2.2.1.f1), .bool (a.2.2.2.2.2.2.2.1.f0), .int .i64 (a.2.2.2.2.2.2.2.1.f1), .bool (a.2.2.2.2.2.2.2.2.f0), .int .i64 (a.2.2.2.2.2.2.2.2.f1)], .int .u64 a5] W fun e w' => e = .returned (.bool true) ∧ Below W.heap.size W w' := by
  have h := Holds ⟨a.1, a.2.1, a.2.2.1, a.2.2.2.1.1, a.2.2.2.1.2.1, a.2.2.2.1.2.2.1, a.2.2.2.1.2.2.2, a.2.2.2.2.1, a.2.2.2.2.2.1, a.2.2.2.2.2.2.1.f0, a.2.2.2.2.2.2.1.f1, a.2.2.2.2.2.2.2.1.f0, a.2.2.2.2.2.2.2.1.f1, a.2.2.2.2.2.2.2.2.f0, a.2.2.2.2.2.2.2.2.f1⟩ a0 a1 a2 a3.1 a3.2.1 a3.2.2.1 a3.2.2.2 a5 W
  unfold enc at h
  exact h

end Go.Proofs.Ytfdjlempllmelaa.Pure
