/- What Go functions that the law ScriptReads uses come to, and why: part 12. Made out of the kit's print by a program of this session (wip/tools/stub.py, splice.py), functions that it does not take told by hand. -/
import Derived.Test.YtiikllgppmmiaaaDoorOScriptReadsx11
namespace Go.Proofs.YtiikllgppmmiaaaDoor.OScriptReads
open Go.RowKit Go.Proofs.YtiikllgppmmiaaaDoorW.PrintWords Go.Proofs.YtiikllgppmmiaaaDoorW.PrintLast Go.Proofs.YtiikllgppmmiaaaDoorW.PrintMore
attribute [local go_sem] max2_int min2_int max_two min_two max_three min_three max_four min_four   -- for this text's walks alone
set_option linter.unusedVariables false
set_option linter.unusedSimpArgs false

/-! ### script_Read: function 9 -/
def script_Read.l0 : Nat → List Int → List (S39) → List Int → Int → Int → List (S51) → List (List Int) → List (S66) → Option (Int × (List (S51)) × (List (List Int)) × (List (S66)) × (List (S39)))
  | 0, _, _, _, _, _, _, _, _ => none
  | k + 1, x0, x6, x283000, x283001, x295000, x295001, x295002, x295003 => if x283001 < (x0.length : Int) then (if (x6.length : Int) < 8000 then ((script_reader_op.f k x283000 x283001 x295000 x295001 x295002 x295003).bind fun bt295 => (if x6.length < 2199023255552 then (script_Read.l0 k x0 (x6 ++ [(⟨bt295.1, bt295.2.1, bt295.2.2.1, bt295.2.2.2.1, bt295.2.2.2.2.1, bt295.2.2.2.2.2.1⟩ : S39)]) x283000 bt295.2.2.2.2.2.2 x295000 x295001 x295002 x295003) else (none))) else (some (x295000, x295001, x295002, x295003, x6))) else (some (x295000, x295001, x295002, x295003, x6))
def script_Read.f (k : Nat) (l0 : List Int) : Option (Int × (List (S51)) × (List (List Int)) × (List (S66)) × (List (S39))) := (treelinelaw24_ScriptTells.f l0).bind fun bt280 => ((script_reader_topo.f k bt280.1 bt280.2).bind fun bt283 => (script_Read.l0 k l0 ([] : List (S39)) bt280.1 bt283.2.2.2.2 bt283.1 bt283.2.1 bt283.2.2.1 bt283.2.2.2.1))
theorem script_Read.mono_l : ∀ k, (∀ y0 y1 y2 y3 y4 y5 y6 y7, LeO (script_Read.l0 k y0 y1 y2 y3 y4 y5 y6 y7) (script_Read.l0 (k + 1) y0 y1 y2 y3 y4 y5 y6 y7))
  | 0 => fun _ _ _ _ _ _ _ _ r h => by simp [script_Read.l0] at h
  | k + 1 => by
    have ih0 := script_Read.mono_l k
    · intro y0 y1 y2 y3 y4 y5 y6 y7
      unfold script_Read.l0
      repeat' first
      | (with_reducible apply ih0)
      | (with_reducible apply script_reader_op.mono)
      | (with_reducible apply script_reader_topo.mono)
      | (with_reducible exact LeO.refl _)
      | (with_reducible exact LeO.none _)
      | (with_reducible refine LeO.ite ?_ ?_)
      | (with_reducible refine LeO.bind ?_ (fun _ => ?_))
      | apply ih0
      | exact script_reader_op.mono _ _ _ _ _ _ _
      | exact script_reader_topo.mono _ _ _
      | exact LeO.none _
      | refine LeO.ite ?_ ?_
      | refine LeO.bind ?_ (fun _ => ?_)
theorem script_Read.mono : ∀ a0 k, LeO (script_Read.f k a0) (script_Read.f (k + 1) a0) := by
  intro a0 k
  have ih0 := script_Read.mono_l k
  unfold script_Read.f
  repeat' first
      | (with_reducible apply ih0)
      | (with_reducible apply script_reader_op.mono)
      | (with_reducible apply script_reader_topo.mono)
      | (with_reducible exact LeO.refl _)
      | (with_reducible exact LeO.none _)
      | (with_reducible refine LeO.ite ?_ ?_)
      | (with_reducible refine LeO.bind ?_ (fun _ => ?_))
      | apply ih0
      | exact script_reader_op.mono _ _ _ _ _ _ _
      | exact script_reader_topo.mono _ _ _
      | exact LeO.none _
      | refine LeO.ite ?_ ?_
      | refine LeO.bind ?_ (fun _ => ?_)
set_option maxHeartbeats 8000000 in
set_option maxRecDepth 100000 in
theorem script_Read.calls (k : Nat) (A0 : Option Addr) (c0 : Nat) (l0 : List Int) (r1 : Int) (r2 : List (S51)) (r3 : List (List Int)) (r4 : List (S66)) (r5 : List (S39)) (w : World) (hr0 : Kd.C (Kd.int .u8) w A0 l0.length l0) (hc0 : l0.length ≤ c0) (h : script_Read.f k l0 = some (r1, r2, r3, r4, r5)) (HG : Aside0 (Llc.Glob w)) :
  Calls Tryd.prog 9 #[.slice A0 l0.length c0] w fun e w' => ∃ v1_ v2_ v3_ v4_ : Value, e = .returned (.tuple #[.agg #[.int .i64 r1, v1_, v2_, v3_], v4_]) ∧ Kd.N k51 51 w' w.heap.size (fun k_ => (w.heap.size ≤ k_) ∧ some k_ ≠ (v2_ : Value).ownBlock ∧ some k_ ≠ (v3_ : Value).ownBlock ∧ some k_ ≠ (v4_ : Value).ownBlock) v1_ r2 ∧ Kd.N (Kd.slice 3 (Kd.int .i64)) 64 w' w.heap.size (fun k_ => (w.heap.size ≤ k_) ∧ some k_ ≠ (v1_ : Value).ownBlock ∧ some k_ ≠ (v3_ : Value).ownBlock ∧ some k_ ≠ (v4_ : Value).ownBlock) v2_ r3 ∧ Kd.R k66 66 w' w.heap.size (fun k_ => (w.heap.size ≤ k_)) v3_ r4 ∧ Kd.N k39 39 w' w.heap.size (fun k_ => (w.heap.size ≤ k_) ∧ some k_ ≠ (v1_ : Value).ownBlock ∧ some k_ ≠ (v2_ : Value).ownBlock ∧ some k_ ≠ (v3_ : Value).ownBlock) v4_ r5 ∧ Below w.heap.size w w' := by
 have hu28 := Tryd.underlying28
 have HR0 := Aside0.mk hr0
 have HC0 := Aside0.mk hc0
 clear hr0 hc0
 have HB := Aside0.mk (Below.refl w.heap.size w)
 have H : ((treelinelaw24_ScriptTells.f l0).bind fun bt280 => ((script_reader_topo.f k bt280.1 bt280.2).bind fun bt283 => (script_Read.l0 k l0 ([] : List (S39)) bt280.1 bt283.2.2.2.2 bt283.1 bt283.2.1 bt283.2.2.1 bt283.2.2.2.1))) = some (r1, r2, r3, r4, r5) := h
 clear h
 replace H := Option.bind_eq_some_iff.mp H
 obtain ⟨⟨t280, t281⟩, A20, H⟩ := H
 (try dsimp only at H)
 have A2 := Aside0.mk A20
 clear A20
 replace H := Option.bind_eq_some_iff.mp H
 obtain ⟨⟨t283, t284, t287, t290, t293⟩, A30, H⟩ := H
 (try dsimp only at H)
 have A3 := Aside0.mk A30
 clear A30
 have H' := Aside0.mk H
 clear H
 go_enter Tryd.func9, Tryd.ntmps9
 go_wp2_with (first | ((with_reducible refine gate_dst (N := 2) rfl ?_); (try (refine gate_guard (by rfl) ?_; dsimp only)); refine box_event ?hg (N := 2) ?hd (cs := #[.int .i64 0, .slice none 0 0, .slice none 0 0, .slice none 0 0]) (t := 28) ?hr ?_; (case hd => rfl); (case hg => rfl); (case hr => first | (go_simp; done) | (go_simp; rfl)); intro gb279 hg w4 hbox hb; have BK279 := Aside0.mk (hbox); have GW279 := Aside0.mk ((by rw [hg]; exact (below_size bB) : w.heap.size ≤ gb279)); have GE279 := Aside0.mk ((by rw [hg]; exact (below_size bB) : w.heap.size ≤ gb279)); replace HB := Aside0.mk (below_step bB hb); clear hb hbox hg) | ((with_reducible refine gate_dst (N := 9) rfl ?_); refine box_event ?hg (N := 9) ?hd (cs := #[.slice A0 l0.length c0, .int .i64 0]) (t := 54) ?hr ?_; (case hd => rfl); (case hg => rfl); (case hr => first | (go_simp; done) | (go_simp; rfl)); intro g282 hg w5 hbox hb2; have hge : w.heap.size ≤ g282 := (by rw [hg]; exact below_size bB); have hi := treelinelaw24_ScriptTells.is (w0 := w) (W := w5) (g := g282) A2.out ⟨_, _, hbox, hge, HR0.out⟩; have hb := below_step bB hb2; clear hbox hge hg; replace HB := Aside0.mk (hb); have HI282 := Aside0.mk (hi); have NB282_279 := Aside0.mk (IsS54.ne_blk hi (blk_below (g := gb279) (o := .cells #[.int .i64 0, .slice none 0 0, .slice none 0 0, .slice none 0 0] 28 (0, 0)) (bw BK279.out) hb2) (by decide)); have NB279_282 := Aside0.mk (Ne.symm (IsS54.ne_blk hi (blk_below (g := gb279) (o := .cells #[.int .i64 0, .slice none 0 0, .slice none 0 0, .slice none 0 0] 28 (0, 0)) (bw BK279.out) hb2) (by decide))); replace BK279 := Aside0.mk (blk_below (g := gb279) (o := .cells #[.int .i64 0, .slice none 0 0, .slice none 0 0, .slice none 0 0] 28 (0, 0)) (bw BK279.out) hb2); (try clear hb); (try clear hb2); (try clear hk); (try clear hi)) | ((with_reducible refine gate_callee (f := 16) rfl ?_); refine gL (some 11) Tryd.func16 #[.pointer (some ⟨g282, 0, none⟩)] ?_; (with_reducible refine (script_reader_topo.calls k g282 t280 t281 t283 t284 t287 t290 t293 w _ ?side1 ?side2 A3.out).mono ?_); (case side1 => exact bI HI282.out); (case side2 => exact bB); rintro e w6 ⟨v285, v288, v291, rfl, ho0, ho1, ho2, hi, hb, hk⟩; refine ⟨_, rfl, ?_⟩; have HO286 := Aside0.mk (Kd.N_lower (Kd.N_mono (ok' := fun k_ => (w.heap.size ≤ k_) ∧ some k_ ≠ (v288 : Value).ownBlock ∧ some k_ ≠ (v291 : Value).ownBlock ∧ k_ ≠ gb279 ∧ k_ ≠ g282) ho0 (fun k_ hk_ => ⟨(Nat.le_trans (below_size bB) hk_.1), hk_.2.1, hk_.2.2, (Kd.freshB (g := gb279) (o := .cells #[.int .i64 0, .slice none 0 0, .slice none 0 0, .slice none 0 0] 28 (0, 0)) (bw BK279.out) k_ hk_.1), (IsS54.fresh (bI HI282.out) k_ hk_.1)⟩)) (below_size bB)); have HO289 := Aside0.mk (Kd.N_lower (Kd.N_mono (ok' := fun k_ => (w.heap.size ≤ k_) ∧ some k_ ≠ (v285 : Value).ownBlock ∧ some k_ ≠ (v291 : Value).ownBlock ∧ k_ ≠ gb279 ∧ k_ ≠ g282) ho1 (fun k_ hk_ => ⟨(Nat.le_trans (below_size bB) hk_.1), hk_.2.1, hk_.2.2, (Kd.freshB (g := gb279) (o := .cells #[.int .i64 0, .slice none 0 0, .slice none 0 0, .slice none 0 0] 28 (0, 0)) (bw BK279.out) k_ hk_.1), (IsS54.fresh (bI HI282.out) k_ hk_.1)⟩)) (below_size bB)); replace BK279 := Aside0.mk (KeepBut.blk hk (g' := gb279) (o := .cells #[.int .i64 0, .slice none 0 0, .slice none 0 0, .slice none 0 0] 28 (0, 0)) (bw BK279.out) NB279_282.out (by simp)); have HO292 := Aside0.mk (Kd.R_lower (Kd.R_newM (M := fun k_ => (w.heap.size ≤ k_)) (Kd.R_mono (ok' := fun k_ => True) ho2 (fun _ hk_ => trivial)) (below_size bB) (fun k_ h_ => h_)) (below_size bB)); replace HB := Aside0.mk (hb); replace HI282 := Aside0.mk (hi); (try clear hb); (try clear hb2); (try clear hk); (try clear hi); (try clear ho0); (try clear ho1); (try clear ho2)) | ((with_reducible refine gate_dst (N := 5) rfl ?_); (try (refine gate_guard (by rfl) ?_; dsimp only)); refine box_event ?hg (N := 5) ?hd (cs := #[.int .i64 0, .slice none 0 0, .slice none 0 0, .slice none 0 0]) (t := 28) ?hr ?_; (case hd => rfl); (case hg => rfl); (case hr => first | (go_simp; done) | (go_simp; rfl)); intro gb294 hg w7 hbox hb; replace HO286 := Aside0.mk (Kd.N_below (Kd.N_elderB (bN HO286.out) gb294 (Nat.le_of_eq hg.symm)) hb); replace HO289 := Aside0.mk (Kd.N_below (Kd.N_elderB (bN HO289.out) gb294 (Nat.le_of_eq hg.symm)) hb); replace HO292 := Aside0.mk (Kd.R_below (bN HO292.out) hb); have BK294 := Aside0.mk (hbox); have GW294 := Aside0.mk ((by rw [hg]; exact (below_size bB) : w.heap.size ≤ gb294)); have GE294 := Aside0.mk ((by rw [hg]; exact (below_size bB) : w.heap.size ≤ gb294)); replace HB := Aside0.mk (below_step bB hb); have NB279_294 := Aside0.mk (nbL (bw BK279.out) hg : gb279 ≠ gb294); have NB294_279 := Aside0.mk (nbL (bw BK279.out) hg : gb279 ≠ gb294).symm; replace BK279 := Aside0.mk (blk_below (g := gb279) (o := .cells #[.int .i64 0, .slice none 0 0, .slice none 0 0, .slice none 0 0] 28 (0, 0)) (bw BK279.out) hb); have NB282_294 := Aside0.mk ((by rw [hg]; exact Nat.ne_of_lt (IsS54.lt (show IsS54 w _ g282 t280 t293 from by exact bI HI282.out)) : g282 ≠ gb294)); have NB294_282 := Aside0.mk ((by rw [hg]; exact Nat.ne_of_gt (IsS54.lt (show IsS54 w _ g282 t280 t293 from by exact bI HI282.out)) : gb294 ≠ g282)); replace HI282 := Aside0.mk (IsS54.below (bI HI282.out) hb); clear hb hbox hg; have hnb8 := NB294_279.out; have hnc8 := NB279_294.out; have hnb9 := NB294_282.out; have hnc9 := NB282_294.out; obtain ⟨hcz10_0, hcz10_1, hcz10_2, hcz10_3⟩ := cZ4 BK294.out; obtain ⟨hfz10_0, hfz10_1, hfz10_2, hfz10_3⟩ := fZ4 BK294.out; obtain ⟨Ao11, co11, eo11⟩ := Kd.N_slice HO286.out; subst eo11; obtain ⟨Ao12, co12, eo12⟩ := Kd.N_slice HO289.out; subst eo12; obtain ⟨Ao13, co13, eo13⟩ := Kd.R_slice HO292.out; subst eo13) | (go_at_call 7; (with_reducible refine (treelinelaw24_ScriptTells.calls _ _ l0 t280 t281 w _ ?side1 ?side2 ?side3 A2.out).mono ?_); (case side1 => exact bB); (case side2 => exact HR0.out); (case side3 => exact HC0.out); rintro e w5 ⟨g282, rfl, hi, hb, hb2⟩; replace HB := Aside0.mk (hb); have HI282 := Aside0.mk (hi); have NB282_279 := Aside0.mk (IsS54.ne_blk hi (blk_below (g := gb279) (o := .cells #[.int .i64 0, .slice none 0 0, .slice none 0 0, .slice none 0 0] 28 (0, 0)) (bw BK279.out) hb2) (by decide)); have NB279_282 := Aside0.mk (Ne.symm (IsS54.ne_blk hi (blk_below (g := gb279) (o := .cells #[.int .i64 0, .slice none 0 0, .slice none 0 0, .slice none 0 0] 28 (0, 0)) (bw BK279.out) hb2) (by decide))); replace BK279 := Aside0.mk (blk_below (g := gb279) (o := .cells #[.int .i64 0, .slice none 0 0, .slice none 0 0, .slice none 0 0] 28 (0, 0)) (bw BK279.out) hb2); (try clear hb); (try clear hb2); (try clear hk); (try clear hi)) | (go_at_call 16; (with_reducible refine (script_reader_topo.calls k g282 t280 t281 t283 t284 t287 t290 t293 w _ ?side1 ?side2 A3.out).mono ?_); (case side1 => exact bI HI282.out); (case side2 => exact bB); rintro e w6 ⟨v285, v288, v291, rfl, ho0, ho1, ho2, hi, hb, hk⟩; have HO286 := Aside0.mk (Kd.N_lower (Kd.N_mono (ok' := fun k_ => (w.heap.size ≤ k_) ∧ some k_ ≠ (v288 : Value).ownBlock ∧ some k_ ≠ (v291 : Value).ownBlock ∧ k_ ≠ gb279 ∧ k_ ≠ g282) ho0 (fun k_ hk_ => ⟨(Nat.le_trans (below_size bB) hk_.1), hk_.2.1, hk_.2.2, (Kd.freshB (g := gb279) (o := .cells #[.int .i64 0, .slice none 0 0, .slice none 0 0, .slice none 0 0] 28 (0, 0)) (bw BK279.out) k_ hk_.1), (IsS54.fresh (bI HI282.out) k_ hk_.1)⟩)) (below_size bB)); have HO289 := Aside0.mk (Kd.N_lower (Kd.N_mono (ok' := fun k_ => (w.heap.size ≤ k_) ∧ some k_ ≠ (v285 : Value).ownBlock ∧ some k_ ≠ (v291 : Value).ownBlock ∧ k_ ≠ gb279 ∧ k_ ≠ g282) ho1 (fun k_ hk_ => ⟨(Nat.le_trans (below_size bB) hk_.1), hk_.2.1, hk_.2.2, (Kd.freshB (g := gb279) (o := .cells #[.int .i64 0, .slice none 0 0, .slice none 0 0, .slice none 0 0] 28 (0, 0)) (bw BK279.out) k_ hk_.1), (IsS54.fresh (bI HI282.out) k_ hk_.1)⟩)) (below_size bB)); replace BK279 := Aside0.mk (KeepBut.blk hk (g' := gb279) (o := .cells #[.int .i64 0, .slice none 0 0, .slice none 0 0, .slice none 0 0] 28 (0, 0)) (bw BK279.out) NB279_282.out (by simp)); have HO292 := Aside0.mk (Kd.R_lower (Kd.R_newM (M := fun k_ => (w.heap.size ≤ k_)) (Kd.R_mono (ok' := fun k_ => True) ho2 (fun _ hk_ => trivial)) (below_size bB) (fun k_ h_ => h_)) (below_size bB)); replace HB := Aside0.mk (hb); replace HI282 := Aside0.mk (hi); (try clear hb); (try clear hb2); (try clear hk); (try clear hi); (try clear ho0); (try clear ho1); (try clear ho2)))
 go_loopg [6] k (fun kq v6 w' => ∃ (x6_1 : List (S39)) (x283001_1 : Int), Aside0 (script_Read.l0 kq l0 x6_1 t280 x283001_1 t283 t284 t287 t290 = some (r1, r2, r3, r4, r5)) ∧ Aside0 (kq ≤ k) ∧ Aside0 (Kd.N k39 39 w' w.heap.size (fun k_ => (w.heap.size ≤ k_) ∧ some k_ ≠ ((.slice Ao11 t284.length co11) : Value).ownBlock ∧ some k_ ≠ ((.slice Ao12 t287.length co12) : Value).ownBlock ∧ some k_ ≠ ((.slice Ao13 t290.length co13) : Value).ownBlock ∧ k_ ≠ gb279 ∧ k_ ≠ gb294 ∧ k_ ≠ g282) v6 x6_1) ∧ Aside0 (Kd.N k51 51 w' w.heap.size (fun k_ => (w.heap.size ≤ k_) ∧ some k_ ≠ (v6 : Value).ownBlock ∧ some k_ ≠ ((.slice Ao12 t287.length co12) : Value).ownBlock ∧ some k_ ≠ ((.slice Ao13 t290.length co13) : Value).ownBlock ∧ k_ ≠ gb279 ∧ k_ ≠ gb294 ∧ k_ ≠ g282) (.slice Ao11 t284.length co11) t284) ∧ Aside0 (Kd.N (Kd.slice 3 (Kd.int .i64)) 64 w' w.heap.size (fun k_ => (w.heap.size ≤ k_) ∧ some k_ ≠ (v6 : Value).ownBlock ∧ some k_ ≠ ((.slice Ao11 t284.length co11) : Value).ownBlock ∧ some k_ ≠ ((.slice Ao13 t290.length co13) : Value).ownBlock ∧ k_ ≠ gb279 ∧ k_ ≠ gb294 ∧ k_ ≠ g282) (.slice Ao12 t287.length co12) t287) ∧ Aside0 (Kd.R k66 66 w' w.heap.size (fun k_ => (w.heap.size ≤ k_)) (.slice Ao13 t290.length co13) t290) ∧ Aside0 (w'.heap[gb279]? = some (.cells #[.int .i64 0, (.slice none 0 0), (.slice none 0 0), (.slice none 0 0)] 28 (0, 0))) ∧ Aside0 (w'.heap[gb294]? = some (.cells #[.int .i64 t283, (.slice Ao11 t284.length co11), (.slice Ao12 t287.length co12), (.slice Ao13 t290.length co13)] 28 (0, 0))) ∧ Aside0 (IsS54 w w' g282 t280 x283001_1) ∧ Aside0 (Below w.heap.size w w'))
 case atStart => exact ⟨(([] : List (S39))), (t293), H', ⟨Nat.le_refl _⟩, ⟨by first | exact Kd.S_nil _ _ _ _ _ | exact Kd.N_nil _ _ _ _ _ | exact Kd.V_nil _ _ _ _ _ | exact Kd.Q_nil _ _ _ _ _ | exact Kd.R_nil _ _ _ _ _⟩, ⟨by refine bN ?_; exact Kd.N_mono (Nfar4 (Kd.N_mono HO286.out (fun k_ hk => (⟨hk, hk.2⟩ : _ ∧ k_ ≠ gb294))) (fun _ hk => hk.2)) (fun _ hk => ⟨hk.1.1.1, ⟨(by simp [Value.ownBlock]), ⟨hk.1.1.2.1, ⟨hk.1.1.2.2.1, ⟨hk.1.1.2.2.2.1, ⟨hk.1.2, hk.1.1.2.2.2.2⟩⟩⟩⟩⟩⟩)⟩, ⟨by refine bN ?_; exact Kd.N_mono (Nfar4 (Kd.N_mono HO289.out (fun k_ hk => (⟨hk, hk.2⟩ : _ ∧ k_ ≠ gb294))) (fun _ hk => hk.2)) (fun _ hk => ⟨hk.1.1.1, ⟨(by simp [Value.ownBlock]), ⟨hk.1.1.2.1, ⟨hk.1.1.2.2.1, ⟨hk.1.1.2.2.2.1, ⟨hk.1.2, hk.1.1.2.2.2.2⟩⟩⟩⟩⟩⟩)⟩, ⟨by refine bN ?_; exact Kd.R_mono (Rfar4 (Kd.R_types HO292.out BK294.out (by decide)) (fun _ hk => hk.2)) (fun _ hk => hk.1.1)⟩, ⟨bw BK279.out⟩, ⟨by exact put4 (bw BK294.out)⟩, ⟨bI HI282.out⟩, ⟨bB⟩⟩
 clear H'
 try clear p2
 try clear hcz10_0
 try clear hcz10_1
 try clear hcz10_2
 try clear hcz10_3
 try clear hfz10_0
 try clear hfz10_1
 try clear hfz10_2
 try clear hfz10_3
 obtain ⟨x6_1, x283001_1, HA, HK1, HO_6, HO_295001, HO_295002, HO_295003, BK279, BK294, HI282, HB⟩ := hrel
 cases gk with
 | zero => exact absurd HA.out (by simp [script_Read.l0])
 | succ k1 => ?_
 have H := HA.out
 clear HA
 simp only [script_Read.l0] at H
 by_cases c14 : x283001_1 < (l0.length : Int)
 rotate_left
 ·rw [if_neg c14] at H
  have c14b0 : decide (x283001_1 < (l0.length : Int)) = false := decide_eq_false c14
  clear c14
  simp only [Option.some.injEq, Prod.mk.injEq] at H
  obtain ⟨rfl, rfl, rfl, rfl, rfl⟩ := H
  obtain ⟨ASz33_0, cSz33_0, HGz33, hgz33, HSz33_0⟩ := HI282.out
  have hcz33_0 := cellS54_0 HGz33
  have hcz33_1 := cellS54_1 HGz33
  have hfz33_1 := blk_frozen HGz33 1
  clear HGz33 hgz33
  have hnb34 := NB294_279.out
  have hnc34 := NB279_294.out
  have hnb35 := NB294_282.out
  have hnc35 := NB282_294.out
  obtain ⟨hcz36_0, hcz36_1, hcz36_2, hcz36_3⟩ := cZ4 BK294.out
  obtain ⟨hfz36_0, hfz36_1, hfz36_2, hfz36_3⟩ := fZ4 BK294.out
  have hnb37 := NB279_282.out
  have hnc37 := NB282_279.out
  obtain ⟨hcz38_0, hcz38_1, hcz38_2, hcz38_3⟩ := cZ4 BK279.out
  obtain ⟨hfz38_0, hfz38_1, hfz38_2, hfz38_3⟩ := fZ4 BK279.out
  go_wp2
  refine bodyPost_ret (results_ct rfl _ _ gb279 28 #[.int .i64 t283, .slice Ao11 t284.length co11, .slice Ao12 t287.length co12, .slice Ao13 t290.length co13] (0, 0) _ rfl (by exact put4 (bw BK279.out)) Tryd.underlying28 rfl (by kernel_rfl)) rfl ?_
  exact ⟨_, _, _, _, by first | rfl | (simp [errW_none, errW_some] <;> rfl) | (simp [*, errW_none, errW_some] <;> rfl), by refine bN ?_; exact Kd.N_mono (Nfar4 (Kd.N_mono HO_295001.out (fun k_ hk => (⟨hk, hk.2.2.2.2.1⟩ : _ ∧ k_ ≠ gb279))) (fun _ hk => hk.2)) (fun _ hk => ⟨hk.1.1, ⟨hk.1.2.2.1, ⟨hk.1.2.2.2.1, hk.1.2.1⟩⟩⟩), by refine bN ?_; exact Kd.N_mono (Nfar4 (Kd.N_mono HO_295002.out (fun k_ hk => (⟨hk, hk.2.2.2.2.1⟩ : _ ∧ k_ ≠ gb279))) (fun _ hk => hk.2)) (fun _ hk => ⟨hk.1.1, ⟨hk.1.2.2.1, ⟨hk.1.2.2.2.1, hk.1.2.1⟩⟩⟩), by refine bN ?_; exact Kd.R_mono (Rfar4 (Kd.R_types HO_295003.out BK279.out (by decide)) (fun _ hk => hk.2)) (fun _ hk => hk.1), by refine bN ?_; exact Kd.N_mono (Nfar4 (Kd.N_mono HO_6.out (fun k_ hk => (⟨hk, hk.2.2.2.2.1⟩ : _ ∧ k_ ≠ gb279))) (fun _ hk => hk.2)) (fun _ hk => ⟨hk.1.1, ⟨hk.1.2.1, ⟨hk.1.2.2.1, hk.1.2.2.2.1⟩⟩⟩), by exact bB⟩
 rw [if_pos c14] at H
 have c14b0 : decide (x283001_1 < (l0.length : Int)) = true := decide_eq_true c14
 clear c14
 by_cases c15 : (x6_1.length : Int) < 8000
 rotate_left
 ·rw [if_neg c15] at H
  have c15b0 : decide ((x6_1.length : Int) < 8000) = false := decide_eq_false c15
  have c15b1 : decide (x6_1.length < 8000) = false := decide_eq_false (by omega)
  clear c15
  simp only [Option.some.injEq, Prod.mk.injEq] at H
  obtain ⟨rfl, rfl, rfl, rfl, rfl⟩ := H
  obtain ⟨ASz26_0, cSz26_0, HGz26, hgz26, HSz26_0⟩ := HI282.out
  have hcz26_0 := cellS54_0 HGz26
  have hcz26_1 := cellS54_1 HGz26
  have hfz26_1 := blk_frozen HGz26 1
  clear HGz26 hgz26
  obtain ⟨Ao27, co27, eo27⟩ := Kd.N_slice HO_6.out
  subst eo27
  have hnb28 := NB294_279.out
  have hnc28 := NB279_294.out
  have hnb29 := NB294_282.out
  have hnc29 := NB282_294.out
  obtain ⟨hcz30_0, hcz30_1, hcz30_2, hcz30_3⟩ := cZ4 BK294.out
  obtain ⟨hfz30_0, hfz30_1, hfz30_2, hfz30_3⟩ := fZ4 BK294.out
  have hnb31 := NB279_282.out
  have hnc31 := NB282_279.out
  obtain ⟨hcz32_0, hcz32_1, hcz32_2, hcz32_3⟩ := cZ4 BK279.out
  obtain ⟨hfz32_0, hfz32_1, hfz32_2, hfz32_3⟩ := fZ4 BK279.out
  go_wp2
  refine bodyPost_ret (results_ct rfl _ _ gb279 28 #[.int .i64 t283, .slice Ao11 t284.length co11, .slice Ao12 t287.length co12, .slice Ao13 t290.length co13] (0, 0) _ rfl (by exact put4 (bw BK279.out)) Tryd.underlying28 rfl (by kernel_rfl)) rfl ?_
  exact ⟨_, _, _, _, by first | rfl | (simp [errW_none, errW_some] <;> rfl) | (simp [*, errW_none, errW_some] <;> rfl), by refine bN ?_; exact Kd.N_mono (Nfar4 (Kd.N_mono HO_295001.out (fun k_ hk => (⟨hk, hk.2.2.2.2.1⟩ : _ ∧ k_ ≠ gb279))) (fun _ hk => hk.2)) (fun _ hk => ⟨hk.1.1, ⟨hk.1.2.2.1, ⟨hk.1.2.2.2.1, hk.1.2.1⟩⟩⟩), by refine bN ?_; exact Kd.N_mono (Nfar4 (Kd.N_mono HO_295002.out (fun k_ hk => (⟨hk, hk.2.2.2.2.1⟩ : _ ∧ k_ ≠ gb279))) (fun _ hk => hk.2)) (fun _ hk => ⟨hk.1.1, ⟨hk.1.2.2.1, ⟨hk.1.2.2.2.1, hk.1.2.1⟩⟩⟩), by refine bN ?_; exact Kd.R_mono (Rfar4 (Kd.R_types HO_295003.out BK279.out (by decide)) (fun _ hk => hk.2)) (fun _ hk => hk.1), by refine bN ?_; exact Kd.N_mono (Nfar4 (Kd.N_mono HO_6.out (fun k_ hk => (⟨hk, hk.2.2.2.2.1⟩ : _ ∧ k_ ≠ gb279))) (fun _ hk => hk.2)) (fun _ hk => ⟨hk.1.1, ⟨hk.1.2.1, ⟨hk.1.2.2.1, hk.1.2.2.2.1⟩⟩⟩), by exact bB⟩
 rw [if_pos c15] at H
 have c15b0 : decide ((x6_1.length : Int) < 8000) = true := decide_eq_true c15
 have c15b1 : decide (x6_1.length < 8000) = true := decide_eq_true (by omega)
 clear c15
 replace H := Option.bind_eq_some_iff.mp H
 obtain ⟨⟨t295, t296, t297, t298, t299, t300, t303⟩, A160, H⟩ := H
 (try dsimp only at H)
 have A16 := Aside0.mk A160
 clear A160
 by_cases c17 : x6_1.length < 2199023255552
 rotate_left
 ·rw [if_neg c17] at H
  exact absurd H (by simp)
 rw [if_pos c17] at H
 have LMc17 := Aside0.mk c17
 clear c17
 obtain ⟨y304, hy304⟩ : ∃ y_ : List (S39), y_ = (x6_1 ++ [(⟨t295, t296, t297, t298, t299, t300⟩ : S39)]) := ⟨_, rfl⟩
 replace H : (script_Read.l0 k1 l0 y304 t280 t303 t283 t284 t287 t290) = some (r1, r2, r3, r4, r5) := by first | (rw [hy304]; with_reducible exact H) | (have H2_ := (Option.bind_some _ _).symm.trans H; rw [hy304]; with_reducible exact H2_) | (have H2_ := (Option.bind_some _ _).symm.trans H; with_reducible exact H2_) | with_reducible exact H | (rw [hy304]; exact H) | exact H
 have Ny304 := Aside0.mk hy304
 clear hy304
 have H' := Aside0.mk H
 clear H
 obtain ⟨ASz18_0, cSz18_0, HGz18, hgz18, HSz18_0⟩ := HI282.out
 have hcz18_0 := cellS54_0 HGz18
 have hcz18_1 := cellS54_1 HGz18
 have hfz18_1 := blk_frozen HGz18 1
 clear HGz18 hgz18
 obtain ⟨Ao19, co19, eo19⟩ := Kd.N_slice HO_6.out
 subst eo19
 have hnb20 := NB294_279.out
 have hnc20 := NB279_294.out
 have hnb21 := NB294_282.out
 have hnc21 := NB282_294.out
 obtain ⟨hcz22_0, hcz22_1, hcz22_2, hcz22_3⟩ := cZ4 BK294.out
 obtain ⟨hfz22_0, hfz22_1, hfz22_2, hfz22_3⟩ := fZ4 BK294.out
 go_wp2_with (first | ((with_reducible refine gate_callee (f := 17) rfl ?_); refine gL (some 27) Tryd.func17 #[.pointer (some ⟨g282, 0, none⟩), .agg #[.int .i64 t283, .slice Ao11 t284.length co11, .slice Ao12 t287.length co12, .slice Ao13 t290.length co13]] ?_; (with_reducible refine (script_reader_op.calls k1 g282 t280 x283001_1 t283 _ _ t284 _ _ t287 _ _ t290 t295 t296 t297 t298 t299 t300 t303 w _ ?side1 ?side2 ?side3 ?side4 ?side5 ?side6 ?side7 ?side8 A16.out ?sideG).mono ?_); (case sideG => first | exact HG | exact ⟨HG.out.below bB⟩); (case side1 => exact bI HI282.out); (case side2 => exact bB); (case side3 => exact Kd.C_foot_ownV (base := 0) (Kd.N_V (Kd.N_mono (ok := fun k_ => (((w.heap.size ≤ k_)) ∧ (some k_ ≠ (.slice Ao19 x6_1.length co19 : Value).ownBlock ∧ (some k_ ≠ (.slice Ao12 t287.length co12 : Value).ownBlock ∧ (some k_ ≠ (.slice Ao13 t290.length co13 : Value).ownBlock ∧ (k_ ≠ gb279 ∧ (k_ ≠ gb294 ∧ k_ ≠ g282))))))) (bN HO_295001.out) (fun k_ hk_ => (⟨hk_, hk_.2.2.2.2.2.2⟩ : _ ∧ k_ ≠ g282)))) (fun _ h_ => h_.2)); (case side4 => exact (Kd.N_reads' HO_295001.out).2.1); (case side5 => exact Kd.C_foot_ownV (base := 0) (Kd.N_V (Kd.N_mono (ok := fun k_ => (((w.heap.size ≤ k_)) ∧ (some k_ ≠ (.slice Ao19 x6_1.length co19 : Value).ownBlock ∧ (some k_ ≠ (.slice Ao11 t284.length co11 : Value).ownBlock ∧ (some k_ ≠ (.slice Ao13 t290.length co13 : Value).ownBlock ∧ (k_ ≠ gb279 ∧ (k_ ≠ gb294 ∧ k_ ≠ g282))))))) (bN HO_295002.out) (fun k_ hk_ => (⟨hk_, hk_.2.2.2.2.2.2⟩ : _ ∧ k_ ≠ g282)))) (fun _ h_ => h_.2)); (case side6 => exact (Kd.N_reads' HO_295002.out).2.1); (case side7 => exact Kd.C_foot_own (IsS54.apart (show IsS54 w _ g282 t280 x283001_1 from by exact bI HI282.out) (bN HO_295003.out) (by decide)) (fun _ h_ => h_.2)); (case side8 => exact (Kd.R_reads' HO_295003.out).2.1); rintro e w23 ⟨v301, rfl, ho0, hi, hb, hk⟩; refine ⟨_, rfl, ?_⟩; replace HO_6 := Aside0.mk (Kd.N_mono (Kd.N_told (Kd.N_oldK (Kd.N_mono (ok := fun k_ => (((w.heap.size ≤ k_)) ∧ (some k_ ≠ (.slice Ao11 t284.length co11 : Value).ownBlock ∧ (some k_ ≠ (.slice Ao12 t287.length co12 : Value).ownBlock ∧ (some k_ ≠ (.slice Ao13 t290.length co13 : Value).ownBlock ∧ (k_ ≠ gb279 ∧ (k_ ≠ gb294 ∧ k_ ≠ g282))))))) (bN HO_6.out) (fun k_ hk_ => (⟨hk_, hk_.2.2.2.2.2.2⟩ : _ ∧ k_ ≠ g282))) hk) (Kd.R_base ho0)) (fun _ h_ => h_.1)); replace HO_295001 := Aside0.mk (Kd.N_mono (Kd.N_told (Kd.N_oldK (Kd.N_mono (ok := fun k_ => (((w.heap.size ≤ k_)) ∧ (some k_ ≠ (.slice Ao19 x6_1.length co19 : Value).ownBlock ∧ (some k_ ≠ (.slice Ao12 t287.length co12 : Value).ownBlock ∧ (some k_ ≠ (.slice Ao13 t290.length co13 : Value).ownBlock ∧ (k_ ≠ gb279 ∧ (k_ ≠ gb294 ∧ k_ ≠ g282))))))) (bN HO_295001.out) (fun k_ hk_ => (⟨hk_, hk_.2.2.2.2.2.2⟩ : _ ∧ k_ ≠ g282))) hk) (Kd.R_base ho0)) (fun _ h_ => h_.1)); replace HO_295002 := Aside0.mk (Kd.N_mono (Kd.N_told (Kd.N_oldK (Kd.N_mono (ok := fun k_ => (((w.heap.size ≤ k_)) ∧ (some k_ ≠ (.slice Ao19 x6_1.length co19 : Value).ownBlock ∧ (some k_ ≠ (.slice Ao11 t284.length co11 : Value).ownBlock ∧ (some k_ ≠ (.slice Ao13 t290.length co13 : Value).ownBlock ∧ (k_ ≠ gb279 ∧ (k_ ≠ gb294 ∧ k_ ≠ g282))))))) (bN HO_295002.out) (fun k_ hk_ => (⟨hk_, hk_.2.2.2.2.2.2⟩ : _ ∧ k_ ≠ g282))) hk) (Kd.R_base ho0)) (fun _ h_ => h_.1)); replace HO_295003 := Aside0.mk (Kd.R_mono (Kd.R_keep (IsS54.apart (show IsS54 w _ g282 t280 x283001_1 from by exact bI HI282.out) (bN HO_295003.out) (by decide)) hk (fun _ h => h.2)) (fun _ h => h.1)); replace BK279 := Aside0.mk (KeepBut.blk hk (g' := gb279) (o := .cells #[.int .i64 0, .slice none 0 0, .slice none 0 0, .slice none 0 0] 28 (0, 0)) (bw BK279.out) NB279_282.out (by simp)); replace BK294 := Aside0.mk (KeepBut.blk hk (g' := gb294) (o := .cells #[.int .i64 t283, .slice Ao11 t284.length co11, .slice Ao12 t287.length co12, .slice Ao13 t290.length co13] 28 (0, 0)) (bw BK294.out) NB294_282.out (by simp)); have HO302 := Aside0.mk (Kd.R_lower (Kd.R_newM (M := fun k_ => (w.heap.size ≤ k_)) ho0 (below_size bB) (fun k_ h_ => h_)) (below_size bB)); replace HB := Aside0.mk (hb); replace HI282 := Aside0.mk (hi); (try clear hb); (try clear hb2); (try clear hk); (try clear hi); (try clear ho0); obtain ⟨Ao25, co25, eo25⟩ := Kd.R_slice HO302.out; subst eo25) | ((with_reducible refine gate_builtin (b := .append) (xs := #[.tmp 24, .tmp 28]) rfl ?_); (try (refine gate_guard (by rfl) ?_; dsimp only)); at_builtin; refine Kd.N_append k39 (w0 := w) w.heap.size rfl (.tmp 24) (.tmp 28) 29 39 (.agg #[(.int .i64 0), (.int .i64 0), (.int .i64 0), (.bool false), (.int .u64 0), (.slice none 0 0)]) 64 rfl Tryd.underlying29 info39 rfl (by decide) (by omega) (.slice Ao19 x6_1.length co19) x6_1 (⟨t295, t296, t297, t298, t299, t300⟩ : S39) [.int .i64 t295, .int .i64 t296, .int .i64 t297, .bool t298, .int .u64 t299, .slice Ao25 t300.length co25] (fun k_ => (w.heap.size ≤ k_) ∧ some k_ ≠ (.slice Ao11 t284.length co11 : Value).ownBlock ∧ some k_ ≠ (.slice Ao12 t287.length co12 : Value).ownBlock ∧ some k_ ≠ (.slice Ao13 t290.length co13 : Value).ownBlock ∧ k_ ≠ gb279 ∧ k_ ≠ gb294 ∧ k_ ≠ g282) (fun k_ => ((fun k_ => (w.heap.size ≤ k_) ∧ some k_ ≠ (.slice Ao11 t284.length co11 : Value).ownBlock ∧ some k_ ≠ (.slice Ao12 t287.length co12 : Value).ownBlock ∧ some k_ ≠ (.slice Ao13 t290.length co13 : Value).ownBlock ∧ k_ ≠ gb279 ∧ k_ ≠ gb294 ∧ k_ ≠ g282)) k_ ∧ some k_ ≠ (.slice Ao19 x6_1.length co19 : Value).ownBlock) rfl rfl ?aP (fun _ hk => hk) ?aF ?aO ?aB ?aS ?aL ?_; (case aP => exact (k39_mkF _ _ (⟨t295, t296, t297, t298, t299, t300⟩ : S39) (Kd.R_reads' (Kd.R_mono (ok' := (fun k_ => ((fun k_ => (w.heap.size ≤ k_) ∧ some k_ ≠ (.slice Ao11 t284.length co11 : Value).ownBlock ∧ some k_ ≠ (.slice Ao12 t287.length co12 : Value).ownBlock ∧ some k_ ≠ (.slice Ao13 t290.length co13 : Value).ownBlock ∧ k_ ≠ gb279 ∧ k_ ≠ gb294 ∧ k_ ≠ g282)) k_ ∧ some k_ ≠ (.slice Ao19 x6_1.length co19 : Value).ownBlock)) (IsS54.apart HI282.out (Kd.R_types (Kd.R_types (Kd.R_apart' (Kd.R_apart' (Kd.R_apart' (Kd.R_apart' (HO302.out) (Kd.N_typed HO_295001.out) (by decide)) (Kd.N_typed HO_295002.out) (by decide)) (Kd.R_typed HO_295003.out) (by decide)) (Kd.N_typed HO_6.out) (by decide)) BK279.out (by decide)) BK294.out (by decide)) (by decide)) (fun k_ hk => ⟨⟨hk.1.1.1.1.1.1.1.1, ⟨hk.1.1.1.1.1.1.2, ⟨hk.1.1.1.1.1.2, ⟨hk.1.1.1.1.2, ⟨hk.1.1.2, ⟨hk.1.2, hk.2⟩⟩⟩⟩⟩⟩, hk.1.1.1.2⟩))).2.1 (Kd.R_F (Kd.R_mono (ok' := (fun k_ => ((fun k_ => (w.heap.size ≤ k_) ∧ some k_ ≠ (.slice Ao11 t284.length co11 : Value).ownBlock ∧ some k_ ≠ (.slice Ao12 t287.length co12 : Value).ownBlock ∧ some k_ ≠ (.slice Ao13 t290.length co13 : Value).ownBlock ∧ k_ ≠ gb279 ∧ k_ ≠ gb294 ∧ k_ ≠ g282)) k_ ∧ some k_ ≠ (.slice Ao19 x6_1.length co19 : Value).ownBlock)) (IsS54.apart HI282.out (Kd.R_types (Kd.R_types (Kd.R_apart' (Kd.R_apart' (Kd.R_apart' (Kd.R_apart' (HO302.out) (Kd.N_typed HO_295001.out) (by decide)) (Kd.N_typed HO_295002.out) (by decide)) (Kd.R_typed HO_295003.out) (by decide)) (Kd.N_typed HO_6.out) (by decide)) BK279.out (by decide)) BK294.out (by decide)) (by decide)) (fun k_ hk => ⟨⟨hk.1.1.1.1.1.1.1.1, ⟨hk.1.1.1.1.1.1.2, ⟨hk.1.1.1.1.1.2, ⟨hk.1.1.1.1.2, ⟨hk.1.1.2, ⟨hk.1.2, hk.2⟩⟩⟩⟩⟩⟩, hk.1.1.1.2⟩))))); (case aB => exact bB); (case aF => exact (fun k_ hk => ⟨(Nat.le_trans (below_size bB) hk), Kd.fresh' (Kd.N_lt (bN HO_295001.out)) k_ hk, Kd.fresh' (Kd.N_lt (bN HO_295002.out)) k_ hk, Kd.fresh' (Kd.R_lt (bN HO_295003.out)) k_ hk, Kd.freshB (g := gb279) (o := .cells #[.int .i64 0, .slice none 0 0, .slice none 0 0, .slice none 0 0] 28 (0, 0)) (bw BK279.out) k_ hk, Kd.freshB (g := gb294) (o := .cells #[.int .i64 t283, .slice Ao11 t284.length co11, .slice Ao12 t287.length co12, .slice Ao13 t290.length co13] 28 (0, 0)) (bw BK294.out) k_ hk, IsS54.fresh (bI HI282.out) k_ hk⟩)); (case aO => exact (by refine bN ?_; exact Kd.N_mono HO_6.out (fun _ hk => ⟨hk.1.1, ⟨hk.1.2.1, ⟨hk.1.2.2.1, ⟨hk.1.2.2.2.1, ⟨hk.1.2.2.2.2.1, ⟨hk.1.2.2.2.2.2.1, hk.1.2.2.2.2.2.2⟩⟩⟩⟩⟩⟩))); (case aS => exact (below_size bB)); (case aL => have := LMc17.out; omega); intro v305 w24 ho hb hg hat; rw [← Ny304.out] at ho; replace HO_295001 := Aside0.mk (Kd.N_afterv (ok := (fun k_ => (w.heap.size ≤ k_) ∧ some k_ ≠ (.slice Ao12 t287.length co12 : Value).ownBlock ∧ some k_ ≠ (.slice Ao13 t290.length co13 : Value).ownBlock ∧ some k_ ≠ (.slice Ao25 t300.length co25 : Value).ownBlock ∧ k_ ≠ gb279 ∧ k_ ≠ gb294 ∧ k_ ≠ g282)) (by refine bN ?_; exact Kd.N_mono HO_295001.out (fun _ hk => ⟨⟨hk.1.1, ⟨hk.1.2.2.1, ⟨hk.1.2.2.2.1, ⟨hk.2, ⟨hk.1.2.2.2.2.1, ⟨hk.1.2.2.2.2.2.1, hk.1.2.2.2.2.2.2⟩⟩⟩⟩⟩⟩, hk.1.2.1⟩)) hg hat); replace HO_295002 := Aside0.mk (Kd.N_afterv (ok := (fun k_ => (w.heap.size ≤ k_) ∧ some k_ ≠ (.slice Ao11 t284.length co11 : Value).ownBlock ∧ some k_ ≠ (.slice Ao13 t290.length co13 : Value).ownBlock ∧ some k_ ≠ (.slice Ao25 t300.length co25 : Value).ownBlock ∧ k_ ≠ gb279 ∧ k_ ≠ gb294 ∧ k_ ≠ g282)) (by refine bN ?_; exact Kd.N_mono HO_295002.out (fun _ hk => ⟨⟨hk.1.1, ⟨hk.1.2.2.1, ⟨hk.1.2.2.2.1, ⟨hk.2, ⟨hk.1.2.2.2.2.1, ⟨hk.1.2.2.2.2.2.1, hk.1.2.2.2.2.2.2⟩⟩⟩⟩⟩⟩, hk.1.2.1⟩)) hg hat); replace HO_295003 := Aside0.mk (Kd.R_over' (bN HO_295003.out) (Kd.N_typed (bN HO_6.out)) (by decide) hg); replace BK279 := Aside0.mk (blk_grown (g := gb279) (o := .cells #[.int .i64 0, .slice none 0 0, .slice none 0 0, .slice none 0 0] 28 (0, 0)) (bw BK279.out) hg (Kd.N_ne HO_6.out BK279.out (by decide))); replace BK294 := Aside0.mk (blk_grown (g := gb294) (o := .cells #[.int .i64 t283, .slice Ao11 t284.length co11, .slice Ao12 t287.length co12, .slice Ao13 t290.length co13] 28 (0, 0)) (bw BK294.out) hg (Kd.N_ne HO_6.out BK294.out (by decide))); replace HI282 := Aside0.mk (IsS54.grown (bI HI282.out) hg (IsS54.own_neN HI282.out HO_6.out (by decide))); replace HB := Aside0.mk (hb); have HO306 := Aside0.mk (ho); clear HO_6 HO302; clear ho hb hg hat) | (go_at_call 17; (with_reducible refine (script_reader_op.calls k1 g282 t280 x283001_1 t283 _ _ t284 _ _ t287 _ _ t290 t295 t296 t297 t298 t299 t300 t303 w _ ?side1 ?side2 ?side3 ?side4 ?side5 ?side6 ?side7 ?side8 A16.out ?sideG).mono ?_); (case sideG => first | exact HG | exact ⟨HG.out.below bB⟩); (case side1 => exact bI HI282.out); (case side2 => exact bB); (case side3 => exact Kd.C_foot_ownV (base := 0) (Kd.N_V (Kd.N_mono (ok := fun k_ => (((w.heap.size ≤ k_)) ∧ (some k_ ≠ (.slice Ao19 x6_1.length co19 : Value).ownBlock ∧ (some k_ ≠ (.slice Ao12 t287.length co12 : Value).ownBlock ∧ (some k_ ≠ (.slice Ao13 t290.length co13 : Value).ownBlock ∧ (k_ ≠ gb279 ∧ (k_ ≠ gb294 ∧ k_ ≠ g282))))))) (bN HO_295001.out) (fun k_ hk_ => (⟨hk_, hk_.2.2.2.2.2.2⟩ : _ ∧ k_ ≠ g282)))) (fun _ h_ => h_.2)); (case side4 => exact (Kd.N_reads' HO_295001.out).2.1); (case side5 => exact Kd.C_foot_ownV (base := 0) (Kd.N_V (Kd.N_mono (ok := fun k_ => (((w.heap.size ≤ k_)) ∧ (some k_ ≠ (.slice Ao19 x6_1.length co19 : Value).ownBlock ∧ (some k_ ≠ (.slice Ao11 t284.length co11 : Value).ownBlock ∧ (some k_ ≠ (.slice Ao13 t290.length co13 : Value).ownBlock ∧ (k_ ≠ gb279 ∧ (k_ ≠ gb294 ∧ k_ ≠ g282))))))) (bN HO_295002.out) (fun k_ hk_ => (⟨hk_, hk_.2.2.2.2.2.2⟩ : _ ∧ k_ ≠ g282)))) (fun _ h_ => h_.2)); (case side6 => exact (Kd.N_reads' HO_295002.out).2.1); (case side7 => exact Kd.C_foot_own (IsS54.apart (show IsS54 w _ g282 t280 x283001_1 from by exact bI HI282.out) (bN HO_295003.out) (by decide)) (fun _ h_ => h_.2)); (case side8 => exact (Kd.R_reads' HO_295003.out).2.1); rintro e w23 ⟨v301, rfl, ho0, hi, hb, hk⟩; replace HO_6 := Aside0.mk (Kd.N_mono (Kd.N_told (Kd.N_oldK (Kd.N_mono (ok := fun k_ => (((w.heap.size ≤ k_)) ∧ (some k_ ≠ (.slice Ao11 t284.length co11 : Value).ownBlock ∧ (some k_ ≠ (.slice Ao12 t287.length co12 : Value).ownBlock ∧ (some k_ ≠ (.slice Ao13 t290.length co13 : Value).ownBlock ∧ (k_ ≠ gb279 ∧ (k_ ≠ gb294 ∧ k_ ≠ g282))))))) (bN HO_6.out) (fun k_ hk_ => (⟨hk_, hk_.2.2.2.2.2.2⟩ : _ ∧ k_ ≠ g282))) hk) (Kd.R_base ho0)) (fun _ h_ => h_.1)); replace HO_295001 := Aside0.mk (Kd.N_mono (Kd.N_told (Kd.N_oldK (Kd.N_mono (ok := fun k_ => (((w.heap.size ≤ k_)) ∧ (some k_ ≠ (.slice Ao19 x6_1.length co19 : Value).ownBlock ∧ (some k_ ≠ (.slice Ao12 t287.length co12 : Value).ownBlock ∧ (some k_ ≠ (.slice Ao13 t290.length co13 : Value).ownBlock ∧ (k_ ≠ gb279 ∧ (k_ ≠ gb294 ∧ k_ ≠ g282))))))) (bN HO_295001.out) (fun k_ hk_ => (⟨hk_, hk_.2.2.2.2.2.2⟩ : _ ∧ k_ ≠ g282))) hk) (Kd.R_base ho0)) (fun _ h_ => h_.1)); replace HO_295002 := Aside0.mk (Kd.N_mono (Kd.N_told (Kd.N_oldK (Kd.N_mono (ok := fun k_ => (((w.heap.size ≤ k_)) ∧ (some k_ ≠ (.slice Ao19 x6_1.length co19 : Value).ownBlock ∧ (some k_ ≠ (.slice Ao11 t284.length co11 : Value).ownBlock ∧ (some k_ ≠ (.slice Ao13 t290.length co13 : Value).ownBlock ∧ (k_ ≠ gb279 ∧ (k_ ≠ gb294 ∧ k_ ≠ g282))))))) (bN HO_295002.out) (fun k_ hk_ => (⟨hk_, hk_.2.2.2.2.2.2⟩ : _ ∧ k_ ≠ g282))) hk) (Kd.R_base ho0)) (fun _ h_ => h_.1)); replace HO_295003 := Aside0.mk (Kd.R_mono (Kd.R_keep (IsS54.apart (show IsS54 w _ g282 t280 x283001_1 from by exact bI HI282.out) (bN HO_295003.out) (by decide)) hk (fun _ h => h.2)) (fun _ h => h.1)); replace BK279 := Aside0.mk (KeepBut.blk hk (g' := gb279) (o := .cells #[.int .i64 0, .slice none 0 0, .slice none 0 0, .slice none 0 0] 28 (0, 0)) (bw BK279.out) NB279_282.out (by simp)); replace BK294 := Aside0.mk (KeepBut.blk hk (g' := gb294) (o := .cells #[.int .i64 t283, .slice Ao11 t284.length co11, .slice Ao12 t287.length co12, .slice Ao13 t290.length co13] 28 (0, 0)) (bw BK294.out) NB294_282.out (by simp)); have HO302 := Aside0.mk (Kd.R_lower (Kd.R_newM (M := fun k_ => (w.heap.size ≤ k_)) ho0 (below_size bB) (fun k_ h_ => h_)) (below_size bB)); replace HB := Aside0.mk (hb); replace HI282 := Aside0.mk (hi); (try clear hb); (try clear hb2); (try clear hk); (try clear hi); (try clear ho0); obtain ⟨Ao25, co25, eo25⟩ := Kd.R_slice HO302.out; subst eo25))
 go_roundg k1
 case measure => have := HK1.out; omega
 case rel => exact ⟨(y304), (t303), H', ⟨by have := HK1.out; omega⟩, ⟨bN HO306.out⟩, ⟨by refine bN ?_; exact Kd.N_mono HO_295001.out (fun _ hk => ⟨hk.1.1, ⟨hk.2, ⟨hk.1.2.1, ⟨hk.1.2.2.1, ⟨hk.1.2.2.2.2.1, ⟨hk.1.2.2.2.2.2.1, hk.1.2.2.2.2.2.2⟩⟩⟩⟩⟩⟩)⟩, ⟨by refine bN ?_; exact Kd.N_mono HO_295002.out (fun _ hk => ⟨hk.1.1, ⟨hk.2, ⟨hk.1.2.1, ⟨hk.1.2.2.1, ⟨hk.1.2.2.2.2.1, ⟨hk.1.2.2.2.2.2.1, hk.1.2.2.2.2.2.2⟩⟩⟩⟩⟩⟩)⟩, ⟨bN HO_295003.out⟩, ⟨bw BK279.out⟩, ⟨bw BK294.out⟩, ⟨bI HI282.out⟩, ⟨bB⟩⟩
end Go.Proofs.YtiikllgppmmiaaaDoor.OScriptReads
