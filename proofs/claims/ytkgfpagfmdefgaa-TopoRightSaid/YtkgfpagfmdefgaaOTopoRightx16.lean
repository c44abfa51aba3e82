/- What Go functions that the law TopoRight uses come to, and why: part 16. Made out of the kit's print by a program of this session (wip/tools/stub.py, splice.py), functions that it does not take told by hand. -/
import Derived.Test.YtkgfpagfmdefgaaOTopoRightx15
namespace Go.Proofs.Ytkgfpagfmdefgaa.OTopoRight
open Go.RowKit Go.Proofs.YtkgfpagfmdefgaaW.PrintWords Go.Proofs.YtkgfpagfmdefgaaW.PrintLast Go.Proofs.YtkgfpagfmdefgaaW.PrintMore
attribute [local go_sem] max2_int min2_int max_two min_two max_three min_three max_four min_four   -- for this text's walks alone
set_option linter.unusedVariables false
set_option linter.unusedSimpArgs false

/-! ### ids_Bridge: function 26 -/
def ids_Bridge.f (a0 : Int) (a1 : Int) : Option (Int) := some (Go.bits .or .u64 (IntKind.u64.wrap ((IntKind.u64.wrap (a0)) * 281474976710656)) (Go.bits .and .u64 a1 281474976710655))
set_option maxHeartbeats 8000000 in
set_option maxRecDepth 100000 in
theorem ids_Bridge.calls (a0 : Int) (a1 : Int) (r : Int) (w : World) (h : ids_Bridge.f a0 a1 = some r) :
  Calls Try.prog 26 #[.int .u16 a0, .int .u64 a1] w fun e w' => e = .returned (.int .u64 r) ∧ Drawn0 w w' := by
 have H : (some (Go.bits .or .u64 (IntKind.u64.wrap ((IntKind.u64.wrap (a0)) * 281474976710656)) (Go.bits .and .u64 a1 281474976710655))) = some r := h
 clear h
 obtain rfl := Option.some.inj H
 go_enter Try.func26, Try.ntmps26
 go_wp2
 go_ret
 exact ⟨by first | rfl | (simp; done) | (simp [*]; done), by repeat (first | exact Drawn0.refl _ | apply Drawn0.step)⟩
/-! ### conf_Id: function 17 -/
def conf_Id.f (a0_0 : Int) (a0_1 : Int) (a0_2 : Int) (a0_3 : Int) (a0_4 : Int) (a0_5 : Int) (a0_6 : Int) (l0_7 : List (S51)) : Option (Int) := (ids_Bridge.f a0_1 a0_0).bind fun t256 => (some t256)
set_option maxHeartbeats 8000000 in
set_option maxRecDepth 100000 in
theorem conf_Id.calls (a0_0 : Int) (a0_1 : Int) (a0_2 : Int) (a0_3 : Int) (a0_4 : Int) (a0_5 : Int) (a0_6 : Int) (A0_7 : Option Addr) (c0_7 : Nat) (l0_7 : List (S51)) (r : Int) (w : World) (hr0_7 : Kd.C k51 w A0_7 l0_7.length l0_7) (hc0_7 : l0_7.length ≤ c0_7) (h : conf_Id.f a0_0 a0_1 a0_2 a0_3 a0_4 a0_5 a0_6 l0_7 = some r) :
  Calls Try.prog 17 #[.agg #[.int .u64 a0_0, .int .u16 a0_1, .int .i64 a0_2, .int .i64 a0_3, .int .i64 a0_4, .int .i64 a0_5, .int .i64 a0_6, .slice A0_7 l0_7.length c0_7]] w fun e w' => e = .returned (.int .u64 r) ∧ Below w.heap.size w w' := by
 have hu48 := Try.underlying48
 have HR0_7 := Aside0.mk hr0_7
 have HC0_7 := Aside0.mk hc0_7
 clear hr0_7 hc0_7
 have HB := Aside0.mk (Below.refl w.heap.size w)
 have H : ((ids_Bridge.f a0_1 a0_0).bind fun t256 => (some t256)) = some r := h
 clear h
 replace H := Option.bind_eq_some_iff.mp H
 obtain ⟨t256, A20, H⟩ := H
 replace H : (some t256) = some r := H
 have A2 := Aside0.mk A20
 clear A20
 obtain rfl := Option.some.inj H
 go_enter Try.func17, Try.ntmps17
 go_wp2_with (first | ((with_reducible refine gate_dst (N := 1) rfl ?_); refine box_event ?hg (N := 1) ?hd (cs := #[.int .u64 a0_0, .int .u16 a0_1, .int .i64 a0_2, .int .i64 a0_3, .int .i64 a0_4, .int .i64 a0_5, .int .i64 a0_6, .slice A0_7 l0_7.length c0_7]) (t := 48) ?hr ?_; (case hd => rfl); (case hg => rfl); (case hr => first | (go_simp; done) | (go_simp; rfl)); intro gb255 hg w3 hbox hb; have n0_ := Aside0.mk (below_step (by repeat (first | (with_reducible first | exact HB.out | apply below_alloc | apply pw_below_drewN | apply below_drew1) | exact HB.out)) hb); have n1_ := Aside0.mk (hbox); have n2_ := Aside0.mk ((by rw [hg]; exact (below_size (by repeat (first | (with_reducible first | exact HB.out | apply below_alloc | apply pw_below_drewN | apply below_drew1) | exact HB.out))) : w.heap.size ≤ gb255)); have n3_ := Aside0.mk ((by rw [hg]; exact (below_size (by repeat (first | (with_reducible first | exact HB.out | apply below_alloc | apply pw_below_drewN | apply below_drew1) | exact HB.out))) : w.heap.size ≤ gb255)); clear HB; have HB := n0_; have BK255 := n1_; have GW255 := n2_; have GE255 := n3_; clear n0_ n1_ n2_ n3_; clear hb hbox hg; have hcz4_0 : w3.cell? ⟨gb255, 0, none⟩ = some (.int .u64 a0_0) := (blk_cell BK255.out 0).trans rfl; have hcz4_1 : w3.cell? ⟨gb255, 1, none⟩ = some (.int .u16 a0_1) := (blk_cell BK255.out 1).trans rfl; have hcz4_2 : w3.cell? ⟨gb255, 2, none⟩ = some (.int .i64 a0_2) := (blk_cell BK255.out 2).trans rfl; have hcz4_3 : w3.cell? ⟨gb255, 3, none⟩ = some (.int .i64 a0_3) := (blk_cell BK255.out 3).trans rfl; have hcz4_4 : w3.cell? ⟨gb255, 4, none⟩ = some (.int .i64 a0_4) := (blk_cell BK255.out 4).trans rfl; have hcz4_5 : w3.cell? ⟨gb255, 5, none⟩ = some (.int .i64 a0_5) := (blk_cell BK255.out 5).trans rfl; have hcz4_6 : w3.cell? ⟨gb255, 6, none⟩ = some (.int .i64 a0_6) := (blk_cell BK255.out 6).trans rfl; have hcz4_7 : w3.cell? ⟨gb255, 7, none⟩ = some (.slice A0_7 l0_7.length c0_7) := (blk_cell BK255.out 7).trans rfl; have hfz4_0 := blk_frozen BK255.out 0; have hfz4_1 := blk_frozen BK255.out 1; have hfz4_2 := blk_frozen BK255.out 2; have hfz4_3 := blk_frozen BK255.out 3; have hfz4_4 := blk_frozen BK255.out 4; have hfz4_5 := blk_frozen BK255.out 5; have hfz4_6 := blk_frozen BK255.out 6; have hfz4_7 := blk_frozen BK255.out 7) | ((with_reducible refine gate_callee (f := 26) rfl ?_); refine goesL_ (some 7) rfl rfl Try.func26 (by kernel_rfl) rfl #[.int .u16 a0_1, .int .u64 a0_0] rfl (by (try simp only [List.map_toArray, List.map_cons, List.map_nil]); first | done | rfl | (simp only [List.length_drop, List.length_take]; rfl)) ?_; (with_reducible refine (ids_Bridge.calls a0_1 a0_0 t256 _ A2.out).mono ?_); rintro e w' ⟨rfl, ⟨nd, rfl⟩⟩; refine ⟨_, rfl, ?_⟩) | (go_at_call 26; (with_reducible refine (ids_Bridge.calls a0_1 a0_0 t256 _ A2.out).mono ?_); rintro e w' ⟨rfl, ⟨nd, rfl⟩⟩))
 go_ret
 exact ⟨by first | rfl | (simp [errW_none, errW_some] <;> rfl) | (simp [*, errW_none, errW_some] <;> rfl), by repeat (first | (with_reducible first | exact HB.out | apply below_alloc | apply pw_below_drewN | apply below_drew1 | refine below_set ?_ GE255.out) | exact HB.out)⟩
end Go.Proofs.Ytkgfpagfmdefgaa.OTopoRight
