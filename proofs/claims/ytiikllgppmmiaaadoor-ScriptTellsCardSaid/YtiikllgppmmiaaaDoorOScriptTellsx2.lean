/- What Go functions that the law ScriptTells uses come to, and why: part 2. Made out of the kit's print by a program of this session (wip/tools/stub.py, splice.py), functions that it does not take told by hand. -/
import Derived.Test.YtiikllgppmmiaaaDoorOScriptTellsx1
namespace Go.Proofs.YtiikllgppmmiaaaDoor.OScriptTells
open Go.RowKit Go.Proofs.YtiikllgppmmiaaaDoorW.PrintWords Go.Proofs.YtiikllgppmmiaaaDoorW.PrintLast Go.Proofs.YtiikllgppmmiaaaDoorW.PrintMore
attribute [local go_sem] max2_int min2_int max_two min_two max_three min_three max_four min_four   -- for this text's walks alone
set_option linter.unusedVariables false
set_option linter.unusedSimpArgs false
private theorem setCell_drewN_ (w : World) (n : Nat) (p : Addr) (u : Value) : (w.drewN n).setCell p u = (w.setCell p u).drewN n := by
  unfold World.setCell World.drewN
  split <;> rfl

/-! ### script_reader_conf: function 29 -/
def script_reader_conf.l0 : Nat → Int → Int → List Int → Int → Int → Int → Int → Int → Int → Int → Int → List (S63) → Option (Int × Int × Int × Int × Int × Int × Int × (List (S63)) × Int)
  | 0, _, _, _, _, _, _, _, _, _, _, _, _ => none
  | k + 1, x57, x58, x1000, x1001, x113000, x113001, x113002, x113003, x113004, x113005, x113006, x113007 => if x58 < x57 then ((script_reader_next.f x1000 x1001).bind fun bt119 => (if x113007.length < 11728124029610 then (script_reader_conf.l0 k x57 (wrap64 (x58 + 1)) x1000 bt119.2 x113000 x113001 x113002 x113003 x113004 x113005 x113006 (x113007 ++ [(⟨128, (wrap64 (1 + (Int.tmod bt119.1 50))) % 4294967296, decide (bt119.1 < 230)⟩ : S63)])) else (none))) else (some (x113000, x113001, x113002, x113003, x113004, x113005, x113006, x113007, x1001))
def script_reader_conf.f (k : Nat) (s0_0 : List Int) (s0_1 : Int) (a1 : Int) : Option (Int × Int × Int × Int × Int × Int × Int × (List (S63)) × Int) := (script_address.f 1 a1).bind fun t103 => ((script_reader_next.f s0_0 s0_1).bind fun bt104 => ((script_reader_next.f s0_0 bt104.2).bind fun bt106 => ((script_reader_next.f s0_0 bt106.2).bind fun bt108 => ((script_reader_next.f s0_0 bt108.2).bind fun bt110 => ((script_reader_next.f s0_0 bt110.2).bind fun bt113 => ((script_reader_next.f s0_0 bt113.2).bind fun bt115 => ((script_reader_next.f s0_0 bt115.2).bind fun bt117 => (script_reader_conf.l0 k (wrap64 (1 + (Int.tmod bt117.1 3))) 0 s0_0 bt117.2 t103 (IntKind.u16.wrap (wrap64 ((Int.tmod bt104.1 4) * 4096))) (mx (wrap64 ((wrap64 ((wrap64 (2 * (wrap64 ((wrap64 (1 + (Int.tmod bt106.1 2))) + 1)))) + 2)) + (Int.tmod bt113.1 16))) 6) (wrap64 (1 + (Int.tmod bt106.1 2))) (mx (wrap64 ((wrap64 ((wrap64 (Int.tdiv (wrap64 ((wrap64 ((wrap64 ((wrap64 (2 * (wrap64 ((wrap64 (1 + (Int.tmod bt106.1 2))) + 1)))) + 2)) + (Int.tmod bt113.1 16))) + 1)) 2)) + 1)) + (Int.tmod bt115.1 4))) 4) (wrap64 (10 + (Int.tmod bt108.1 20))) (Int.tmod bt110.1 9) ([] : List (S63))))))))))
theorem script_reader_conf.mono_l : ∀ k, (∀ y0 y1 y2 y3 y4 y5 y6 y7 y8 y9 y10 y11, LeO (script_reader_conf.l0 k y0 y1 y2 y3 y4 y5 y6 y7 y8 y9 y10 y11) (script_reader_conf.l0 (k + 1) y0 y1 y2 y3 y4 y5 y6 y7 y8 y9 y10 y11))
  | 0 => fun _ _ _ _ _ _ _ _ _ _ _ _ r h => by simp [script_reader_conf.l0] at h
  | k + 1 => by
    have ih0 := script_reader_conf.mono_l k
    · intro y0 y1 y2 y3 y4 y5 y6 y7 y8 y9 y10 y11
      unfold script_reader_conf.l0
      repeat' first
      | (with_reducible exact ih0 _ _ _ _ _ _ _ _ _ _ _ _)
      | (with_reducible exact LeO.refl _)
      | (with_reducible exact LeO.none _)
      | (with_reducible refine LeO.ite ?_ ?_)
      | (with_reducible refine LeO.bind ?_ (fun _ => ?_))
      | exact ih0 _ _ _ _ _ _ _ _ _ _ _ _
      | exact LeO.none _
      | refine LeO.ite ?_ ?_
      | refine LeO.bind ?_ (fun _ => ?_)
theorem script_reader_conf.mono : ∀ a0 a1 a2 k, LeO (script_reader_conf.f k a0 a1 a2) (script_reader_conf.f (k + 1) a0 a1 a2) := by
  intro a0 a1 a2 k
  have ih0 := script_reader_conf.mono_l k
  unfold script_reader_conf.f
  repeat' first
      | (with_reducible exact ih0 _ _ _ _ _ _ _ _ _ _ _ _)
      | (with_reducible exact LeO.refl _)
      | (with_reducible exact LeO.none _)
      | (with_reducible refine LeO.ite ?_ ?_)
      | (with_reducible refine LeO.bind ?_ (fun _ => ?_))
      | exact ih0 _ _ _ _ _ _ _ _ _ _ _ _
      | exact LeO.none _
      | refine LeO.ite ?_ ?_
      | refine LeO.bind ?_ (fun _ => ?_)
def script_reader_conf.T2 : Bool × List (List Nat × List Nat) := (true, [([], []), ([0], [0]), ([1], [1]), ([2], [2]), ([3], [3]), ([], []), ([5], [5]), ([6], [6]), ([4, 7], [4, 7]), ([0, 1, 2, 3, 4, 5, 6, 7, 8], []), ([9, 8, 6, 0, 1, 2, 3, 4, 5, 6, 7, 8], [8, 9])])
def script_reader_conf.B2 : List Nat := [0, 1, 3, 7, 15, 0, 32, 96, 255, 511, 1023]
theorem script_reader_conf.tab2 : rtab .any (opsOf Tryd.f29 2) = script_reader_conf.T2 := by kernel_rfl
theorem script_reader_conf.bits2 : waitsOk script_reader_conf.T2.2 script_reader_conf.B2 = true := by kernel_rfl
def script_reader_conf.T3 : Bool × List (List Nat × List Nat) := (true, [([], []), ([0], [0]), ([1], [1]), ([2], [2]), ([3], [3]), ([], []), ([5], [5]), ([6], [6]), ([4, 7], [4, 7]), ([0, 1, 2, 3, 4, 5, 6, 7, 8], []), ([9, 8, 6, 0, 1, 2, 3, 4, 5, 6, 7, 8], [8, 9])])
def script_reader_conf.B3 : List Nat := [0, 1, 3, 7, 15, 0, 32, 96, 255, 511, 1023]
theorem script_reader_conf.tab3 : rtab .any (opsOf Tryd.f29 3) = script_reader_conf.T3 := by kernel_rfl
theorem script_reader_conf.bits3 : waitsOk script_reader_conf.T3.2 script_reader_conf.B3 = true := by kernel_rfl
set_option maxHeartbeats 8000000 in
set_option maxRecDepth 100000 in
theorem script_reader_conf.calls (k : Nat) (g : Nat) (s0_0 : List Int) (s0_1 : Int) (a1 : Int) (r1 : Int) (r2 : Int) (r3 : Int) (r4 : Int) (r5 : Int) (r6 : Int) (r7 : Int) (r8 : List (S63)) (r9 : Int) (w0 w : World) (hI : IsS54 w0 w g s0_0 s0_1) (hB : Below w0.heap.size w0 w) (h : script_reader_conf.f k s0_0 s0_1 a1 = some (r1, r2, r3, r4, r5, r6, r7, r8, r9)) :
  Calls Tryd.prog 29 #[.pointer (some ⟨g, 0, none⟩), .int .i64 a1] w fun e w' => ∃ v7_ : Value, e = .returned (.agg #[.int .u64 r1, .int .u16 r2, .int .i64 r3, .int .i64 r4, .int .i64 r5, .int .i64 r6, .int .i64 r7, v7_]) ∧ Kd.R k63 63 w' w.heap.size (fun _ => True) v7_ r8 ∧ IsS54 w0 w' g s0_0 r9 ∧ Below w0.heap.size w0 w' ∧ KeepBut w w' g none := by
 have hu51 := Tryd.underlying51
 have hu63 := Tryd.underlying63
 have HI0 := Aside0.mk hI
 have HK := Aside0.mk (KeepBut.refl w g none)
 have HL := Aside0.mk hB.size
 clear hI
 have HW0 := Aside0.mk hB.size
 have HB := Aside0.mk hB
 clear hB
 have H : ((script_address.f 1 a1).bind fun t103 => ((script_reader_next.f s0_0 s0_1).bind fun bt104 => ((script_reader_next.f s0_0 bt104.2).bind fun bt106 => ((script_reader_next.f s0_0 bt106.2).bind fun bt108 => ((script_reader_next.f s0_0 bt108.2).bind fun bt110 => ((script_reader_next.f s0_0 bt110.2).bind fun bt113 => ((script_reader_next.f s0_0 bt113.2).bind fun bt115 => ((script_reader_next.f s0_0 bt115.2).bind fun bt117 => (script_reader_conf.l0 k (wrap64 (1 + (Int.tmod bt117.1 3))) 0 s0_0 bt117.2 t103 (IntKind.u16.wrap (wrap64 ((Int.tmod bt104.1 4) * 4096))) (mx (wrap64 ((wrap64 ((wrap64 (2 * (wrap64 ((wrap64 (1 + (Int.tmod bt106.1 2))) + 1)))) + 2)) + (Int.tmod bt113.1 16))) 6) (wrap64 (1 + (Int.tmod bt106.1 2))) (mx (wrap64 ((wrap64 ((wrap64 (Int.tdiv (wrap64 ((wrap64 ((wrap64 ((wrap64 (2 * (wrap64 ((wrap64 (1 + (Int.tmod bt106.1 2))) + 1)))) + 2)) + (Int.tmod bt113.1 16))) + 1)) 2)) + 1)) + (Int.tmod bt115.1 4))) 4) (wrap64 (10 + (Int.tmod bt108.1 20))) (Int.tmod bt110.1 9) ([] : List (S63))))))))))) = some (r1, r2, r3, r4, r5, r6, r7, r8, r9) := h
 clear h
 replace H := Option.bind_eq_some_iff.mp H
 obtain ⟨t103, A30, H⟩ := H
 replace H : ((script_reader_next.f s0_0 s0_1).bind fun bt104 => ((script_reader_next.f s0_0 bt104.2).bind fun bt106 => ((script_reader_next.f s0_0 bt106.2).bind fun bt108 => ((script_reader_next.f s0_0 bt108.2).bind fun bt110 => ((script_reader_next.f s0_0 bt110.2).bind fun bt113 => ((script_reader_next.f s0_0 bt113.2).bind fun bt115 => ((script_reader_next.f s0_0 bt115.2).bind fun bt117 => (script_reader_conf.l0 k (wrap64 (1 + (Int.tmod bt117.1 3))) 0 s0_0 bt117.2 t103 (IntKind.u16.wrap (wrap64 ((Int.tmod bt104.1 4) * 4096))) (mx (wrap64 ((wrap64 ((wrap64 (2 * (wrap64 ((wrap64 (1 + (Int.tmod bt106.1 2))) + 1)))) + 2)) + (Int.tmod bt113.1 16))) 6) (wrap64 (1 + (Int.tmod bt106.1 2))) (mx (wrap64 ((wrap64 ((wrap64 (Int.tdiv (wrap64 ((wrap64 ((wrap64 ((wrap64 (2 * (wrap64 ((wrap64 (1 + (Int.tmod bt106.1 2))) + 1)))) + 2)) + (Int.tmod bt113.1 16))) + 1)) 2)) + 1)) + (Int.tmod bt115.1 4))) 4) (wrap64 (10 + (Int.tmod bt108.1 20))) (Int.tmod bt110.1 9) ([] : List (S63)))))))))) = some (r1, r2, r3, r4, r5, r6, r7, r8, r9) := H
 have A3 := Aside0.mk A30
 clear A30
 replace H := Option.bind_eq_some_iff.mp H
 obtain ⟨⟨t104, t105⟩, A40, H⟩ := H
 replace H : ((script_reader_next.f s0_0 t105).bind fun bt106 => ((script_reader_next.f s0_0 bt106.2).bind fun bt108 => ((script_reader_next.f s0_0 bt108.2).bind fun bt110 => ((script_reader_next.f s0_0 bt110.2).bind fun bt113 => ((script_reader_next.f s0_0 bt113.2).bind fun bt115 => ((script_reader_next.f s0_0 bt115.2).bind fun bt117 => (script_reader_conf.l0 k (wrap64 (1 + (Int.tmod bt117.1 3))) 0 s0_0 bt117.2 t103 (IntKind.u16.wrap (wrap64 ((Int.tmod t104 4) * 4096))) (mx (wrap64 ((wrap64 ((wrap64 (2 * (wrap64 ((wrap64 (1 + (Int.tmod bt106.1 2))) + 1)))) + 2)) + (Int.tmod bt113.1 16))) 6) (wrap64 (1 + (Int.tmod bt106.1 2))) (mx (wrap64 ((wrap64 ((wrap64 (Int.tdiv (wrap64 ((wrap64 ((wrap64 ((wrap64 (2 * (wrap64 ((wrap64 (1 + (Int.tmod bt106.1 2))) + 1)))) + 2)) + (Int.tmod bt113.1 16))) + 1)) 2)) + 1)) + (Int.tmod bt115.1 4))) 4) (wrap64 (10 + (Int.tmod bt108.1 20))) (Int.tmod bt110.1 9) ([] : List (S63))))))))) = some (r1, r2, r3, r4, r5, r6, r7, r8, r9) := H
 have A4 := Aside0.mk A40
 clear A40
 replace H := Option.bind_eq_some_iff.mp H
 obtain ⟨⟨t106, t107⟩, A50, H⟩ := H
 replace H : ((script_reader_next.f s0_0 t107).bind fun bt108 => ((script_reader_next.f s0_0 bt108.2).bind fun bt110 => ((script_reader_next.f s0_0 bt110.2).bind fun bt113 => ((script_reader_next.f s0_0 bt113.2).bind fun bt115 => ((script_reader_next.f s0_0 bt115.2).bind fun bt117 => (script_reader_conf.l0 k (wrap64 (1 + (Int.tmod bt117.1 3))) 0 s0_0 bt117.2 t103 (IntKind.u16.wrap (wrap64 ((Int.tmod t104 4) * 4096))) (mx (wrap64 ((wrap64 ((wrap64 (2 * (wrap64 ((wrap64 (1 + (Int.tmod t106 2))) + 1)))) + 2)) + (Int.tmod bt113.1 16))) 6) (wrap64 (1 + (Int.tmod t106 2))) (mx (wrap64 ((wrap64 ((wrap64 (Int.tdiv (wrap64 ((wrap64 ((wrap64 ((wrap64 (2 * (wrap64 ((wrap64 (1 + (Int.tmod t106 2))) + 1)))) + 2)) + (Int.tmod bt113.1 16))) + 1)) 2)) + 1)) + (Int.tmod bt115.1 4))) 4) (wrap64 (10 + (Int.tmod bt108.1 20))) (Int.tmod bt110.1 9) ([] : List (S63)))))))) = some (r1, r2, r3, r4, r5, r6, r7, r8, r9) := H
 have A5 := Aside0.mk A50
 clear A50
 replace H := Option.bind_eq_some_iff.mp H
 obtain ⟨⟨t108, t109⟩, A60, H⟩ := H
 replace H : ((script_reader_next.f s0_0 t109).bind fun bt110 => ((script_reader_next.f s0_0 bt110.2).bind fun bt113 => ((script_reader_next.f s0_0 bt113.2).bind fun bt115 => ((script_reader_next.f s0_0 bt115.2).bind fun bt117 => (script_reader_conf.l0 k (wrap64 (1 + (Int.tmod bt117.1 3))) 0 s0_0 bt117.2 t103 (IntKind.u16.wrap (wrap64 ((Int.tmod t104 4) * 4096))) (mx (wrap64 ((wrap64 ((wrap64 (2 * (wrap64 ((wrap64 (1 + (Int.tmod t106 2))) + 1)))) + 2)) + (Int.tmod bt113.1 16))) 6) (wrap64 (1 + (Int.tmod t106 2))) (mx (wrap64 ((wrap64 ((wrap64 (Int.tdiv (wrap64 ((wrap64 ((wrap64 ((wrap64 (2 * (wrap64 ((wrap64 (1 + (Int.tmod t106 2))) + 1)))) + 2)) + (Int.tmod bt113.1 16))) + 1)) 2)) + 1)) + (Int.tmod bt115.1 4))) 4) (wrap64 (10 + (Int.tmod t108 20))) (Int.tmod bt110.1 9) ([] : List (S63))))))) = some (r1, r2, r3, r4, r5, r6, r7, r8, r9) := H
 have A6 := Aside0.mk A60
 clear A60
 replace H := Option.bind_eq_some_iff.mp H
 obtain ⟨⟨t110, t111⟩, A70, H⟩ := H
 replace H : ((script_reader_next.f s0_0 t111).bind fun bt113 => ((script_reader_next.f s0_0 bt113.2).bind fun bt115 => ((script_reader_next.f s0_0 bt115.2).bind fun bt117 => (script_reader_conf.l0 k (wrap64 (1 + (Int.tmod bt117.1 3))) 0 s0_0 bt117.2 t103 (IntKind.u16.wrap (wrap64 ((Int.tmod t104 4) * 4096))) (mx (wrap64 ((wrap64 ((wrap64 (2 * (wrap64 ((wrap64 (1 + (Int.tmod t106 2))) + 1)))) + 2)) + (Int.tmod bt113.1 16))) 6) (wrap64 (1 + (Int.tmod t106 2))) (mx (wrap64 ((wrap64 ((wrap64 (Int.tdiv (wrap64 ((wrap64 ((wrap64 ((wrap64 (2 * (wrap64 ((wrap64 (1 + (Int.tmod t106 2))) + 1)))) + 2)) + (Int.tmod bt113.1 16))) + 1)) 2)) + 1)) + (Int.tmod bt115.1 4))) 4) (wrap64 (10 + (Int.tmod t108 20))) (Int.tmod t110 9) ([] : List (S63)))))) = some (r1, r2, r3, r4, r5, r6, r7, r8, r9) := H
 have A7 := Aside0.mk A70
 clear A70
 replace H := Option.bind_eq_some_iff.mp H
 obtain ⟨⟨t113, t114⟩, A80, H⟩ := H
 replace H : ((script_reader_next.f s0_0 t114).bind fun bt115 => ((script_reader_next.f s0_0 bt115.2).bind fun bt117 => (script_reader_conf.l0 k (wrap64 (1 + (Int.tmod bt117.1 3))) 0 s0_0 bt117.2 t103 (IntKind.u16.wrap (wrap64 ((Int.tmod t104 4) * 4096))) (mx (wrap64 ((wrap64 ((wrap64 (2 * (wrap64 ((wrap64 (1 + (Int.tmod t106 2))) + 1)))) + 2)) + (Int.tmod t113 16))) 6) (wrap64 (1 + (Int.tmod t106 2))) (mx (wrap64 ((wrap64 ((wrap64 (Int.tdiv (wrap64 ((wrap64 ((wrap64 ((wrap64 (2 * (wrap64 ((wrap64 (1 + (Int.tmod t106 2))) + 1)))) + 2)) + (Int.tmod t113 16))) + 1)) 2)) + 1)) + (Int.tmod bt115.1 4))) 4) (wrap64 (10 + (Int.tmod t108 20))) (Int.tmod t110 9) ([] : List (S63))))) = some (r1, r2, r3, r4, r5, r6, r7, r8, r9) := H
 have A8 := Aside0.mk A80
 clear A80
 replace H := Option.bind_eq_some_iff.mp H
 obtain ⟨⟨t115, t116⟩, A90, H⟩ := H
 replace H : ((script_reader_next.f s0_0 t116).bind fun bt117 => (script_reader_conf.l0 k (wrap64 (1 + (Int.tmod bt117.1 3))) 0 s0_0 bt117.2 t103 (IntKind.u16.wrap (wrap64 ((Int.tmod t104 4) * 4096))) (mx (wrap64 ((wrap64 ((wrap64 (2 * (wrap64 ((wrap64 (1 + (Int.tmod t106 2))) + 1)))) + 2)) + (Int.tmod t113 16))) 6) (wrap64 (1 + (Int.tmod t106 2))) (mx (wrap64 ((wrap64 ((wrap64 (Int.tdiv (wrap64 ((wrap64 ((wrap64 ((wrap64 (2 * (wrap64 ((wrap64 (1 + (Int.tmod t106 2))) + 1)))) + 2)) + (Int.tmod t113 16))) + 1)) 2)) + 1)) + (Int.tmod t115 4))) 4) (wrap64 (10 + (Int.tmod t108 20))) (Int.tmod t110 9) ([] : List (S63)))) = some (r1, r2, r3, r4, r5, r6, r7, r8, r9) := H
 have A9 := Aside0.mk A90
 clear A90
 obtain ⟨ji10, hji10⟩ : ∃ j_ : Int, (mx (wrap64 ((wrap64 ((wrap64 (2 * (wrap64 ((wrap64 (1 + (Int.tmod t106 2))) + 1)))) + 2)) + (Int.tmod t113 16))) 6) = j_ := ⟨_, rfl⟩
 replace H : ((script_reader_next.f s0_0 t116).bind fun bt117 => (script_reader_conf.l0 k (wrap64 (1 + (Int.tmod bt117.1 3))) 0 s0_0 bt117.2 t103 (IntKind.u16.wrap (wrap64 ((Int.tmod t104 4) * 4096))) ji10 (wrap64 (1 + (Int.tmod t106 2))) (mx (wrap64 ((wrap64 ((wrap64 (Int.tdiv (wrap64 ((wrap64 ((wrap64 ((wrap64 (2 * (wrap64 ((wrap64 (1 + (Int.tmod t106 2))) + 1)))) + 2)) + (Int.tmod t113 16))) + 1)) 2)) + 1)) + (Int.tmod t115 4))) 4) (wrap64 (10 + (Int.tmod t108 20))) (Int.tmod t110 9) ([] : List (S63)))) = some (r1, r2, r3, r4, r5, r6, r7, r8, r9) := by first | (rw [hji10] at H; exact H) | (simp only [hji10] at H ⊢; exact H)
 (try rw [hji10] at A3)
 (try rw [hji10] at A4)
 (try rw [hji10] at A5)
 (try rw [hji10] at A6)
 (try rw [hji10] at A7)
 (try rw [hji10] at A8)
 (try rw [hji10] at A9)
 (try (have hji10l : 6 ≤ ji10 := by (rw [← hji10]; unfold mx; (repeat' split) <;> omega)))
 (try (have hji10m : 0 ≤ ji10 := by omega))
 have hji10_ : (if (wrap64 ((wrap64 ((wrap64 (2 * (wrap64 ((wrap64 (1 + (Int.tmod t106 2))) + 1)))) + 2)) + (Int.tmod t113 16))) < 6 then 6 else (wrap64 ((wrap64 ((wrap64 (2 * (wrap64 ((wrap64 (1 + (Int.tmod t106 2))) + 1)))) + 2)) + (Int.tmod t113 16)))) = ji10 := hji10
 obtain ⟨ji11, hji11⟩ : ∃ j_ : Int, (mx (wrap64 ((wrap64 ((wrap64 (Int.tdiv (wrap64 ((wrap64 ((wrap64 ((wrap64 (2 * (wrap64 ((wrap64 (1 + (Int.tmod t106 2))) + 1)))) + 2)) + (Int.tmod t113 16))) + 1)) 2)) + 1)) + (Int.tmod t115 4))) 4) = j_ := ⟨_, rfl⟩
 replace H : ((script_reader_next.f s0_0 t116).bind fun bt117 => (script_reader_conf.l0 k (wrap64 (1 + (Int.tmod bt117.1 3))) 0 s0_0 bt117.2 t103 (IntKind.u16.wrap (wrap64 ((Int.tmod t104 4) * 4096))) ji10 (wrap64 (1 + (Int.tmod t106 2))) ji11 (wrap64 (10 + (Int.tmod t108 20))) (Int.tmod t110 9) ([] : List (S63)))) = some (r1, r2, r3, r4, r5, r6, r7, r8, r9) := by first | (rw [hji11] at H; exact H) | (simp only [hji11] at H ⊢; exact H)
 (try rw [hji11] at A3)
 (try rw [hji11] at A4)
 (try rw [hji11] at A5)
 (try rw [hji11] at A6)
 (try rw [hji11] at A7)
 (try rw [hji11] at A8)
 (try rw [hji11] at A9)
 (try (have hji11l : 4 ≤ ji11 := by (rw [← hji11]; unfold mx; (repeat' split) <;> omega)))
 (try (have hji11m : 0 ≤ ji11 := by omega))
 have hji11_ : (if (wrap64 ((wrap64 ((wrap64 (Int.tdiv (wrap64 ((wrap64 ((wrap64 ((wrap64 (2 * (wrap64 ((wrap64 (1 + (Int.tmod t106 2))) + 1)))) + 2)) + (Int.tmod t113 16))) + 1)) 2)) + 1)) + (Int.tmod t115 4))) < 4 then 4 else (wrap64 ((wrap64 ((wrap64 (Int.tdiv (wrap64 ((wrap64 ((wrap64 ((wrap64 (2 * (wrap64 ((wrap64 (1 + (Int.tmod t106 2))) + 1)))) + 2)) + (Int.tmod t113 16))) + 1)) 2)) + 1)) + (Int.tmod t115 4)))) = ji11 := hji11
 replace H := Option.bind_eq_some_iff.mp H
 obtain ⟨⟨t117, t118⟩, A120, H⟩ := H
 replace H : (script_reader_conf.l0 k (wrap64 (1 + (Int.tmod t117 3))) 0 s0_0 t118 t103 (IntKind.u16.wrap (wrap64 ((Int.tmod t104 4) * 4096))) ji10 (wrap64 (1 + (Int.tmod t106 2))) ji11 (wrap64 (10 + (Int.tmod t108 20))) (Int.tmod t110 9) ([] : List (S63))) = some (r1, r2, r3, r4, r5, r6, r7, r8, r9) := H
 have A12 := Aside0.mk A120
 clear A120
 have H' := Aside0.mk H
 clear H
 go_enter Tryd.func29, Tryd.ntmps29
 try go_wp2_with (first | ((with_reducible refine gate_dst (N := 4) rfl ?_); refine box_event ?hg (N := 4) ?hd (cs := #[.int .u64 0, .int .u16 0, .int .i64 0, .int .i64 0, .int .i64 0, .int .i64 0, .int .i64 0, .slice none 0 0]) (t := 51) ?hr ?_; (case hd => rfl); (case hg => rfl); (case hr => first | (go_simp; done) | (go_simp; rfl)); intro gb102 hg w13 hbox hb; have n0_ := Aside0.mk (IsS54.below (by repeat (first | (with_reducible first | exact HI0.out | apply IsS54.alloc | apply IsS54.drewN | apply IsS54.drew | apply IsS54.set_1) | exact HI0.out)) hb); have n1_ := Aside0.mk (KeepBut.trans (by repeat (first | (with_reducible first | exact HK.out | apply KeepBut.set_ | apply keep_drewN | apply keep_drew | apply keep_alloc) | exact HK.out)) (KeepBut.of_below hb g none) (.inl rfl)); have n2_ := Aside0.mk (below_step (by repeat (first | (with_reducible first | exact HB.out | apply below_alloc | apply pw_below_drewN | apply below_drew1 | refine below_set ?_ (IsS54.ge HI0.out)) | exact HB.out)) hb); have n3_ := Aside0.mk (hbox); have n4_ := Aside0.mk ((by rw [hg]; exact (keep_size (w := w) (g := g) (row := none) (by repeat (first | (with_reducible first | exact HK.out | apply KeepBut.set_ | apply keep_drewN | apply keep_drew | apply keep_alloc) | exact HK.out))) : w.heap.size ≤ gb102)); have n5_ := Aside0.mk ((Nat.le_trans HW0.out (by rw [hg]; exact (keep_size (w := w) (g := g) (row := none) (by repeat (first | (with_reducible first | exact HK.out | apply KeepBut.set_ | apply keep_drewN | apply keep_drew | apply keep_alloc) | exact HK.out))) : w.heap.size ≤ gb102) : w0.heap.size ≤ gb102)); have n6_ := Aside0.mk ((by rw [hg]; exact Nat.ne_of_lt (IsS54.lt (show IsS54 w0 _ g s0_0 s0_1 from by repeat (first | (with_reducible first | exact HI0.out | apply IsS54.alloc | apply IsS54.drewN | apply IsS54.drew | apply IsS54.set_1) | exact HI0.out))) : g ≠ gb102)); have n7_ := Aside0.mk ((by rw [hg]; exact Nat.ne_of_gt (IsS54.lt (show IsS54 w0 _ g s0_0 s0_1 from by repeat (first | (with_reducible first | exact HI0.out | apply IsS54.alloc | apply IsS54.drewN | apply IsS54.drew | apply IsS54.set_1) | exact HI0.out))) : gb102 ≠ g)); clear HI0; clear HK; clear HB; have HI0 := n0_; have HK := n1_; have HB := n2_; have BK102 := n3_; have GW102 := n4_; have GE102 := n5_; have NB0_102 := n6_; have NB102_0 := n7_; clear n0_ n1_ n2_ n3_ n4_ n5_ n6_ n7_; clear hb hbox hg) | ((with_reducible refine gate_callee (f := 30) rfl ?_); refine goesL_ (some 8) rfl rfl Tryd.func30 (by kernel_rfl) rfl #[.int .i64 1, .int .i64 a1] rfl (by (try simp only [List.map_toArray, List.map_cons, List.map_nil]); first | done | rfl | (simp only [List.length_drop, List.length_take]; rfl)) ?_; (with_reducible refine (script_address.calls 1 a1 t103 _ A3.out).mono ?_); rintro e w' ⟨rfl, ⟨nd, rfl⟩⟩; refine ⟨_, rfl, ?_⟩; (try (rw [drewN_self w13]; generalize hq_ : World.drewN w13 _ = w13; have n0_ : Aside0 (w13.heap[gb102]? = some (.cells #[.int .u64 0, .int .u16 0, .int .i64 0, .int .i64 0, .int .i64 0, .int .i64 0, .int .i64 0, .slice none 0 0] 51 (0, 0))) := ⟨by rw [← hq_]; exact (by (with_reducible repeat (first | refine blk_drewN ?_ _ | refine blk_drew ?_ | refine blk_alloc ?_ _)); exact BK102.out)⟩; have n1_ : Aside0 (IsS54 w0 w13 g s0_0 s0_1) := ⟨by rw [← hq_]; exact (by repeat (first | (with_reducible first | exact HI0.out | apply IsS54.alloc | apply IsS54.drewN | apply IsS54.drew | apply IsS54.set_1 | refine IsS54.far ?_ NB0_102.out _) | exact HI0.out))⟩; have n2_ : Aside0 (KeepBut w w13 g none) := ⟨by rw [← hq_]; exact (by repeat (first | (with_reducible first | exact HK.out | apply KeepBut.set_ | apply keep_drewN | apply keep_drew | apply keep_alloc | refine keep_far ?_ GW102.out _) | exact HK.out))⟩; have n3_ : Aside0 (Below w0.heap.size w0 w13) := ⟨by rw [← hq_]; exact (by repeat (first | (with_reducible first | exact HB.out | apply below_alloc | apply pw_below_drewN | apply below_drew1 | refine below_set ?_ (IsS54.ge HI0.out) | refine below_set ?_ GE102.out) | exact HB.out))⟩; clear BK102 HI0 HK HB hq_; have BK102 := n0_; have HI0 := n1_; have HK := n2_; have HB := n3_; clear n0_ n1_ n2_ n3_))) | ((with_reducible refine gate_callee (f := 28) rfl ?_); refine goesL_ (some 10) rfl rfl Tryd.func28 (by kernel_rfl) rfl #[.pointer (some ⟨g, 0, none⟩)] rfl (by (try simp only [List.map_toArray, List.map_cons, List.map_nil]); first | done | rfl | (simp only [List.length_drop, List.length_take]; rfl)) ?_; (with_reducible refine (script_reader_next.calls g s0_0 s0_1 t104 t105 w0 _ ?side1 ?side2 A4.out).mono ?_); (case side1 => repeat (first | (with_reducible first | exact HI0.out | apply IsS54.alloc | apply IsS54.drewN | apply IsS54.drew | apply IsS54.set_1 | refine IsS54.far ?_ NB0_102.out _) | exact HI0.out)); (case side2 => repeat (first | (with_reducible first | exact HB.out | apply below_alloc | apply pw_below_drewN | apply below_drew1 | refine below_set ?_ (IsS54.ge HI0.out) | refine below_set ?_ GE102.out) | exact HB.out)); rintro e w14 ⟨rfl, hi, hb, hk⟩; refine ⟨_, rfl, ?_⟩; have n0_ := Aside0.mk (KeepBut.blk hk (g' := gb102) (o := .cells #[.int .u64 0, .int .u16 0, .int .i64 0, .int .i64 0, .int .i64 0, .int .i64 0, .int .i64 0, .slice none 0 0] 51 (0, 0)) (by (with_reducible repeat (first | refine blk_drewN ?_ _ | refine blk_drew ?_ | refine blk_alloc ?_ _)); exact BK102.out) NB102_0.out (by simp)); have n1_ := Aside0.mk (KeepBut.trans (by repeat (first | (with_reducible first | exact HK.out | apply KeepBut.set_ | apply keep_drewN | apply keep_drew | apply keep_alloc | refine keep_far ?_ GW102.out _) | exact HK.out)) hk (.inl rfl)); have n2_ := Aside0.mk (hb); have n3_ := Aside0.mk (hi); clear BK102; clear HK; clear HB; clear HI0; have BK102 := n0_; have HK := n1_; have HB := n2_; have HI0 := n3_; clear n0_ n1_ n2_ n3_; (try clear hb); (try clear hb2); (try clear hk); (try clear hi)) | ((with_reducible refine gate_callee (f := 28) rfl ?_); refine goesL_ (some 15) rfl rfl Tryd.func28 (by kernel_rfl) rfl #[.pointer (some ⟨g, 0, none⟩)] rfl (by (try simp only [List.map_toArray, List.map_cons, List.map_nil]); first | done | rfl | (simp only [List.length_drop, List.length_take]; rfl)) ?_; (with_reducible refine (script_reader_next.calls g s0_0 t105 t106 t107 w0 _ ?side1 ?side2 A5.out).mono ?_); (case side1 => repeat (first | (with_reducible first | exact HI0.out | apply IsS54.alloc | apply IsS54.drewN | apply IsS54.drew | apply IsS54.set_1 | refine IsS54.far ?_ NB0_102.out _) | exact HI0.out)); (case side2 => repeat (first | (with_reducible first | exact HB.out | apply below_alloc | apply pw_below_drewN | apply below_drew1 | refine below_set ?_ (IsS54.ge HI0.out) | refine below_set ?_ GE102.out) | exact HB.out)); rintro e w15 ⟨rfl, hi, hb, hk⟩; refine ⟨_, rfl, ?_⟩; have n0_ := Aside0.mk (KeepBut.blk hk (g' := gb102) (o := .cells #[.int .u64 0, .int .u16 0, .int .i64 0, .int .i64 0, .int .i64 0, .int .i64 0, .int .i64 0, .slice none 0 0] 51 (0, 0)) (by (with_reducible repeat (first | refine blk_drewN ?_ _ | refine blk_drew ?_ | refine blk_alloc ?_ _)); exact BK102.out) NB102_0.out (by simp)); have n1_ := Aside0.mk (KeepBut.trans (by repeat (first | (with_reducible first | exact HK.out | apply KeepBut.set_ | apply keep_drewN | apply keep_drew | apply keep_alloc | refine keep_far ?_ GW102.out _) | exact HK.out)) hk (.inl rfl)); have n2_ := Aside0.mk (hb); have n3_ := Aside0.mk (hi); clear BK102; clear HK; clear HB; clear HI0; have BK102 := n0_; have HK := n1_; have HB := n2_; have HI0 := n3_; clear n0_ n1_ n2_ n3_; (try clear hb); (try clear hb2); (try clear hk); (try clear hi)) | ((with_reducible refine gate_callee (f := 28) rfl ?_); refine goesL_ (some 19) rfl rfl Tryd.func28 (by kernel_rfl) rfl #[.pointer (some ⟨g, 0, none⟩)] rfl (by (try simp only [List.map_toArray, List.map_cons, List.map_nil]); first | done | rfl | (simp only [List.length_drop, List.length_take]; rfl)) ?_; (with_reducible refine (script_reader_next.calls g s0_0 t107 t108 t109 w0 _ ?side1 ?side2 A6.out).mono ?_); (case side1 => repeat (first | (with_reducible first | exact HI0.out | apply IsS54.alloc | apply IsS54.drewN | apply IsS54.drew | apply IsS54.set_1 | refine IsS54.far ?_ NB0_102.out _) | exact HI0.out)); (case side2 => repeat (first | (with_reducible first | exact HB.out | apply below_alloc | apply pw_below_drewN | apply below_drew1 | refine below_set ?_ (IsS54.ge HI0.out) | refine below_set ?_ GE102.out) | exact HB.out)); rintro e w16 ⟨rfl, hi, hb, hk⟩; refine ⟨_, rfl, ?_⟩; have n0_ := Aside0.mk (KeepBut.blk hk (g' := gb102) (o := .cells #[.int .u64 0, .int .u16 0, .int .i64 0, .int .i64 0, .int .i64 0, .int .i64 0, .int .i64 0, .slice none 0 0] 51 (0, 0)) (by (with_reducible repeat (first | refine blk_drewN ?_ _ | refine blk_drew ?_ | refine blk_alloc ?_ _)); exact BK102.out) NB102_0.out (by simp)); have n1_ := Aside0.mk (KeepBut.trans (by repeat (first | (with_reducible first | exact HK.out | apply KeepBut.set_ | apply keep_drewN | apply keep_drew | apply keep_alloc | refine keep_far ?_ GW102.out _) | exact HK.out)) hk (.inl rfl)); have n2_ := Aside0.mk (hb); have n3_ := Aside0.mk (hi); clear BK102; clear HK; clear HB; clear HI0; have BK102 := n0_; have HK := n1_; have HB := n2_; have HI0 := n3_; clear n0_ n1_ n2_ n3_; (try clear hb); (try clear hb2); (try clear hk); (try clear hi)) | ((with_reducible refine gate_callee (f := 28) rfl ?_); refine goesL_ (some 23) rfl rfl Tryd.func28 (by kernel_rfl) rfl #[.pointer (some ⟨g, 0, none⟩)] rfl (by (try simp only [List.map_toArray, List.map_cons, List.map_nil]); first | done | rfl | (simp only [List.length_drop, List.length_take]; rfl)) ?_; (with_reducible refine (script_reader_next.calls g s0_0 t109 t110 t111 w0 _ ?side1 ?side2 A7.out).mono ?_); (case side1 => repeat (first | (with_reducible first | exact HI0.out | apply IsS54.alloc | apply IsS54.drewN | apply IsS54.drew | apply IsS54.set_1 | refine IsS54.far ?_ NB0_102.out _) | exact HI0.out)); (case side2 => repeat (first | (with_reducible first | exact HB.out | apply below_alloc | apply pw_below_drewN | apply below_drew1 | refine below_set ?_ (IsS54.ge HI0.out) | refine below_set ?_ GE102.out) | exact HB.out)); rintro e w17 ⟨rfl, hi, hb, hk⟩; refine ⟨_, rfl, ?_⟩; have n0_ := Aside0.mk (KeepBut.blk hk (g' := gb102) (o := .cells #[.int .u64 0, .int .u16 0, .int .i64 0, .int .i64 0, .int .i64 0, .int .i64 0, .int .i64 0, .slice none 0 0] 51 (0, 0)) (by (with_reducible repeat (first | refine blk_drewN ?_ _ | refine blk_drew ?_ | refine blk_alloc ?_ _)); exact BK102.out) NB102_0.out (by simp)); have n1_ := Aside0.mk (KeepBut.trans (by repeat (first | (with_reducible first | exact HK.out | apply KeepBut.set_ | apply keep_drewN | apply keep_drew | apply keep_alloc | refine keep_far ?_ GW102.out _) | exact HK.out)) hk (.inl rfl)); have n2_ := Aside0.mk (hb); have n3_ := Aside0.mk (hi); clear BK102; clear HK; clear HB; clear HI0; have BK102 := n0_; have HK := n1_; have HB := n2_; have HI0 := n3_; clear n0_ n1_ n2_ n3_; (try clear hb); (try clear hb2); (try clear hk); (try clear hi)) | ((with_reducible refine gate_dst (N := 5) rfl ?_); refine box_event ?hg (N := 5) ?hd (cs := #[.int .u64 0, .int .u16 0, .int .i64 0, .int .i64 0, .int .i64 0, .int .i64 0, .int .i64 0, .slice none 0 0]) (t := 51) ?hr ?_; (case hd => rfl); (case hg => rfl); (case hr => first | (go_simp; done) | (go_simp; rfl)); intro gb112 hg w18 hbox hb; have n0_ := Aside0.mk (IsS54.below (by repeat (first | (with_reducible first | exact HI0.out | apply IsS54.alloc | apply IsS54.drewN | apply IsS54.drew | apply IsS54.set_1 | refine IsS54.far ?_ NB0_102.out _) | exact HI0.out)) hb); have n1_ := Aside0.mk (blk_below (g := gb102) (o := .cells #[.int .u64 0, .int .u16 0, .int .i64 0, .int .i64 0, .int .i64 0, .int .i64 0, .int .i64 0, .slice none 0 0] 51 (0, 0)) (by (with_reducible repeat (first | refine blk_drewN ?_ _ | refine blk_drew ?_ | refine blk_alloc ?_ _)); exact BK102.out) hb); have n2_ := Aside0.mk (KeepBut.trans (by repeat (first | (with_reducible first | exact HK.out | apply KeepBut.set_ | apply keep_drewN | apply keep_drew | apply keep_alloc | refine keep_far ?_ GW102.out _) | exact HK.out)) (KeepBut.of_below hb g none) (.inl rfl)); have n3_ := Aside0.mk (below_step (by repeat (first | (with_reducible first | exact HB.out | apply below_alloc | apply pw_below_drewN | apply below_drew1 | refine below_set ?_ (IsS54.ge HI0.out) | refine below_set ?_ GE102.out) | exact HB.out)) hb); have n4_ := Aside0.mk (hbox); have n5_ := Aside0.mk ((by rw [hg]; exact (keep_size (w := w) (g := g) (row := none) (by repeat (first | (with_reducible first | exact HK.out | apply KeepBut.set_ | apply keep_drewN | apply keep_drew | apply keep_alloc | refine keep_far ?_ GW102.out _) | exact HK.out))) : w.heap.size ≤ gb112)); have n6_ := Aside0.mk ((Nat.le_trans HW0.out (by rw [hg]; exact (keep_size (w := w) (g := g) (row := none) (by repeat (first | (with_reducible first | exact HK.out | apply KeepBut.set_ | apply keep_drewN | apply keep_drew | apply keep_alloc | refine keep_far ?_ GW102.out _) | exact HK.out))) : w.heap.size ≤ gb112) : w0.heap.size ≤ gb112)); have n7_ := Aside0.mk ((by rw [hg]; exact Nat.ne_of_lt (blk_lt (g := gb102) (o := .cells #[.int .u64 0, .int .u16 0, .int .i64 0, .int .i64 0, .int .i64 0, .int .i64 0, .int .i64 0, .slice none 0 0] 51 (0, 0)) (by (with_reducible repeat (first | refine blk_drewN ?_ _ | refine blk_drew ?_ | refine blk_alloc ?_ _)); exact BK102.out)) : gb102 ≠ gb112)); have n8_ := Aside0.mk ((by rw [hg]; exact Nat.ne_of_gt (blk_lt (g := gb102) (o := .cells #[.int .u64 0, .int .u16 0, .int .i64 0, .int .i64 0, .int .i64 0, .int .i64 0, .int .i64 0, .slice none 0 0] 51 (0, 0)) (by (with_reducible repeat (first | refine blk_drewN ?_ _ | refine blk_drew ?_ | refine blk_alloc ?_ _)); exact BK102.out)) : gb112 ≠ gb102)); have n9_ := Aside0.mk ((by rw [hg]; exact Nat.ne_of_lt (IsS54.lt (show IsS54 w0 _ g s0_0 t111 from by repeat (first | (with_reducible first | exact HI0.out | apply IsS54.alloc | apply IsS54.drewN | apply IsS54.drew | apply IsS54.set_1 | refine IsS54.far ?_ NB0_102.out _) | exact HI0.out))) : g ≠ gb112)); have n10_ := Aside0.mk ((by rw [hg]; exact Nat.ne_of_gt (IsS54.lt (show IsS54 w0 _ g s0_0 t111 from by repeat (first | (with_reducible first | exact HI0.out | apply IsS54.alloc | apply IsS54.drewN | apply IsS54.drew | apply IsS54.set_1 | refine IsS54.far ?_ NB0_102.out _) | exact HI0.out))) : gb112 ≠ g)); clear HI0; clear BK102; clear HK; clear HB; have HI0 := n0_; have BK102 := n1_; have HK := n2_; have HB := n3_; have BK112 := n4_; have GW112 := n5_; have GE112 := n6_; have NB102_112 := n7_; have NB112_102 := n8_; have NB0_112 := n9_; have NB112_0 := n10_; clear n0_ n1_ n2_ n3_ n4_ n5_ n6_ n7_ n8_ n9_ n10_; clear hb hbox hg; have hnb19 := NB112_102.out; have hnc19 := NB102_112.out; have hnb20 := NB112_0.out; have hnc20 := NB0_112.out; have hcz21_0 : w18.cell? ⟨gb112, 0, none⟩ = some (.int .u64 0) := (blk_cell BK112.out 0).trans rfl; have hcz21_1 : w18.cell? ⟨gb112, 1, none⟩ = some (.int .u16 0) := (blk_cell BK112.out 1).trans rfl; have hcz21_2 : w18.cell? ⟨gb112, 2, none⟩ = some (.int .i64 0) := (blk_cell BK112.out 2).trans rfl; have hcz21_3 : w18.cell? ⟨gb112, 3, none⟩ = some (.int .i64 0) := (blk_cell BK112.out 3).trans rfl; have hcz21_4 : w18.cell? ⟨gb112, 4, none⟩ = some (.int .i64 0) := (blk_cell BK112.out 4).trans rfl; have hcz21_5 : w18.cell? ⟨gb112, 5, none⟩ = some (.int .i64 0) := (blk_cell BK112.out 5).trans rfl; have hcz21_6 : w18.cell? ⟨gb112, 6, none⟩ = some (.int .i64 0) := (blk_cell BK112.out 6).trans rfl; have hcz21_7 : w18.cell? ⟨gb112, 7, none⟩ = some (.slice none 0 0) := (blk_cell BK112.out 7).trans rfl; have hfz21_0 := blk_frozen BK112.out 0; have hfz21_1 := blk_frozen BK112.out 1; have hfz21_2 := blk_frozen BK112.out 2; have hfz21_3 := blk_frozen BK112.out 3; have hfz21_4 := blk_frozen BK112.out 4; have hfz21_5 := blk_frozen BK112.out 5; have hfz21_6 := blk_frozen BK112.out 6; have hfz21_7 := blk_frozen BK112.out 7))
 have n0_ : Aside0 (((((((((w18.setCell ⟨gb112, 0, none⟩ (.int .u64 t103)).setCell ⟨gb112, 1, none⟩ (.int .u16 (IntKind.u16.wrap (wrap64 ((Int.tmod t104 4) * 4096))))).setCell ⟨gb112, 2, none⟩ (.int .i64 0)).setCell ⟨gb112, 3, none⟩ (.int .i64 (wrap64 (1 + (Int.tmod t106 2))))).setCell ⟨gb112, 4, none⟩ (.int .i64 0)).setCell ⟨gb112, 5, none⟩ (.int .i64 (wrap64 (10 + (Int.tmod t108 20))))).setCell ⟨gb112, 6, none⟩ (.int .i64 (Int.tmod t110 9))).setCell ⟨gb112, 7, none⟩ (.slice none 0 0)).heap[gb102]? = some (.cells #[.int .u64 0, .int .u16 0, .int .i64 0, .int .i64 0, .int .i64 0, .int .i64 0, .int .i64 0, .slice none 0 0] 51 (0, 0))) := ⟨by (with_reducible repeat (first | refine blk_drewN ?_ _ | refine blk_drew ?_ | refine blk_alloc ?_ _)); refine blk_far ?_ NB102_112.out _; (with_reducible repeat (first | refine blk_drewN ?_ _ | refine blk_drew ?_ | refine blk_alloc ?_ _)); refine blk_far ?_ NB102_112.out _; (with_reducible repeat (first | refine blk_drewN ?_ _ | refine blk_drew ?_ | refine blk_alloc ?_ _)); refine blk_far ?_ NB102_112.out _; (with_reducible repeat (first | refine blk_drewN ?_ _ | refine blk_drew ?_ | refine blk_alloc ?_ _)); refine blk_far ?_ NB102_112.out _; (with_reducible repeat (first | refine blk_drewN ?_ _ | refine blk_drew ?_ | refine blk_alloc ?_ _)); refine blk_far ?_ NB102_112.out _; (with_reducible repeat (first | refine blk_drewN ?_ _ | refine blk_drew ?_ | refine blk_alloc ?_ _)); refine blk_far ?_ NB102_112.out _; (with_reducible repeat (first | refine blk_drewN ?_ _ | refine blk_drew ?_ | refine blk_alloc ?_ _)); refine blk_far ?_ NB102_112.out _; (with_reducible repeat (first | refine blk_drewN ?_ _ | refine blk_drew ?_ | refine blk_alloc ?_ _)); refine blk_far ?_ NB102_112.out _; (with_reducible repeat (first | refine blk_drewN ?_ _ | refine blk_drew ?_ | refine blk_alloc ?_ _)); exact BK102.out⟩
 have n1_ : Aside0 (((((((((w18.setCell ⟨gb112, 0, none⟩ (.int .u64 t103)).setCell ⟨gb112, 1, none⟩ (.int .u16 (IntKind.u16.wrap (wrap64 ((Int.tmod t104 4) * 4096))))).setCell ⟨gb112, 2, none⟩ (.int .i64 0)).setCell ⟨gb112, 3, none⟩ (.int .i64 (wrap64 (1 + (Int.tmod t106 2))))).setCell ⟨gb112, 4, none⟩ (.int .i64 0)).setCell ⟨gb112, 5, none⟩ (.int .i64 (wrap64 (10 + (Int.tmod t108 20))))).setCell ⟨gb112, 6, none⟩ (.int .i64 (Int.tmod t110 9))).setCell ⟨gb112, 7, none⟩ (.slice none 0 0)).heap[gb112]? = some (.cells #[.int .u64 t103, .int .u16 (IntKind.u16.wrap (wrap64 ((Int.tmod t104 4) * 4096))), .int .i64 0, .int .i64 (wrap64 (1 + (Int.tmod t106 2))), .int .i64 0, .int .i64 (wrap64 (10 + (Int.tmod t108 20))), .int .i64 (Int.tmod t110 9), .slice none 0 0] 51 (0, 0))) := ⟨by (with_reducible repeat (first | refine blk_drewN ?_ _ | refine blk_drew ?_ | refine blk_alloc ?_ _)); refine blk_put (cs := #[.int .u64 t103, .int .u16 (IntKind.u16.wrap (wrap64 ((Int.tmod t104 4) * 4096))), .int .i64 0, .int .i64 (wrap64 (1 + (Int.tmod t106 2))), .int .i64 0, .int .i64 (wrap64 (10 + (Int.tmod t108 20))), .int .i64 (Int.tmod t110 9), .slice none 0 0]) ?_ 7 _ rfl; (with_reducible repeat (first | refine blk_drewN ?_ _ | refine blk_drew ?_ | refine blk_alloc ?_ _)); refine blk_put (cs := #[.int .u64 t103, .int .u16 (IntKind.u16.wrap (wrap64 ((Int.tmod t104 4) * 4096))), .int .i64 0, .int .i64 (wrap64 (1 + (Int.tmod t106 2))), .int .i64 0, .int .i64 (wrap64 (10 + (Int.tmod t108 20))), .int .i64 0, .slice none 0 0]) ?_ 6 _ rfl; (with_reducible repeat (first | refine blk_drewN ?_ _ | refine blk_drew ?_ | refine blk_alloc ?_ _)); refine blk_put (cs := #[.int .u64 t103, .int .u16 (IntKind.u16.wrap (wrap64 ((Int.tmod t104 4) * 4096))), .int .i64 0, .int .i64 (wrap64 (1 + (Int.tmod t106 2))), .int .i64 0, .int .i64 0, .int .i64 0, .slice none 0 0]) ?_ 5 _ rfl; (with_reducible repeat (first | refine blk_drewN ?_ _ | refine blk_drew ?_ | refine blk_alloc ?_ _)); refine blk_put (cs := #[.int .u64 t103, .int .u16 (IntKind.u16.wrap (wrap64 ((Int.tmod t104 4) * 4096))), .int .i64 0, .int .i64 (wrap64 (1 + (Int.tmod t106 2))), .int .i64 0, .int .i64 0, .int .i64 0, .slice none 0 0]) ?_ 4 _ rfl; (with_reducible repeat (first | refine blk_drewN ?_ _ | refine blk_drew ?_ | refine blk_alloc ?_ _)); refine blk_put (cs := #[.int .u64 t103, .int .u16 (IntKind.u16.wrap (wrap64 ((Int.tmod t104 4) * 4096))), .int .i64 0, .int .i64 0, .int .i64 0, .int .i64 0, .int .i64 0, .slice none 0 0]) ?_ 3 _ rfl; (with_reducible repeat (first | refine blk_drewN ?_ _ | refine blk_drew ?_ | refine blk_alloc ?_ _)); refine blk_put (cs := #[.int .u64 t103, .int .u16 (IntKind.u16.wrap (wrap64 ((Int.tmod t104 4) * 4096))), .int .i64 0, .int .i64 0, .int .i64 0, .int .i64 0, .int .i64 0, .slice none 0 0]) ?_ 2 _ rfl; (with_reducible repeat (first | refine blk_drewN ?_ _ | refine blk_drew ?_ | refine blk_alloc ?_ _)); refine blk_put (cs := #[.int .u64 t103, .int .u16 0, .int .i64 0, .int .i64 0, .int .i64 0, .int .i64 0, .int .i64 0, .slice none 0 0]) ?_ 1 _ rfl; (with_reducible repeat (first | refine blk_drewN ?_ _ | refine blk_drew ?_ | refine blk_alloc ?_ _)); refine blk_put (cs := #[.int .u64 0, .int .u16 0, .int .i64 0, .int .i64 0, .int .i64 0, .int .i64 0, .int .i64 0, .slice none 0 0]) ?_ 0 _ rfl; (with_reducible repeat (first | refine blk_drewN ?_ _ | refine blk_drew ?_ | refine blk_alloc ?_ _)); exact BK112.out⟩
 have n2_ : Aside0 (IsS54 w0 ((((((((w18.setCell ⟨gb112, 0, none⟩ (.int .u64 t103)).setCell ⟨gb112, 1, none⟩ (.int .u16 (IntKind.u16.wrap (wrap64 ((Int.tmod t104 4) * 4096))))).setCell ⟨gb112, 2, none⟩ (.int .i64 0)).setCell ⟨gb112, 3, none⟩ (.int .i64 (wrap64 (1 + (Int.tmod t106 2))))).setCell ⟨gb112, 4, none⟩ (.int .i64 0)).setCell ⟨gb112, 5, none⟩ (.int .i64 (wrap64 (10 + (Int.tmod t108 20))))).setCell ⟨gb112, 6, none⟩ (.int .i64 (Int.tmod t110 9))).setCell ⟨gb112, 7, none⟩ (.slice none 0 0)) g s0_0 t111) := ⟨by repeat (first | (with_reducible first | exact HI0.out | apply IsS54.alloc | apply IsS54.drewN | apply IsS54.drew | apply IsS54.set_1 | refine IsS54.far ?_ NB0_102.out _ | refine IsS54.far ?_ NB0_112.out _) | exact HI0.out)⟩
 have n3_ : Aside0 (KeepBut w ((((((((w18.setCell ⟨gb112, 0, none⟩ (.int .u64 t103)).setCell ⟨gb112, 1, none⟩ (.int .u16 (IntKind.u16.wrap (wrap64 ((Int.tmod t104 4) * 4096))))).setCell ⟨gb112, 2, none⟩ (.int .i64 0)).setCell ⟨gb112, 3, none⟩ (.int .i64 (wrap64 (1 + (Int.tmod t106 2))))).setCell ⟨gb112, 4, none⟩ (.int .i64 0)).setCell ⟨gb112, 5, none⟩ (.int .i64 (wrap64 (10 + (Int.tmod t108 20))))).setCell ⟨gb112, 6, none⟩ (.int .i64 (Int.tmod t110 9))).setCell ⟨gb112, 7, none⟩ (.slice none 0 0)) g none) := ⟨by repeat (first | (with_reducible first | exact HK.out | apply KeepBut.set_ | apply keep_drewN | apply keep_drew | apply keep_alloc | refine keep_far ?_ GW102.out _ | refine keep_far ?_ GW112.out _) | exact HK.out)⟩
 have n4_ : Aside0 (Below w0.heap.size w0 ((((((((w18.setCell ⟨gb112, 0, none⟩ (.int .u64 t103)).setCell ⟨gb112, 1, none⟩ (.int .u16 (IntKind.u16.wrap (wrap64 ((Int.tmod t104 4) * 4096))))).setCell ⟨gb112, 2, none⟩ (.int .i64 0)).setCell ⟨gb112, 3, none⟩ (.int .i64 (wrap64 (1 + (Int.tmod t106 2))))).setCell ⟨gb112, 4, none⟩ (.int .i64 0)).setCell ⟨gb112, 5, none⟩ (.int .i64 (wrap64 (10 + (Int.tmod t108 20))))).setCell ⟨gb112, 6, none⟩ (.int .i64 (Int.tmod t110 9))).setCell ⟨gb112, 7, none⟩ (.slice none 0 0))) := ⟨by repeat (first | (with_reducible first | exact HB.out | apply below_alloc | apply pw_below_drewN | apply below_drew1 | refine below_set ?_ (IsS54.ge HI0.out) | refine below_set ?_ GE102.out | refine below_set ?_ GE112.out) | exact HB.out)⟩
 (try clear BK102)
 (try clear BK112)
 (try clear HI0)
 (try clear HK)
 (try clear HB)
 (try simp only [setCell_drewN_])
 generalize ((((((((w18.setCell ⟨gb112, 0, none⟩ (.int .u64 t103)).setCell ⟨gb112, 1, none⟩ (.int .u16 (IntKind.u16.wrap (wrap64 ((Int.tmod t104 4) * 4096))))).setCell ⟨gb112, 2, none⟩ (.int .i64 0)).setCell ⟨gb112, 3, none⟩ (.int .i64 (wrap64 (1 + (Int.tmod t106 2))))).setCell ⟨gb112, 4, none⟩ (.int .i64 0)).setCell ⟨gb112, 5, none⟩ (.int .i64 (wrap64 (10 + (Int.tmod t108 20))))).setCell ⟨gb112, 6, none⟩ (.int .i64 (Int.tmod t110 9))).setCell ⟨gb112, 7, none⟩ (.slice none 0 0)) = w22 at n0_ n1_ n2_ n3_ n4_ ⊢
 have BK102 := n0_
 have BK112 := n1_
 have HI0 := n2_
 have HK := n3_
 have HB := n4_
 clear n0_ n1_ n2_ n3_ n4_
 have n0_ := Aside0.mk (blk_drew BK102.out)
 have n1_ := Aside0.mk (blk_drew BK112.out)
 have n2_ := Aside0.mk (IsS54.drew HI0.out)
 have n3_ := Aside0.mk (keep_drew HK.out)
 have n4_ := Aside0.mk (below_drew1 HB.out)
 clear BK102
 clear BK112
 clear HI0
 clear HK
 clear HB
 have BK102 := n0_
 have BK112 := n1_
 have HI0 := n2_
 have HK := n3_
 have HB := n4_
 clear n0_ n1_ n2_ n3_ n4_
 refine start_ (n := 11) (S := fun w' => w'.cell? ⟨gb112, 0, none⟩ = some (.int .u64 t103) ∧ w'.cell? ⟨gb112, 1, none⟩ = some (.int .u16 (IntKind.u16.wrap (wrap64 ((Int.tmod t104 4) * 4096)))) ∧ w'.cell? ⟨gb112, 2, none⟩ = some (.int .i64 0) ∧ w'.cell? ⟨gb112, 3, none⟩ = some (.int .i64 (wrap64 (1 + (Int.tmod t106 2)))) ∧ w'.cell? ⟨gb112, 4, none⟩ = some (.int .i64 0) ∧ w'.cell? ⟨gb112, 5, none⟩ = some (.int .i64 (wrap64 (10 + (Int.tmod t108 20)))) ∧ w'.cell? ⟨gb112, 6, none⟩ = some (.int .i64 (Int.tmod t110 9)) ∧ w'.cell? ⟨gb112, 7, none⟩ = some (.slice none 0 0)) (ds := [10]) #[false, false, false, false, false, false, false, false, false, false, false] (by kernel_rfl) rfl rfl ⟨(blk_cell BK112.out 0).trans rfl, (blk_cell BK112.out 1).trans rfl, (blk_cell BK112.out 2).trans rfl, (blk_cell BK112.out 3).trans rfl, (blk_cell BK112.out 4).trans rfl, (blk_cell BK112.out 5).trans rfl, (blk_cell BK112.out 6).trans rfl, (blk_cell BK112.out 7).trans rfl⟩ (fun hHeld => ?_); refine with_tabW script_reader_conf.tab2 script_reader_conf.bits2 (fun HT_ HW_ => ?_)
 generalize w22.drew = w23 at BK102 BK112 HI0 HK HB hHeld ⊢
 refine pure_ (i := 0) (N := some 26) (v := ?_) (a' := ?_) #[true, false, false, false, false, false, false, false, false, false, false] rfl rfl (any_of HT_.out (by kernel_rfl)) (fun _ _ _ h => h) (Or.inl ⟨by rfl, ?_⟩) ?_ ?_
 rotate_left
 ·intro w'
  go_simp
  with_reducible rfl
 rotate_left
 ·simp only [Act.put, List.setIfInBounds_toArray, List.set_cons_zero, List.set_cons_succ, i64_w, i32_w]
  rfl
 refine pure_ (i := 5) (N := some 31) (v := ?_) (a' := ?_) #[true, false, false, false, false, true, false, false, false, false, false] rfl rfl (any_of HT_.out (by kernel_rfl)) (fun _ _ _ h => h) (Or.inl ⟨by rfl, ?_⟩) ?_ ?_
 rotate_left
 ·intro w'
  go_simp
  with_reducible rfl
 rotate_left
 ·simp only [Act.put, List.setIfInBounds_toArray, List.set_cons_zero, List.set_cons_succ, i64_w, i32_w]
  rfl
 refine take_ (i := 1) (N := some 27) (v := ?_) (a' := ?_) #[true, true, false, false, false, true, false, false, false, false, false] rfl rfl (take_ofW HT_.out HW_.out (by kernel_rfl)) (fun _ _ _ h => h) (Or.inl ⟨by rfl, ?_⟩) hHeld ?_ ?_
 rotate_left
 ·rintro w' ⟨s0, s1, s2, s3, s4, s5, s6, s7⟩
  go_simp
  with_reducible rfl
 rotate_left
 ·simp only [Act.put, List.setIfInBounds_toArray, List.set_cons_zero, List.set_cons_succ, i64_w, i32_w]
  rfl
 refine pure_ (i := 2) (N := some 28) (v := ?_) (a' := ?_) #[true, true, true, false, false, true, false, false, false, false, false] rfl rfl (any_of HT_.out (by kernel_rfl)) (fun _ _ _ h => h) (Or.inl ⟨by rfl, ?_⟩) ?_ ?_
 rotate_left
 ·intro w'
  go_simp
  with_reducible rfl
 rotate_left
 ·simp only [Act.put, List.setIfInBounds_toArray, List.set_cons_zero, List.set_cons_succ, i64_w, i32_w]
  rfl
 refine pure_ (i := 3) (N := some 29) (v := ?_) (a' := ?_) #[true, true, true, true, false, true, false, false, false, false, false] rfl rfl (any_of HT_.out (by kernel_rfl)) (fun _ _ _ h => h) (Or.inl ⟨by rfl, ?_⟩) ?_ ?_
 rotate_left
 ·intro w'
  go_simp
  with_reducible rfl
 rotate_left
 ·simp only [Act.put, List.setIfInBounds_toArray, List.set_cons_zero, List.set_cons_succ, i64_w, i32_w]
  rfl
 refine pure_ (i := 4) (N := some 30) (v := ?_) (a' := ?_) #[true, true, true, true, true, true, false, false, false, false, false] rfl rfl (any_of HT_.out (by kernel_rfl)) (fun _ _ _ h => h) (Or.inl ⟨by rfl, ?_⟩) ?_ ?_
 rotate_left
 ·intro w'
  go_simp
  with_reducible rfl
 rotate_left
 ·simp only [Act.put, List.setIfInBounds_toArray, List.set_cons_zero, List.set_cons_succ, i64_w, i32_w]
  rfl
 refine one_ (i := 6) (N := some 32) #[true, true, true, true, true, true, true, false, false, false, false] rfl rfl (one_of HT_.out (by kernel_rfl)) (by decide) (fun K hK => ?_)
 refine goes_ Tryd.func28 (by kernel_rfl) rfl #[.pointer (some ⟨g, 0, none⟩)] (by rfl) rfl rfl (by (try simp only [List.map_toArray, List.map_cons, List.map_nil]); first | done | rfl | (simp only [List.length_drop, List.length_take]; rfl)) ?_
 with_reducible refine (script_reader_next.calls g s0_0 t111 t113 t114 w0 _ ?side1 ?side2 A8.out).mono ?_
 (case side1 => repeat (first | (with_reducible first | exact HI0.out | apply IsS54.alloc | apply IsS54.drewN | apply IsS54.drew | apply IsS54.set_1 | refine IsS54.far ?_ NB0_102.out _ | refine IsS54.far ?_ NB0_112.out _) | exact HI0.out))
 (case side2 => repeat (first | (with_reducible first | exact HB.out | apply below_alloc | apply pw_below_drewN | apply below_drew1 | refine below_set ?_ (IsS54.ge HI0.out) | refine below_set ?_ GE102.out | refine below_set ?_ GE112.out) | exact HB.out))
 rintro e w24 ⟨rfl, hi, hb, hk⟩
 refine ⟨_, rfl, ?_⟩
 have n0_ := Aside0.mk (KeepBut.blk hk (g' := gb102) (o := .cells #[.int .u64 0, .int .u16 0, .int .i64 0, .int .i64 0, .int .i64 0, .int .i64 0, .int .i64 0, .slice none 0 0] 51 (0, 0)) (by (with_reducible repeat (first | refine blk_drewN ?_ _ | refine blk_drew ?_ | refine blk_alloc ?_ _)); exact BK102.out) NB102_0.out (by simp))
 have n1_ := Aside0.mk (KeepBut.blk hk (g' := gb112) (o := .cells #[.int .u64 t103, .int .u16 (IntKind.u16.wrap (wrap64 ((Int.tmod t104 4) * 4096))), .int .i64 0, .int .i64 (wrap64 (1 + (Int.tmod t106 2))), .int .i64 0, .int .i64 (wrap64 (10 + (Int.tmod t108 20))), .int .i64 (Int.tmod t110 9), .slice none 0 0] 51 (0, 0)) (by (with_reducible repeat (first | refine blk_drewN ?_ _ | refine blk_drew ?_ | refine blk_alloc ?_ _)); exact BK112.out) NB112_0.out (by simp))
 have n2_ := Aside0.mk (KeepBut.trans (by repeat (first | (with_reducible first | exact HK.out | apply KeepBut.set_ | apply keep_drewN | apply keep_drew | apply keep_alloc | refine keep_far ?_ GW102.out _ | refine keep_far ?_ GW112.out _) | exact HK.out)) hk (.inl rfl))
 have n3_ := Aside0.mk (hb)
 have n4_ := Aside0.mk (hi)
 clear BK102
 clear BK112
 clear HK
 clear HB
 clear HI0
 have BK102 := n0_
 have BK112 := n1_
 have HK := n2_
 have HB := n3_
 have HI0 := n4_
 clear n0_ n1_ n2_ n3_ n4_
 (try clear hb)
 (try clear hb2)
 (try clear hk)
 (try clear hi)
 refine hK.out _ _ ⟨(blk_cell BK112.out 0).trans rfl, (blk_cell BK112.out 1).trans rfl, (blk_cell BK112.out 2).trans rfl, (blk_cell BK112.out 3).trans rfl, (blk_cell BK112.out 4).trans rfl, (blk_cell BK112.out 5).trans rfl, (blk_cell BK112.out 6).trans rfl, (blk_cell BK112.out 7).trans rfl⟩ (fun hHeld => ?_)
 clear hK K
 refine norm_ (a' := ?_) ?_ ?_
 rotate_left
 ·show Act.put _ (some 32) _ = _
  simp only [Act.put, List.setIfInBounds_toArray, List.set_cons_zero, List.set_cons_succ, i64_w, i32_w]
  rfl
 refine pure_ (i := 7) (N := some 33) (v := ?_) (a' := ?_) #[true, true, true, true, true, true, true, true, false, false, false] rfl rfl (any_of HT_.out (by kernel_rfl)) (fun _ _ _ h => h) (Or.inl ⟨by rfl, ?_⟩) ?_ ?_
 rotate_left
 ·intro w'
  go_simp
  with_reducible rfl
 rotate_left
 ·simp only [Act.put, List.setIfInBounds_toArray, List.set_cons_zero, List.set_cons_succ, i64_w, i32_w]
  rfl
 refine pure_ (i := 8) (N := some 34) (v := ?_) (a' := ?_) #[true, true, true, true, true, true, true, true, true, false, false] rfl rfl (any_of HT_.out (by kernel_rfl)) (fun _ _ _ h => h) (Or.inl ⟨by rfl, ?_⟩) ?_ ?_
 rotate_left
 ·intro w'
  go_simp
  with_reducible rfl
 rotate_left
 ·simp only [Act.put, List.setIfInBounds_toArray, List.set_cons_zero, List.set_cons_succ, i64_w, i32_w]
  rfl
 refine pure_ (i := 9) (N := some 35) (v := ?_) (a' := ?_) #[true, true, true, true, true, true, true, true, true, true, false] rfl rfl (any_of HT_.out (by kernel_rfl)) (fun _ _ _ h => h) (Or.inl ⟨by rfl, ?_⟩) ?_ ?_
 rotate_left
 ·intro w'
  go_simp
  with_reducible rfl
 rotate_left
 ·simp only [Act.put, List.setIfInBounds_toArray, List.set_cons_zero, List.set_cons_succ, i64_w, i32_w]
  rfl
 refine last_ (i := 10) (N := none) #[true, true, true, true, true, true, true, true, true, true, true] rfl rfl (one_of HT_.out (by kernel_rfl)) (by decide) (fun K hK => ?_)
 have hs25 : w24.cell? ⟨gb112, 2, none⟩ = some (.int .i64 0) := (blk_cell BK112.out 2).trans rfl
 have hfs25 := blk_frozen BK112.out 2
 have hns25_0 := NB102_112.out
 have hms25_0 := NB112_102.out
 refine skip_ (w1 := ?_) (by rfl) rfl ?_ ?_
 rotate_left
 ·go_simp
  rfl
 refine hK.out _ _ ?_
 clear hK K
 refine done_ (done_of HT_.out (by kernel_rfl)) ?_
 try go_wp2
 have n0_ : Aside0 ((w24.setCell ⟨gb112, 2, none⟩ (.int .i64 (wrap64 ((wrap64 ((wrap64 (2 * (wrap64 ((wrap64 (1 + (Int.tmod t106 2))) + 1)))) + 2)) + (Int.tmod t113 16))))).heap[gb102]? = some (.cells #[.int .u64 0, .int .u16 0, .int .i64 0, .int .i64 0, .int .i64 0, .int .i64 0, .int .i64 0, .slice none 0 0] 51 (0, 0))) := ⟨by (with_reducible repeat (first | refine blk_drewN ?_ _ | refine blk_drew ?_ | refine blk_alloc ?_ _)); refine blk_far ?_ NB102_112.out _; (with_reducible repeat (first | refine blk_drewN ?_ _ | refine blk_drew ?_ | refine blk_alloc ?_ _)); exact BK102.out⟩
 have n1_ : Aside0 ((w24.setCell ⟨gb112, 2, none⟩ (.int .i64 (wrap64 ((wrap64 ((wrap64 (2 * (wrap64 ((wrap64 (1 + (Int.tmod t106 2))) + 1)))) + 2)) + (Int.tmod t113 16))))).heap[gb112]? = some (.cells #[.int .u64 t103, .int .u16 (IntKind.u16.wrap (wrap64 ((Int.tmod t104 4) * 4096))), .int .i64 (wrap64 ((wrap64 ((wrap64 (2 * (wrap64 ((wrap64 (1 + (Int.tmod t106 2))) + 1)))) + 2)) + (Int.tmod t113 16))), .int .i64 (wrap64 (1 + (Int.tmod t106 2))), .int .i64 0, .int .i64 (wrap64 (10 + (Int.tmod t108 20))), .int .i64 (Int.tmod t110 9), .slice none 0 0] 51 (0, 0))) := ⟨by (with_reducible repeat (first | refine blk_drewN ?_ _ | refine blk_drew ?_ | refine blk_alloc ?_ _)); refine blk_put (cs := #[.int .u64 t103, .int .u16 (IntKind.u16.wrap (wrap64 ((Int.tmod t104 4) * 4096))), .int .i64 0, .int .i64 (wrap64 (1 + (Int.tmod t106 2))), .int .i64 0, .int .i64 (wrap64 (10 + (Int.tmod t108 20))), .int .i64 (Int.tmod t110 9), .slice none 0 0]) ?_ 2 _ rfl; (with_reducible repeat (first | refine blk_drewN ?_ _ | refine blk_drew ?_ | refine blk_alloc ?_ _)); exact BK112.out⟩
 have n2_ : Aside0 (IsS54 w0 (w24.setCell ⟨gb112, 2, none⟩ (.int .i64 (wrap64 ((wrap64 ((wrap64 (2 * (wrap64 ((wrap64 (1 + (Int.tmod t106 2))) + 1)))) + 2)) + (Int.tmod t113 16))))) g s0_0 t114) := ⟨by repeat (first | (with_reducible first | exact HI0.out | apply IsS54.alloc | apply IsS54.drewN | apply IsS54.drew | apply IsS54.set_1 | refine IsS54.far ?_ NB0_102.out _ | refine IsS54.far ?_ NB0_112.out _) | exact HI0.out)⟩
 have n3_ : Aside0 (KeepBut w (w24.setCell ⟨gb112, 2, none⟩ (.int .i64 (wrap64 ((wrap64 ((wrap64 (2 * (wrap64 ((wrap64 (1 + (Int.tmod t106 2))) + 1)))) + 2)) + (Int.tmod t113 16))))) g none) := ⟨by repeat (first | (with_reducible first | exact HK.out | apply KeepBut.set_ | apply keep_drewN | apply keep_drew | apply keep_alloc | refine keep_far ?_ GW102.out _ | refine keep_far ?_ GW112.out _) | exact HK.out)⟩
 have n4_ : Aside0 (Below w0.heap.size w0 (w24.setCell ⟨gb112, 2, none⟩ (.int .i64 (wrap64 ((wrap64 ((wrap64 (2 * (wrap64 ((wrap64 (1 + (Int.tmod t106 2))) + 1)))) + 2)) + (Int.tmod t113 16)))))) := ⟨by repeat (first | (with_reducible first | exact HB.out | apply below_alloc | apply pw_below_drewN | apply below_drew1 | refine below_set ?_ (IsS54.ge HI0.out) | refine below_set ?_ GE102.out | refine below_set ?_ GE112.out) | exact HB.out)⟩
 (try clear BK102)
 (try clear BK112)
 (try clear HI0)
 (try clear HK)
 (try clear HB)
 (try simp only [setCell_drewN_])
 generalize (w24.setCell ⟨gb112, 2, none⟩ (.int .i64 (wrap64 ((wrap64 ((wrap64 (2 * (wrap64 ((wrap64 (1 + (Int.tmod t106 2))) + 1)))) + 2)) + (Int.tmod t113 16))))) = w26 at n0_ n1_ n2_ n3_ n4_ ⊢
 have BK102 := n0_
 have BK112 := n1_
 have HI0 := n2_
 have HK := n3_
 have HB := n4_
 clear n0_ n1_ n2_ n3_ n4_
 have n0_ := Aside0.mk (blk_drew BK102.out)
 have n1_ := Aside0.mk (blk_drew BK112.out)
 have n2_ := Aside0.mk (IsS54.drew HI0.out)
 have n3_ := Aside0.mk (keep_drew HK.out)
 have n4_ := Aside0.mk (below_drew1 HB.out)
 clear BK102
 clear BK112
 clear HI0
 clear HK
 clear HB
 have BK102 := n0_
 have BK112 := n1_
 have HI0 := n2_
 have HK := n3_
 have HB := n4_
 clear n0_ n1_ n2_ n3_ n4_
 refine start_ (n := 11) (S := fun w' => w'.cell? ⟨gb112, 0, none⟩ = some (.int .u64 t103) ∧ w'.cell? ⟨gb112, 1, none⟩ = some (.int .u16 (IntKind.u16.wrap (wrap64 ((Int.tmod t104 4) * 4096)))) ∧ w'.cell? ⟨gb112, 2, none⟩ = some (.int .i64 (wrap64 ((wrap64 ((wrap64 (2 * (wrap64 ((wrap64 (1 + (Int.tmod t106 2))) + 1)))) + 2)) + (Int.tmod t113 16)))) ∧ w'.cell? ⟨gb112, 3, none⟩ = some (.int .i64 (wrap64 (1 + (Int.tmod t106 2)))) ∧ w'.cell? ⟨gb112, 4, none⟩ = some (.int .i64 0) ∧ w'.cell? ⟨gb112, 5, none⟩ = some (.int .i64 (wrap64 (10 + (Int.tmod t108 20)))) ∧ w'.cell? ⟨gb112, 6, none⟩ = some (.int .i64 (Int.tmod t110 9)) ∧ w'.cell? ⟨gb112, 7, none⟩ = some (.slice none 0 0)) (ds := [10]) #[false, false, false, false, false, false, false, false, false, false, false] (by kernel_rfl) rfl rfl ⟨(blk_cell BK112.out 0).trans rfl, (blk_cell BK112.out 1).trans rfl, (blk_cell BK112.out 2).trans rfl, (blk_cell BK112.out 3).trans rfl, (blk_cell BK112.out 4).trans rfl, (blk_cell BK112.out 5).trans rfl, (blk_cell BK112.out 6).trans rfl, (blk_cell BK112.out 7).trans rfl⟩ (fun hHeld => ?_); refine with_tabW script_reader_conf.tab3 script_reader_conf.bits3 (fun HT_ HW_ => ?_)
 generalize w26.drew = w27 at BK102 BK112 HI0 HK HB hHeld ⊢
 refine pure_ (i := 0) (N := some 36) (v := ?_) (a' := ?_) #[true, false, false, false, false, false, false, false, false, false, false] rfl rfl (any_of HT_.out (by kernel_rfl)) (fun _ _ _ h => h) (Or.inl ⟨by rfl, ?_⟩) ?_ ?_
 rotate_left
 ·intro w'
  go_simp
  with_reducible rfl
 rotate_left
 ·simp only [Act.put, List.setIfInBounds_toArray, List.set_cons_zero, List.set_cons_succ, i64_w, i32_w]
  rfl
 refine pure_ (i := 5) (N := some 41) (v := ?_) (a' := ?_) #[true, false, false, false, false, true, false, false, false, false, false] rfl rfl (any_of HT_.out (by kernel_rfl)) (fun _ _ _ h => h) (Or.inl ⟨by rfl, ?_⟩) ?_ ?_
 rotate_left
 ·intro w'
  go_simp
  with_reducible rfl
 rotate_left
 ·simp only [Act.put, List.setIfInBounds_toArray, List.set_cons_zero, List.set_cons_succ, i64_w, i32_w]
  rfl
 refine take_ (i := 1) (N := some 37) (v := ?_) (a' := ?_) #[true, true, false, false, false, true, false, false, false, false, false] rfl rfl (take_ofW HT_.out HW_.out (by kernel_rfl)) (fun _ _ _ h => h) (Or.inl ⟨by rfl, ?_⟩) hHeld ?_ ?_
 rotate_left
 ·rintro w' ⟨s0, s1, s2, s3, s4, s5, s6, s7⟩
  go_simp
  with_reducible rfl
 rotate_left
 ·simp only [Act.put, List.setIfInBounds_toArray, List.set_cons_zero, List.set_cons_succ, i64_w, i32_w]
  rfl
 refine pure_ (i := 2) (N := some 38) (v := ?_) (a' := ?_) #[true, true, true, false, false, true, false, false, false, false, false] rfl rfl (any_of HT_.out (by kernel_rfl)) (fun _ _ _ h => h) (Or.inl ⟨by rfl, ?_⟩) ?_ ?_
 rotate_left
 ·intro w'
  go_simp
  with_reducible rfl
 rotate_left
 ·simp only [Act.put, List.setIfInBounds_toArray, List.set_cons_zero, List.set_cons_succ, i64_w, i32_w]
  rfl
 refine pure_ (i := 3) (N := some 39) (v := ?_) (a' := ?_) #[true, true, true, true, false, true, false, false, false, false, false] rfl rfl (any_of HT_.out (by kernel_rfl)) (fun _ _ _ h => h) (Or.inl ⟨by rfl, ?_⟩) ?_ ?_
 rotate_left
 ·intro w'
  go_simp
  with_reducible rfl
 rotate_left
 ·simp only [Act.put, List.setIfInBounds_toArray, List.set_cons_zero, List.set_cons_succ, i64_w, i32_w]
  rfl
 refine pure_ (i := 4) (N := some 40) (v := ?_) (a' := ?_) #[true, true, true, true, true, true, false, false, false, false, false] rfl rfl (any_of HT_.out (by kernel_rfl)) (fun _ _ _ h => h) (Or.inl ⟨by rfl, ?_⟩) ?_ ?_
 rotate_left
 ·intro w'
  go_simp
  with_reducible rfl
 rotate_left
 ·simp only [Act.put, List.setIfInBounds_toArray, List.set_cons_zero, List.set_cons_succ, i64_w, i32_w]
  rfl
 refine one_ (i := 6) (N := some 42) #[true, true, true, true, true, true, true, false, false, false, false] rfl rfl (one_of HT_.out (by kernel_rfl)) (by decide) (fun K hK => ?_)
 refine goes_ Tryd.func28 (by kernel_rfl) rfl #[.pointer (some ⟨g, 0, none⟩)] (by rfl) rfl rfl (by (try simp only [List.map_toArray, List.map_cons, List.map_nil]); first | done | rfl | (simp only [List.length_drop, List.length_take]; rfl)) ?_
 with_reducible refine (script_reader_next.calls g s0_0 t114 t115 t116 w0 _ ?side1 ?side2 A9.out).mono ?_
 (case side1 => repeat (first | (with_reducible first | exact HI0.out | apply IsS54.alloc | apply IsS54.drewN | apply IsS54.drew | apply IsS54.set_1 | refine IsS54.far ?_ NB0_102.out _ | refine IsS54.far ?_ NB0_112.out _) | exact HI0.out))
 (case side2 => repeat (first | (with_reducible first | exact HB.out | apply below_alloc | apply pw_below_drewN | apply below_drew1 | refine below_set ?_ (IsS54.ge HI0.out) | refine below_set ?_ GE102.out | refine below_set ?_ GE112.out) | exact HB.out))
 rintro e w28 ⟨rfl, hi, hb, hk⟩
 refine ⟨_, rfl, ?_⟩
 have n0_ := Aside0.mk (KeepBut.blk hk (g' := gb102) (o := .cells #[.int .u64 0, .int .u16 0, .int .i64 0, .int .i64 0, .int .i64 0, .int .i64 0, .int .i64 0, .slice none 0 0] 51 (0, 0)) (by (with_reducible repeat (first | refine blk_drewN ?_ _ | refine blk_drew ?_ | refine blk_alloc ?_ _)); exact BK102.out) NB102_0.out (by simp))
 have n1_ := Aside0.mk (KeepBut.blk hk (g' := gb112) (o := .cells #[.int .u64 t103, .int .u16 (IntKind.u16.wrap (wrap64 ((Int.tmod t104 4) * 4096))), .int .i64 (wrap64 ((wrap64 ((wrap64 (2 * (wrap64 ((wrap64 (1 + (Int.tmod t106 2))) + 1)))) + 2)) + (Int.tmod t113 16))), .int .i64 (wrap64 (1 + (Int.tmod t106 2))), .int .i64 0, .int .i64 (wrap64 (10 + (Int.tmod t108 20))), .int .i64 (Int.tmod t110 9), .slice none 0 0] 51 (0, 0)) (by (with_reducible repeat (first | refine blk_drewN ?_ _ | refine blk_drew ?_ | refine blk_alloc ?_ _)); exact BK112.out) NB112_0.out (by simp))
 have n2_ := Aside0.mk (KeepBut.trans (by repeat (first | (with_reducible first | exact HK.out | apply KeepBut.set_ | apply keep_drewN | apply keep_drew | apply keep_alloc | refine keep_far ?_ GW102.out _ | refine keep_far ?_ GW112.out _) | exact HK.out)) hk (.inl rfl))
 have n3_ := Aside0.mk (hb)
 have n4_ := Aside0.mk (hi)
 clear BK102
 clear BK112
 clear HK
 clear HB
 clear HI0
 have BK102 := n0_
 have BK112 := n1_
 have HK := n2_
 have HB := n3_
 have HI0 := n4_
 clear n0_ n1_ n2_ n3_ n4_
 (try clear hb)
 (try clear hb2)
 (try clear hk)
 (try clear hi)
 refine hK.out _ _ ⟨(blk_cell BK112.out 0).trans rfl, (blk_cell BK112.out 1).trans rfl, (blk_cell BK112.out 2).trans rfl, (blk_cell BK112.out 3).trans rfl, (blk_cell BK112.out 4).trans rfl, (blk_cell BK112.out 5).trans rfl, (blk_cell BK112.out 6).trans rfl, (blk_cell BK112.out 7).trans rfl⟩ (fun hHeld => ?_)
 clear hK K
 refine norm_ (a' := ?_) ?_ ?_
 rotate_left
 ·show Act.put _ (some 42) _ = _
  simp only [Act.put, List.setIfInBounds_toArray, List.set_cons_zero, List.set_cons_succ, i64_w, i32_w]
  rfl
 refine pure_ (i := 7) (N := some 43) (v := ?_) (a' := ?_) #[true, true, true, true, true, true, true, true, false, false, false] rfl rfl (any_of HT_.out (by kernel_rfl)) (fun _ _ _ h => h) (Or.inl ⟨by rfl, ?_⟩) ?_ ?_
 rotate_left
 ·intro w'
  go_simp
  with_reducible rfl
 rotate_left
 ·simp only [Act.put, List.setIfInBounds_toArray, List.set_cons_zero, List.set_cons_succ, i64_w, i32_w]
  rfl
 refine pure_ (i := 8) (N := some 44) (v := ?_) (a' := ?_) #[true, true, true, true, true, true, true, true, true, false, false] rfl rfl (any_of HT_.out (by kernel_rfl)) (fun _ _ _ h => h) (Or.inl ⟨by rfl, ?_⟩) ?_ ?_
 rotate_left
 ·intro w'
  go_simp
  with_reducible rfl
 rotate_left
 ·simp only [Act.put, List.setIfInBounds_toArray, List.set_cons_zero, List.set_cons_succ, i64_w, i32_w]
  rfl
 refine pure_ (i := 9) (N := some 45) (v := ?_) (a' := ?_) #[true, true, true, true, true, true, true, true, true, true, false] rfl rfl (any_of HT_.out (by kernel_rfl)) (fun _ _ _ h => h) (Or.inl ⟨by rfl, ?_⟩) ?_ ?_
 rotate_left
 ·intro w'
  go_simp
  with_reducible rfl
 rotate_left
 ·simp only [Act.put, List.setIfInBounds_toArray, List.set_cons_zero, List.set_cons_succ, i64_w, i32_w]
  rfl
 refine last_ (i := 10) (N := none) #[true, true, true, true, true, true, true, true, true, true, true] rfl rfl (one_of HT_.out (by kernel_rfl)) (by decide) (fun K hK => ?_)
 have hs29 : w28.cell? ⟨gb112, 4, none⟩ = some (.int .i64 0) := (blk_cell BK112.out 4).trans rfl
 have hfs29 := blk_frozen BK112.out 4
 have hns29_0 := NB102_112.out
 have hms29_0 := NB112_102.out
 refine skip_ (w1 := ?_) (by rfl) rfl ?_ ?_
 rotate_left
 ·go_simp
  rfl
 refine hK.out _ _ ?_
 clear hK K
 refine done_ (done_of HT_.out (by kernel_rfl)) ?_
 have hcz30_0 : w28.cell? ⟨gb112, 0, none⟩ = some (.int .u64 t103) := (blk_cell BK112.out 0).trans rfl
 have hcz30_1 : w28.cell? ⟨gb112, 1, none⟩ = some (.int .u16 (IntKind.u16.wrap (wrap64 ((Int.tmod t104 4) * 4096)))) := (blk_cell BK112.out 1).trans rfl
 have hcz30_2 : w28.cell? ⟨gb112, 2, none⟩ = some (.int .i64 (wrap64 ((wrap64 ((wrap64 (2 * (wrap64 ((wrap64 (1 + (Int.tmod t106 2))) + 1)))) + 2)) + (Int.tmod t113 16)))) := (blk_cell BK112.out 2).trans rfl
 have hcz30_3 : w28.cell? ⟨gb112, 3, none⟩ = some (.int .i64 (wrap64 (1 + (Int.tmod t106 2)))) := (blk_cell BK112.out 3).trans rfl
 have hcz30_4 : w28.cell? ⟨gb112, 4, none⟩ = some (.int .i64 0) := (blk_cell BK112.out 4).trans rfl
 have hcz30_5 : w28.cell? ⟨gb112, 5, none⟩ = some (.int .i64 (wrap64 (10 + (Int.tmod t108 20)))) := (blk_cell BK112.out 5).trans rfl
 have hcz30_6 : w28.cell? ⟨gb112, 6, none⟩ = some (.int .i64 (Int.tmod t110 9)) := (blk_cell BK112.out 6).trans rfl
 have hcz30_7 : w28.cell? ⟨gb112, 7, none⟩ = some (.slice none 0 0) := (blk_cell BK112.out 7).trans rfl
 have hfz30_0 := blk_frozen BK112.out 0
 have hfz30_1 := blk_frozen BK112.out 1
 have hfz30_2 := blk_frozen BK112.out 2
 have hfz30_3 := blk_frozen BK112.out 3
 have hfz30_4 := blk_frozen BK112.out 4
 have hfz30_5 := blk_frozen BK112.out 5
 have hfz30_6 := blk_frozen BK112.out 6
 have hfz30_7 := blk_frozen BK112.out 7
 try go_wp2_with (first | ((with_reducible refine gate_callee (f := 28) rfl ?_); refine goesL_ (some 55) rfl rfl Tryd.func28 (by kernel_rfl) rfl #[.pointer (some ⟨g, 0, none⟩)] rfl (by (try simp only [List.map_toArray, List.map_cons, List.map_nil]); first | done | rfl | (simp only [List.length_drop, List.length_take]; rfl)) ?_; (with_reducible refine (script_reader_next.calls g s0_0 t116 t117 t118 w0 _ ?side1 ?side2 A12.out).mono ?_); (case side1 => repeat (first | (with_reducible first | exact HI0.out | apply IsS54.alloc | apply IsS54.drewN | apply IsS54.drew | apply IsS54.set_1 | refine IsS54.far ?_ NB0_102.out _ | refine IsS54.far ?_ NB0_112.out _) | exact HI0.out)); (case side2 => repeat (first | (with_reducible first | exact HB.out | apply below_alloc | apply pw_below_drewN | apply below_drew1 | refine below_set ?_ (IsS54.ge HI0.out) | refine below_set ?_ GE102.out | refine below_set ?_ GE112.out) | exact HB.out)); rintro e w31 ⟨rfl, hi, hb, hk⟩; refine ⟨_, rfl, ?_⟩; have n0_ := Aside0.mk (KeepBut.blk hk (g' := gb102) (o := .cells #[.int .u64 0, .int .u16 0, .int .i64 0, .int .i64 0, .int .i64 0, .int .i64 0, .int .i64 0, .slice none 0 0] 51 (0, 0)) (by (with_reducible repeat (first | refine blk_drewN ?_ _ | refine blk_drew ?_ | refine blk_alloc ?_ _)); refine blk_far ?_ NB102_112.out _; (with_reducible repeat (first | refine blk_drewN ?_ _ | refine blk_drew ?_ | refine blk_alloc ?_ _)); refine blk_far ?_ NB102_112.out _; (with_reducible repeat (first | refine blk_drewN ?_ _ | refine blk_drew ?_ | refine blk_alloc ?_ _)); refine blk_far ?_ NB102_112.out _; (with_reducible repeat (first | refine blk_drewN ?_ _ | refine blk_drew ?_ | refine blk_alloc ?_ _)); exact BK102.out) NB102_0.out (by simp)); have n1_ := Aside0.mk (KeepBut.blk hk (g' := gb112) (o := .cells #[.int .u64 t103, .int .u16 (IntKind.u16.wrap (wrap64 ((Int.tmod t104 4) * 4096))), .int .i64 ji10, .int .i64 (wrap64 (1 + (Int.tmod t106 2))), .int .i64 ji11, .int .i64 (wrap64 (10 + (Int.tmod t108 20))), .int .i64 (Int.tmod t110 9), .slice none 0 0] 51 (0, 0)) (by (with_reducible repeat (first | refine blk_drewN ?_ _ | refine blk_drew ?_ | refine blk_alloc ?_ _)); refine blk_put (cs := #[.int .u64 t103, .int .u16 (IntKind.u16.wrap (wrap64 ((Int.tmod t104 4) * 4096))), .int .i64 ji10, .int .i64 (wrap64 (1 + (Int.tmod t106 2))), .int .i64 (wrap64 ((wrap64 ((wrap64 (Int.tdiv (wrap64 ((wrap64 ((wrap64 ((wrap64 (2 * (wrap64 ((wrap64 (1 + (Int.tmod t106 2))) + 1)))) + 2)) + (Int.tmod t113 16))) + 1)) 2)) + 1)) + (Int.tmod t115 4))), .int .i64 (wrap64 (10 + (Int.tmod t108 20))), .int .i64 (Int.tmod t110 9), .slice none 0 0]) ?_ 4 _ rfl; (with_reducible repeat (first | refine blk_drewN ?_ _ | refine blk_drew ?_ | refine blk_alloc ?_ _)); refine blk_put (cs := #[.int .u64 t103, .int .u16 (IntKind.u16.wrap (wrap64 ((Int.tmod t104 4) * 4096))), .int .i64 (wrap64 ((wrap64 ((wrap64 (2 * (wrap64 ((wrap64 (1 + (Int.tmod t106 2))) + 1)))) + 2)) + (Int.tmod t113 16))), .int .i64 (wrap64 (1 + (Int.tmod t106 2))), .int .i64 (wrap64 ((wrap64 ((wrap64 (Int.tdiv (wrap64 ((wrap64 ((wrap64 ((wrap64 (2 * (wrap64 ((wrap64 (1 + (Int.tmod t106 2))) + 1)))) + 2)) + (Int.tmod t113 16))) + 1)) 2)) + 1)) + (Int.tmod t115 4))), .int .i64 (wrap64 (10 + (Int.tmod t108 20))), .int .i64 (Int.tmod t110 9), .slice none 0 0]) ?_ 2 _ rfl; (with_reducible repeat (first | refine blk_drewN ?_ _ | refine blk_drew ?_ | refine blk_alloc ?_ _)); refine blk_put (cs := #[.int .u64 t103, .int .u16 (IntKind.u16.wrap (wrap64 ((Int.tmod t104 4) * 4096))), .int .i64 (wrap64 ((wrap64 ((wrap64 (2 * (wrap64 ((wrap64 (1 + (Int.tmod t106 2))) + 1)))) + 2)) + (Int.tmod t113 16))), .int .i64 (wrap64 (1 + (Int.tmod t106 2))), .int .i64 0, .int .i64 (wrap64 (10 + (Int.tmod t108 20))), .int .i64 (Int.tmod t110 9), .slice none 0 0]) ?_ 4 _ rfl; (with_reducible repeat (first | refine blk_drewN ?_ _ | refine blk_drew ?_ | refine blk_alloc ?_ _)); exact BK112.out) NB112_0.out (by simp)); have n2_ := Aside0.mk (KeepBut.trans (by repeat (first | (with_reducible first | exact HK.out | apply KeepBut.set_ | apply keep_drewN | apply keep_drew | apply keep_alloc | refine keep_far ?_ GW102.out _ | refine keep_far ?_ GW112.out _) | exact HK.out)) hk (.inl rfl)); have n3_ := Aside0.mk (hb); have n4_ := Aside0.mk (hi); clear BK102; clear BK112; clear HK; clear HB; clear HI0; have BK102 := n0_; have BK112 := n1_; have HK := n2_; have HB := n3_; have HI0 := n4_; clear n0_ n1_ n2_ n3_ n4_; (try clear hb); (try clear hb2); (try clear hk); (try clear hi)))
 go_loopg [58] k (fun kq v58 w' => ∃ (x58_1 : Int) (x1001_1 : Int) (x113007_1 : List (S63)) (u113007 : Value), v58 = .int .i64 x58_1 ∧ Aside0 (script_reader_conf.l0 kq (wrap64 (1 + (Int.tmod t117 3))) x58_1 s0_0 x1001_1 t103 (IntKind.u16.wrap (wrap64 ((Int.tmod t104 4) * 4096))) ji10 (wrap64 (1 + (Int.tmod t106 2))) ji11 (wrap64 (10 + (Int.tmod t108 20))) (Int.tmod t110 9) x113007_1 = some (r1, r2, r3, r4, r5, r6, r7, r8, r9)) ∧ Aside0 (kq ≤ k) ∧ Aside0 (Kd.R k63 63 w' w.heap.size (fun _ => True) u113007 x113007_1) ∧ Aside0 (w'.heap[gb102]? = some (.cells #[.int .u64 0, .int .u16 0, .int .i64 0, .int .i64 0, .int .i64 0, .int .i64 0, .int .i64 0, (.slice none 0 0)] 51 (0, 0))) ∧ Aside0 (w'.heap[gb112]? = some (.cells #[.int .u64 t103, .int .u16 (IntKind.u16.wrap (wrap64 ((Int.tmod t104 4) * 4096))), .int .i64 ji10, .int .i64 (wrap64 (1 + (Int.tmod t106 2))), .int .i64 ji11, .int .i64 (wrap64 (10 + (Int.tmod t108 20))), .int .i64 (Int.tmod t110 9), u113007] 51 (0, 0))) ∧ Aside0 (IsS54 w0 w' g s0_0 x1001_1) ∧ Aside0 (KeepBut w w' g none) ∧ Aside0 (Below w0.heap.size w0 w'))
 case atStart => exact ⟨(0), (t118), (([] : List (S63))), (.slice none 0 0), (by first | rfl | (simp; done) | (simp [*]; done)), H', ⟨Nat.le_refl _⟩, ⟨by first | exact Kd.R_nil _ _ _ _ _ | exact Kd.N_nil _ _ _ _ _ | exact Kd.V_nil _ _ _ _ _ | exact Kd.Q_nil _ _ _ _ _ | exact Kd.S_nil _ _ _ _ _⟩, ⟨by (with_reducible repeat (first | refine blk_drewN ?_ _ | refine blk_drew ?_ | refine blk_alloc ?_ _)); exact BK102.out⟩, ⟨by (with_reducible repeat (first | refine blk_drewN ?_ _ | refine blk_drew ?_ | refine blk_alloc ?_ _)); exact BK112.out⟩, ⟨by repeat (first | (with_reducible first | exact HI0.out | apply IsS54.alloc | apply IsS54.drewN | apply IsS54.drew | apply IsS54.set_1 | refine IsS54.far ?_ NB0_102.out _ | refine IsS54.far ?_ NB0_112.out _) | exact HI0.out)⟩, ⟨by repeat (first | (with_reducible first | exact HK.out | apply KeepBut.set_ | apply keep_drewN | apply keep_drew | apply keep_alloc | refine keep_far ?_ GW102.out _ | refine keep_far ?_ GW112.out _) | exact HK.out)⟩, ⟨by repeat (first | (with_reducible first | exact HB.out | apply below_alloc | apply pw_below_drewN | apply below_drew1 | refine below_set ?_ (IsS54.ge HI0.out) | refine below_set ?_ GE102.out | refine below_set ?_ GE112.out) | exact HB.out)⟩⟩
 clear H'
 try clear c1
 try clear c2
 try clear p2
 try clear c3
 try clear p6
 try clear c19
 try clear c20
 try clear c28
 try clear c29
 try clear c30
 try clear hcz21_0
 try clear hcz21_1
 try clear hcz21_2
 try clear hcz21_3
 try clear hcz21_4
 try clear hcz21_5
 try clear hcz21_6
 try clear hcz21_7
 try clear hcz30_0
 try clear hcz30_1
 try clear hcz30_2
 try clear hcz30_3
 try clear hcz30_4
 try clear hcz30_5
 try clear hcz30_6
 try clear hcz30_7
 try clear hfz21_0
 try clear hfz21_1
 try clear hfz21_2
 try clear hfz21_3
 try clear hfz21_4
 try clear hfz21_5
 try clear hfz21_6
 try clear hfz21_7
 try clear hfz30_0
 try clear hfz30_1
 try clear hfz30_2
 try clear hfz30_3
 try clear hfz30_4
 try clear hfz30_5
 try clear hfz30_6
 try clear hfz30_7
 obtain ⟨x58_1, x1001_1, x113007_1, u113007, rfl, HA, HK1, HO_113007, BK102, BK112, HI0, HK, HB⟩ := hrel
 cases gk with
 | zero => exact absurd HA.out (by simp [script_reader_conf.l0])
 | succ k1 => ?_
 have H := HA.out
 clear HA
 simp only [script_reader_conf.l0] at H
 by_cases c32 : x58_1 < (wrap64 (1 + (Int.tmod t117 3)))
 rotate_left
 ·rw [if_neg c32] at H
  have c32b0 : decide (x58_1 < (wrap64 (1 + (Int.tmod t117 3)))) = false := decide_eq_false c32
  clear c32
  simp only [Option.some.injEq, Prod.mk.injEq] at H
  obtain ⟨rfl, rfl, rfl, rfl, rfl, rfl, rfl, rfl, rfl⟩ := H
  have hnb42 := NB112_102.out
  have hnc42 := NB102_112.out
  have hnb43 := NB112_0.out
  have hnc43 := NB0_112.out
  have hcz44_0 : wr.cell? ⟨gb112, 0, none⟩ = some (.int .u64 t103) := (blk_cell BK112.out 0).trans rfl
  have hcz44_1 : wr.cell? ⟨gb112, 1, none⟩ = some (.int .u16 (IntKind.u16.wrap (wrap64 ((Int.tmod t104 4) * 4096)))) := (blk_cell BK112.out 1).trans rfl
  have hcz44_2 : wr.cell? ⟨gb112, 2, none⟩ = some (.int .i64 ji10) := (blk_cell BK112.out 2).trans rfl
  have hcz44_3 : wr.cell? ⟨gb112, 3, none⟩ = some (.int .i64 (wrap64 (1 + (Int.tmod t106 2)))) := (blk_cell BK112.out 3).trans rfl
  have hcz44_4 : wr.cell? ⟨gb112, 4, none⟩ = some (.int .i64 ji11) := (blk_cell BK112.out 4).trans rfl
  have hcz44_5 : wr.cell? ⟨gb112, 5, none⟩ = some (.int .i64 (wrap64 (10 + (Int.tmod t108 20)))) := (blk_cell BK112.out 5).trans rfl
  have hcz44_6 : wr.cell? ⟨gb112, 6, none⟩ = some (.int .i64 (Int.tmod t110 9)) := (blk_cell BK112.out 6).trans rfl
  have hcz44_7 : wr.cell? ⟨gb112, 7, none⟩ = some (u113007) := (blk_cell BK112.out 7).trans rfl
  have hfz44_0 := blk_frozen BK112.out 0
  have hfz44_1 := blk_frozen BK112.out 1
  have hfz44_2 := blk_frozen BK112.out 2
  have hfz44_3 := blk_frozen BK112.out 3
  have hfz44_4 := blk_frozen BK112.out 4
  have hfz44_5 := blk_frozen BK112.out 5
  have hfz44_6 := blk_frozen BK112.out 6
  have hfz44_7 := blk_frozen BK112.out 7
  have hnb45 := NB102_0.out
  have hnc45 := NB0_102.out
  have hcz46_0 : wr.cell? ⟨gb102, 0, none⟩ = some (.int .u64 0) := (blk_cell BK102.out 0).trans rfl
  have hcz46_1 : wr.cell? ⟨gb102, 1, none⟩ = some (.int .u16 0) := (blk_cell BK102.out 1).trans rfl
  have hcz46_2 : wr.cell? ⟨gb102, 2, none⟩ = some (.int .i64 0) := (blk_cell BK102.out 2).trans rfl
  have hcz46_3 : wr.cell? ⟨gb102, 3, none⟩ = some (.int .i64 0) := (blk_cell BK102.out 3).trans rfl
  have hcz46_4 : wr.cell? ⟨gb102, 4, none⟩ = some (.int .i64 0) := (blk_cell BK102.out 4).trans rfl
  have hcz46_5 : wr.cell? ⟨gb102, 5, none⟩ = some (.int .i64 0) := (blk_cell BK102.out 5).trans rfl
  have hcz46_6 : wr.cell? ⟨gb102, 6, none⟩ = some (.int .i64 0) := (blk_cell BK102.out 6).trans rfl
  have hcz46_7 : wr.cell? ⟨gb102, 7, none⟩ = some (.slice none 0 0) := (blk_cell BK102.out 7).trans rfl
  have hfz46_0 := blk_frozen BK102.out 0
  have hfz46_1 := blk_frozen BK102.out 1
  have hfz46_2 := blk_frozen BK102.out 2
  have hfz46_3 := blk_frozen BK102.out 3
  have hfz46_4 := blk_frozen BK102.out 4
  have hfz46_5 := blk_frozen BK102.out 5
  have hfz46_6 := blk_frozen BK102.out 6
  have hfz46_7 := blk_frozen BK102.out 7
  obtain ⟨Ao47, co47, eo47⟩ := Kd.R_slice HO_113007.out
  subst eo47
  go_wp2
  refine bodyPost_ret (results_cell_row rfl _ _ gb102 51 #[.int .u64 t103, .int .u16 (IntKind.u16.wrap (wrap64 ((Int.tmod t104 4) * 4096))), .int .i64 ji10, .int .i64 (wrap64 (1 + (Int.tmod t106 2))), .int .i64 ji11, .int .i64 (wrap64 (10 + (Int.tmod t108 20))), .int .i64 (Int.tmod t110 9), .slice Ao47 x113007_1.length co47] (0, 0) _ rfl (by (with_reducible repeat (first | refine blk_drewN ?_ _ | refine blk_drew ?_ | refine blk_alloc ?_ _)); refine blk_put (cs := #[.int .u64 t103, .int .u16 (IntKind.u16.wrap (wrap64 ((Int.tmod t104 4) * 4096))), .int .i64 ji10, .int .i64 (wrap64 (1 + (Int.tmod t106 2))), .int .i64 ji11, .int .i64 (wrap64 (10 + (Int.tmod t108 20))), .int .i64 (Int.tmod t110 9), .slice none 0 0]) ?_ 7 _ rfl; (with_reducible repeat (first | refine blk_drewN ?_ _ | refine blk_drew ?_ | refine blk_alloc ?_ _)); refine blk_put (cs := #[.int .u64 t103, .int .u16 (IntKind.u16.wrap (wrap64 ((Int.tmod t104 4) * 4096))), .int .i64 ji10, .int .i64 (wrap64 (1 + (Int.tmod t106 2))), .int .i64 ji11, .int .i64 (wrap64 (10 + (Int.tmod t108 20))), .int .i64 0, .slice none 0 0]) ?_ 6 _ rfl; (with_reducible repeat (first | refine blk_drewN ?_ _ | refine blk_drew ?_ | refine blk_alloc ?_ _)); refine blk_put (cs := #[.int .u64 t103, .int .u16 (IntKind.u16.wrap (wrap64 ((Int.tmod t104 4) * 4096))), .int .i64 ji10, .int .i64 (wrap64 (1 + (Int.tmod t106 2))), .int .i64 ji11, .int .i64 0, .int .i64 0, .slice none 0 0]) ?_ 5 _ rfl; (with_reducible repeat (first | refine blk_drewN ?_ _ | refine blk_drew ?_ | refine blk_alloc ?_ _)); refine blk_put (cs := #[.int .u64 t103, .int .u16 (IntKind.u16.wrap (wrap64 ((Int.tmod t104 4) * 4096))), .int .i64 ji10, .int .i64 (wrap64 (1 + (Int.tmod t106 2))), .int .i64 0, .int .i64 0, .int .i64 0, .slice none 0 0]) ?_ 4 _ rfl; (with_reducible repeat (first | refine blk_drewN ?_ _ | refine blk_drew ?_ | refine blk_alloc ?_ _)); refine blk_put (cs := #[.int .u64 t103, .int .u16 (IntKind.u16.wrap (wrap64 ((Int.tmod t104 4) * 4096))), .int .i64 ji10, .int .i64 0, .int .i64 0, .int .i64 0, .int .i64 0, .slice none 0 0]) ?_ 3 _ rfl; (with_reducible repeat (first | refine blk_drewN ?_ _ | refine blk_drew ?_ | refine blk_alloc ?_ _)); refine blk_put (cs := #[.int .u64 t103, .int .u16 (IntKind.u16.wrap (wrap64 ((Int.tmod t104 4) * 4096))), .int .i64 0, .int .i64 0, .int .i64 0, .int .i64 0, .int .i64 0, .slice none 0 0]) ?_ 2 _ rfl; (with_reducible repeat (first | refine blk_drewN ?_ _ | refine blk_drew ?_ | refine blk_alloc ?_ _)); refine blk_put (cs := #[.int .u64 t103, .int .u16 0, .int .i64 0, .int .i64 0, .int .i64 0, .int .i64 0, .int .i64 0, .slice none 0 0]) ?_ 1 _ rfl; (with_reducible repeat (first | refine blk_drewN ?_ _ | refine blk_drew ?_ | refine blk_alloc ?_ _)); refine blk_put (cs := #[.int .u64 0, .int .u16 0, .int .i64 0, .int .i64 0, .int .i64 0, .int .i64 0, .int .i64 0, .slice none 0 0]) ?_ 0 _ rfl; (with_reducible repeat (first | refine blk_drewN ?_ _ | refine blk_drew ?_ | refine blk_alloc ?_ _)); exact BK102.out) Tryd.underlying51 rfl (by kernel_rfl)) rfl ?_
  exact ⟨_, by first | rfl | (simp [errW_none, errW_some] <;> rfl) | (simp only [← hji10, ← hji11]; first | rfl | (simp [errW_none, errW_some] <;> rfl)) | (simp [*, errW_none, errW_some] <;> rfl), by (with_reducible repeat (first | apply Kd.R_alloc | apply Kd.R_drewN | apply Kd.R_drew)); exact Kd.R_mono (Kd.R_far (p := ⟨gb102, 7, none⟩) (Kd.R_far (p := ⟨gb102, 6, none⟩) (Kd.R_far (p := ⟨gb102, 5, none⟩) (Kd.R_far (p := ⟨gb102, 4, none⟩) (Kd.R_far (p := ⟨gb102, 3, none⟩) (Kd.R_far (p := ⟨gb102, 2, none⟩) (Kd.R_far (p := ⟨gb102, 1, none⟩) (Kd.R_far (p := ⟨gb102, 0, none⟩) (Kd.R_types HO_113007.out BK102.out (by decide)) (fun _ hk => hk.2) (.int .u64 t103)) (fun _ hk => hk.2) (.int .u16 (IntKind.u16.wrap (wrap64 ((Int.tmod t104 4) * 4096))))) (fun _ hk => hk.2) (.int .i64 ji10)) (fun _ hk => hk.2) (.int .i64 (wrap64 (1 + (Int.tmod t106 2))))) (fun _ hk => hk.2) (.int .i64 ji11)) (fun _ hk => hk.2) (.int .i64 (wrap64 (10 + (Int.tmod t108 20))))) (fun _ hk => hk.2) (.int .i64 (Int.tmod t110 9))) (fun _ hk => hk.2) (.slice Ao47 x113007_1.length co47)) (fun _ hk => trivial), by repeat (first | (with_reducible first | exact HI0.out | apply IsS54.alloc | apply IsS54.drewN | apply IsS54.drew | apply IsS54.set_1 | refine IsS54.far ?_ NB0_102.out _ | refine IsS54.far ?_ NB0_112.out _) | exact HI0.out), by repeat (first | (with_reducible first | exact HB.out | apply below_alloc | apply pw_below_drewN | apply below_drew1 | refine below_set ?_ (IsS54.ge HI0.out) | refine below_set ?_ GE102.out | refine below_set ?_ GE112.out) | exact HB.out), by repeat (first | (with_reducible first | exact HK.out | apply KeepBut.set_ | apply keep_drewN | apply keep_drew | apply keep_alloc | refine keep_far ?_ GW102.out _ | refine keep_far ?_ GW112.out _) | exact HK.out)⟩
 rw [if_pos c32] at H
 have c32b0 : decide (x58_1 < (wrap64 (1 + (Int.tmod t117 3)))) = true := decide_eq_true c32
 clear c32
 replace H := Option.bind_eq_some_iff.mp H
 obtain ⟨⟨t119, t120⟩, A330, H⟩ := H
 replace H : (if x113007_1.length < 11728124029610 then (script_reader_conf.l0 k1 (wrap64 (1 + (Int.tmod t117 3))) (wrap64 (x58_1 + 1)) s0_0 t120 t103 (IntKind.u16.wrap (wrap64 ((Int.tmod t104 4) * 4096))) ji10 (wrap64 (1 + (Int.tmod t106 2))) ji11 (wrap64 (10 + (Int.tmod t108 20))) (Int.tmod t110 9) (x113007_1 ++ [(⟨128, (wrap64 (1 + (Int.tmod t119 50))) % 4294967296, decide (t119 < 230)⟩ : S63)])) else (none)) = some (r1, r2, r3, r4, r5, r6, r7, r8, r9) := H
 have A33 := Aside0.mk A330
 clear A330
 by_cases c34 : x113007_1.length < 11728124029610
 rotate_left
 ·rw [if_neg c34] at H
  exact absurd H (by simp)
 rw [if_pos c34] at H
 have LMc34 := Aside0.mk c34
 clear c34
 obtain ⟨y121, hy121⟩ : ∃ y_ : List (S63), y_ = (x113007_1 ++ [(⟨128, (wrap64 (1 + (Int.tmod t119 50))) % 4294967296, decide (t119 < 230)⟩ : S63)]) := ⟨_, rfl⟩
 replace H : (script_reader_conf.l0 k1 (wrap64 (1 + (Int.tmod t117 3))) (wrap64 (x58_1 + 1)) s0_0 t120 t103 (IntKind.u16.wrap (wrap64 ((Int.tmod t104 4) * 4096))) ji10 (wrap64 (1 + (Int.tmod t106 2))) ji11 (wrap64 (10 + (Int.tmod t108 20))) (Int.tmod t110 9) y121) = some (r1, r2, r3, r4, r5, r6, r7, r8, r9) := by first | (rw [hy121]; with_reducible exact H) | (have H2_ := (Option.bind_some _ _).symm.trans H; rw [hy121]; with_reducible exact H2_) | (have H2_ := (Option.bind_some _ _).symm.trans H; with_reducible exact H2_) | with_reducible exact H | (rw [hy121]; exact H) | exact H
 have Ny121 := Aside0.mk hy121
 clear hy121
 have H' := Aside0.mk H
 clear H
 go_wp2_with (first | ((with_reducible refine gate_callee (f := 28) rfl ?_); refine goesL_ (some 61) rfl rfl Tryd.func28 (by kernel_rfl) rfl #[.pointer (some ⟨g, 0, none⟩)] rfl (by (try simp only [List.map_toArray, List.map_cons, List.map_nil]); first | done | rfl | (simp only [List.length_drop, List.length_take]; rfl)) ?_; (with_reducible refine (script_reader_next.calls g s0_0 x1001_1 t119 t120 w0 _ ?side1 ?side2 A33.out).mono ?_); (case side1 => repeat (first | (with_reducible first | exact HI0.out | apply IsS54.alloc | apply IsS54.drewN | apply IsS54.drew | apply IsS54.set_1 | refine IsS54.far ?_ NB0_102.out _ | refine IsS54.far ?_ NB0_112.out _) | exact HI0.out)); (case side2 => repeat (first | (with_reducible first | exact HB.out | apply below_alloc | apply pw_below_drewN | apply below_drew1 | refine below_set ?_ (IsS54.ge HI0.out) | refine below_set ?_ GE102.out | refine below_set ?_ GE112.out) | exact HB.out)); rintro e w35 ⟨rfl, hi, hb, hk⟩; refine ⟨_, rfl, ?_⟩; have n0_ := Aside0.mk (Kd.R_mono (Kd.R_keep (IsS54.apart (show IsS54 w0 _ g s0_0 x1001_1 from by repeat (first | (with_reducible first | exact HI0.out | apply IsS54.alloc | apply IsS54.drewN | apply IsS54.drew | apply IsS54.set_1 | refine IsS54.far ?_ NB0_102.out _ | refine IsS54.far ?_ NB0_112.out _) | exact HI0.out)) (by (with_reducible repeat (first | apply Kd.R_alloc | apply Kd.R_drewN | apply Kd.R_drew)); exact HO_113007.out) (by decide)) hk (fun _ h => h.2)) (fun _ h => h.1)); have n1_ := Aside0.mk (KeepBut.blk hk (g' := gb102) (o := .cells #[.int .u64 0, .int .u16 0, .int .i64 0, .int .i64 0, .int .i64 0, .int .i64 0, .int .i64 0, .slice none 0 0] 51 (0, 0)) (by (with_reducible repeat (first | refine blk_drewN ?_ _ | refine blk_drew ?_ | refine blk_alloc ?_ _)); exact BK102.out) NB102_0.out (by simp)); have n2_ := Aside0.mk (KeepBut.blk hk (g' := gb112) (o := .cells #[.int .u64 t103, .int .u16 (IntKind.u16.wrap (wrap64 ((Int.tmod t104 4) * 4096))), .int .i64 ji10, .int .i64 (wrap64 (1 + (Int.tmod t106 2))), .int .i64 ji11, .int .i64 (wrap64 (10 + (Int.tmod t108 20))), .int .i64 (Int.tmod t110 9), u113007] 51 (0, 0)) (by (with_reducible repeat (first | refine blk_drewN ?_ _ | refine blk_drew ?_ | refine blk_alloc ?_ _)); exact BK112.out) NB112_0.out (by simp)); have n3_ := Aside0.mk (KeepBut.trans (by repeat (first | (with_reducible first | exact HK.out | apply KeepBut.set_ | apply keep_drewN | apply keep_drew | apply keep_alloc | refine keep_far ?_ GW102.out _ | refine keep_far ?_ GW112.out _) | exact HK.out)) hk (.inl rfl)); have n4_ := Aside0.mk (hb); have n5_ := Aside0.mk (hi); clear HO_113007; clear BK102; clear BK112; clear HK; clear HB; clear HI0; have HO_113007 := n0_; have BK102 := n1_; have BK112 := n2_; have HK := n3_; have HB := n4_; have HI0 := n5_; clear n0_ n1_ n2_ n3_ n4_ n5_; (try clear hb); (try clear hb2); (try clear hk); (try clear hi); have hnb36 := NB112_102.out; have hnc36 := NB102_112.out; have hnb37 := NB112_0.out; have hnc37 := NB0_112.out; have hcz38_0 : w35.cell? ⟨gb112, 0, none⟩ = some (.int .u64 t103) := (blk_cell BK112.out 0).trans rfl; have hcz38_1 : w35.cell? ⟨gb112, 1, none⟩ = some (.int .u16 (IntKind.u16.wrap (wrap64 ((Int.tmod t104 4) * 4096)))) := (blk_cell BK112.out 1).trans rfl; have hcz38_2 : w35.cell? ⟨gb112, 2, none⟩ = some (.int .i64 ji10) := (blk_cell BK112.out 2).trans rfl; have hcz38_3 : w35.cell? ⟨gb112, 3, none⟩ = some (.int .i64 (wrap64 (1 + (Int.tmod t106 2)))) := (blk_cell BK112.out 3).trans rfl; have hcz38_4 : w35.cell? ⟨gb112, 4, none⟩ = some (.int .i64 ji11) := (blk_cell BK112.out 4).trans rfl; have hcz38_5 : w35.cell? ⟨gb112, 5, none⟩ = some (.int .i64 (wrap64 (10 + (Int.tmod t108 20)))) := (blk_cell BK112.out 5).trans rfl; have hcz38_6 : w35.cell? ⟨gb112, 6, none⟩ = some (.int .i64 (Int.tmod t110 9)) := (blk_cell BK112.out 6).trans rfl; have hcz38_7 : w35.cell? ⟨gb112, 7, none⟩ = some (u113007) := (blk_cell BK112.out 7).trans rfl; have hfz38_0 := blk_frozen BK112.out 0; have hfz38_1 := blk_frozen BK112.out 1; have hfz38_2 := blk_frozen BK112.out 2; have hfz38_3 := blk_frozen BK112.out 3; have hfz38_4 := blk_frozen BK112.out 4; have hfz38_5 := blk_frozen BK112.out 5; have hfz38_6 := blk_frozen BK112.out 6; have hfz38_7 := blk_frozen BK112.out 7) | ((with_reducible refine gate_builtin (b := .append) (xs := #[.tmp 63, .tmp 71]) rfl ?_); at_builtin; refine Kd.R_append k63 w.heap.size rfl (.tmp 63) (.tmp 71) 49 63 (.agg #[(.int .u8 0), (.int .u32 0), (.bool false)]) 12 rfl Tryd.underlying49 info63 rfl (by decide) (by omega) u113007 x113007_1 (⟨128, (wrap64 (1 + (Int.tmod t119 50))) % 4294967296, decide (t119 < 230)⟩ : S63) [.int .u8 128, .int .u32 ((wrap64 (1 + (Int.tmod t119 50))) % 4294967296), .bool (decide (t119 < 230))] (fun _ => True) (fun _ => False) rfl rfl ?aP (fun _ hk => hk.elim) ?aF ?aO (Below.refl _ _) ?aS ?aL ?_; (case aP => exact k63_mkM _ _ _ (⟨128, (wrap64 (1 + (Int.tmod t119 50))) % 4294967296, decide (t119 < 230)⟩ : S63)); (case aF => exact (fun _ _ => trivial)); (case aO => exact (by (with_reducible repeat (first | apply Kd.R_alloc | apply Kd.R_drewN | apply Kd.R_drew)); exact HO_113007.out)); (case aS => exact (keep_size (w := w) (g := g) (row := none) (by repeat (first | (with_reducible first | exact HK.out | apply KeepBut.set_ | apply keep_drewN | apply keep_drew | apply keep_alloc | refine keep_far ?_ GW102.out _ | refine keep_far ?_ GW112.out _) | exact HK.out)))); (case aL => have := LMc34.out; omega); intro v122 w39 ho hb hg hat; rw [← Ny121.out] at ho; have n0_ := Aside0.mk (blk_grown (g := gb102) (o := .cells #[.int .u64 0, .int .u16 0, .int .i64 0, .int .i64 0, .int .i64 0, .int .i64 0, .int .i64 0, .slice none 0 0] 51 (0, 0)) (by (with_reducible repeat (first | refine blk_drewN ?_ _ | refine blk_drew ?_ | refine blk_alloc ?_ _)); exact BK102.out) hg (Kd.R_ne HO_113007.out BK102.out (by decide))); have n1_ := Aside0.mk (blk_grown (g := gb112) (o := .cells #[.int .u64 t103, .int .u16 (IntKind.u16.wrap (wrap64 ((Int.tmod t104 4) * 4096))), .int .i64 ji10, .int .i64 (wrap64 (1 + (Int.tmod t106 2))), .int .i64 ji11, .int .i64 (wrap64 (10 + (Int.tmod t108 20))), .int .i64 (Int.tmod t110 9), u113007] 51 (0, 0)) (by (with_reducible repeat (first | refine blk_drewN ?_ _ | refine blk_drew ?_ | refine blk_alloc ?_ _)); exact BK112.out) hg (Kd.R_ne HO_113007.out BK112.out (by decide))); have n2_ := Aside0.mk (IsS54.grown (by repeat (first | (with_reducible first | exact HI0.out | apply IsS54.alloc | apply IsS54.drewN | apply IsS54.drew | apply IsS54.set_1 | refine IsS54.far ?_ NB0_102.out _ | refine IsS54.far ?_ NB0_112.out _) | exact HI0.out)) hg (IsS54.own_ne HI0.out HO_113007.out (by decide))); have n3_ := Aside0.mk (below_weaken (by repeat (first | (with_reducible first | exact HB.out | apply below_alloc | apply pw_below_drewN | apply below_drew1 | refine below_set ?_ (IsS54.ge HI0.out) | refine below_set ?_ GE102.out | refine below_set ?_ GE112.out) | exact HB.out)) HL.out hb); have n4_ := Aside0.mk (KeepBut.trans (by repeat (first | (with_reducible first | exact HK.out | apply KeepBut.set_ | apply keep_drewN | apply keep_drew | apply keep_alloc | refine keep_far ?_ GW102.out _ | refine keep_far ?_ GW112.out _) | exact HK.out)) (KeepBut.of_grown hg g) (Kd.R_base2 HO_113007.out)); have n5_ := Aside0.mk (ho); clear BK102; clear BK112; clear HI0; clear HB; clear HK; clear HO_113007; have BK102 := n0_; have BK112 := n1_; have HI0 := n2_; have HB := n3_; have HK := n4_; have HO123 := n5_; clear n0_ n1_ n2_ n3_ n4_ n5_; clear ho hb hg hat; obtain ⟨Ao40, co40, eo40⟩ := Kd.R_slice HO123.out; subst eo40; have hcz41_0 : w39.cell? ⟨gb112, 0, none⟩ = some (.int .u64 t103) := (blk_cell BK112.out 0).trans rfl; have hcz41_1 : w39.cell? ⟨gb112, 1, none⟩ = some (.int .u16 (IntKind.u16.wrap (wrap64 ((Int.tmod t104 4) * 4096)))) := (blk_cell BK112.out 1).trans rfl; have hcz41_2 : w39.cell? ⟨gb112, 2, none⟩ = some (.int .i64 ji10) := (blk_cell BK112.out 2).trans rfl; have hcz41_3 : w39.cell? ⟨gb112, 3, none⟩ = some (.int .i64 (wrap64 (1 + (Int.tmod t106 2)))) := (blk_cell BK112.out 3).trans rfl; have hcz41_4 : w39.cell? ⟨gb112, 4, none⟩ = some (.int .i64 ji11) := (blk_cell BK112.out 4).trans rfl; have hcz41_5 : w39.cell? ⟨gb112, 5, none⟩ = some (.int .i64 (wrap64 (10 + (Int.tmod t108 20)))) := (blk_cell BK112.out 5).trans rfl; have hcz41_6 : w39.cell? ⟨gb112, 6, none⟩ = some (.int .i64 (Int.tmod t110 9)) := (blk_cell BK112.out 6).trans rfl; have hcz41_7 : w39.cell? ⟨gb112, 7, none⟩ = some (u113007) := (blk_cell BK112.out 7).trans rfl; have hfz41_0 := blk_frozen BK112.out 0; have hfz41_1 := blk_frozen BK112.out 1; have hfz41_2 := blk_frozen BK112.out 2; have hfz41_3 := blk_frozen BK112.out 3; have hfz41_4 := blk_frozen BK112.out 4; have hfz41_5 := blk_frozen BK112.out 5; have hfz41_6 := blk_frozen BK112.out 6; have hfz41_7 := blk_frozen BK112.out 7) | (go_at_call 28; (with_reducible refine (script_reader_next.calls g s0_0 x1001_1 t119 t120 w0 _ ?side1 ?side2 A33.out).mono ?_); (case side1 => repeat (first | (with_reducible first | exact HI0.out | apply IsS54.alloc | apply IsS54.drewN | apply IsS54.drew | apply IsS54.set_1 | refine IsS54.far ?_ NB0_102.out _ | refine IsS54.far ?_ NB0_112.out _) | exact HI0.out)); (case side2 => repeat (first | (with_reducible first | exact HB.out | apply below_alloc | apply pw_below_drewN | apply below_drew1 | refine below_set ?_ (IsS54.ge HI0.out) | refine below_set ?_ GE102.out | refine below_set ?_ GE112.out) | exact HB.out)); rintro e w35 ⟨rfl, hi, hb, hk⟩; have n0_ := Aside0.mk (Kd.R_mono (Kd.R_keep (IsS54.apart (show IsS54 w0 _ g s0_0 x1001_1 from by repeat (first | (with_reducible first | exact HI0.out | apply IsS54.alloc | apply IsS54.drewN | apply IsS54.drew | apply IsS54.set_1 | refine IsS54.far ?_ NB0_102.out _ | refine IsS54.far ?_ NB0_112.out _) | exact HI0.out)) (by (with_reducible repeat (first | apply Kd.R_alloc | apply Kd.R_drewN | apply Kd.R_drew)); exact HO_113007.out) (by decide)) hk (fun _ h => h.2)) (fun _ h => h.1)); have n1_ := Aside0.mk (KeepBut.blk hk (g' := gb102) (o := .cells #[.int .u64 0, .int .u16 0, .int .i64 0, .int .i64 0, .int .i64 0, .int .i64 0, .int .i64 0, .slice none 0 0] 51 (0, 0)) (by (with_reducible repeat (first | refine blk_drewN ?_ _ | refine blk_drew ?_ | refine blk_alloc ?_ _)); exact BK102.out) NB102_0.out (by simp)); have n2_ := Aside0.mk (KeepBut.blk hk (g' := gb112) (o := .cells #[.int .u64 t103, .int .u16 (IntKind.u16.wrap (wrap64 ((Int.tmod t104 4) * 4096))), .int .i64 ji10, .int .i64 (wrap64 (1 + (Int.tmod t106 2))), .int .i64 ji11, .int .i64 (wrap64 (10 + (Int.tmod t108 20))), .int .i64 (Int.tmod t110 9), u113007] 51 (0, 0)) (by (with_reducible repeat (first | refine blk_drewN ?_ _ | refine blk_drew ?_ | refine blk_alloc ?_ _)); exact BK112.out) NB112_0.out (by simp)); have n3_ := Aside0.mk (KeepBut.trans (by repeat (first | (with_reducible first | exact HK.out | apply KeepBut.set_ | apply keep_drewN | apply keep_drew | apply keep_alloc | refine keep_far ?_ GW102.out _ | refine keep_far ?_ GW112.out _) | exact HK.out)) hk (.inl rfl)); have n4_ := Aside0.mk (hb); have n5_ := Aside0.mk (hi); clear HO_113007; clear BK102; clear BK112; clear HK; clear HB; clear HI0; have HO_113007 := n0_; have BK102 := n1_; have BK112 := n2_; have HK := n3_; have HB := n4_; have HI0 := n5_; clear n0_ n1_ n2_ n3_ n4_ n5_; (try clear hb); (try clear hb2); (try clear hk); (try clear hi); have hnb36 := NB112_102.out; have hnc36 := NB102_112.out; have hnb37 := NB112_0.out; have hnc37 := NB0_112.out; have hcz38_0 : w35.cell? ⟨gb112, 0, none⟩ = some (.int .u64 t103) := (blk_cell BK112.out 0).trans rfl; have hcz38_1 : w35.cell? ⟨gb112, 1, none⟩ = some (.int .u16 (IntKind.u16.wrap (wrap64 ((Int.tmod t104 4) * 4096)))) := (blk_cell BK112.out 1).trans rfl; have hcz38_2 : w35.cell? ⟨gb112, 2, none⟩ = some (.int .i64 ji10) := (blk_cell BK112.out 2).trans rfl; have hcz38_3 : w35.cell? ⟨gb112, 3, none⟩ = some (.int .i64 (wrap64 (1 + (Int.tmod t106 2)))) := (blk_cell BK112.out 3).trans rfl; have hcz38_4 : w35.cell? ⟨gb112, 4, none⟩ = some (.int .i64 ji11) := (blk_cell BK112.out 4).trans rfl; have hcz38_5 : w35.cell? ⟨gb112, 5, none⟩ = some (.int .i64 (wrap64 (10 + (Int.tmod t108 20)))) := (blk_cell BK112.out 5).trans rfl; have hcz38_6 : w35.cell? ⟨gb112, 6, none⟩ = some (.int .i64 (Int.tmod t110 9)) := (blk_cell BK112.out 6).trans rfl; have hcz38_7 : w35.cell? ⟨gb112, 7, none⟩ = some (u113007) := (blk_cell BK112.out 7).trans rfl; have hfz38_0 := blk_frozen BK112.out 0; have hfz38_1 := blk_frozen BK112.out 1; have hfz38_2 := blk_frozen BK112.out 2; have hfz38_3 := blk_frozen BK112.out 3; have hfz38_4 := blk_frozen BK112.out 4; have hfz38_5 := blk_frozen BK112.out 5; have hfz38_6 := blk_frozen BK112.out 6; have hfz38_7 := blk_frozen BK112.out 7))
 go_roundg k1
 case measure => have := HK1.out; omega
 case rel => exact ⟨(wrap64 (x58_1 + 1)), (t120), (y121), (.slice Ao40 y121.length co40), (by first | rfl | (simp; done) | (simp [*]; done)), H', ⟨by have := HK1.out; omega⟩, ⟨by (with_reducible repeat (first | apply Kd.R_alloc | apply Kd.R_drewN | apply Kd.R_drew)); exact Kd.R_mono (Kd.R_far (p := ⟨gb112, 7, none⟩) (Kd.R_types HO123.out BK112.out (by decide)) (fun _ hk => hk.2) (.slice Ao40 y121.length co40)) (fun _ hk => trivial)⟩, ⟨by (with_reducible repeat (first | refine blk_drewN ?_ _ | refine blk_drew ?_ | refine blk_alloc ?_ _)); refine blk_far ?_ NB102_112.out _; (with_reducible repeat (first | refine blk_drewN ?_ _ | refine blk_drew ?_ | refine blk_alloc ?_ _)); exact BK102.out⟩, ⟨by (with_reducible repeat (first | refine blk_drewN ?_ _ | refine blk_drew ?_ | refine blk_alloc ?_ _)); refine blk_put (cs := #[.int .u64 t103, .int .u16 (IntKind.u16.wrap (wrap64 ((Int.tmod t104 4) * 4096))), .int .i64 ji10, .int .i64 (wrap64 (1 + (Int.tmod t106 2))), .int .i64 ji11, .int .i64 (wrap64 (10 + (Int.tmod t108 20))), .int .i64 (Int.tmod t110 9), u113007]) ?_ 7 _ rfl; (with_reducible repeat (first | refine blk_drewN ?_ _ | refine blk_drew ?_ | refine blk_alloc ?_ _)); exact BK112.out⟩, ⟨by repeat (first | (with_reducible first | exact HI0.out | apply IsS54.alloc | apply IsS54.drewN | apply IsS54.drew | apply IsS54.set_1 | refine IsS54.far ?_ NB0_102.out _ | refine IsS54.far ?_ NB0_112.out _) | exact HI0.out)⟩, ⟨by repeat (first | (with_reducible first | exact HK.out | apply KeepBut.set_ | apply keep_drewN | apply keep_drew | apply keep_alloc | refine keep_far ?_ GW102.out _ | refine keep_far ?_ GW112.out _) | exact HK.out)⟩, ⟨by repeat (first | (with_reducible first | exact HB.out | apply below_alloc | apply pw_below_drewN | apply below_drew1 | refine below_set ?_ (IsS54.ge HI0.out) | refine below_set ?_ GE102.out | refine below_set ?_ GE112.out) | exact HB.out)⟩⟩
end Go.Proofs.YtiikllgppmmiaaaDoor.OScriptTells
