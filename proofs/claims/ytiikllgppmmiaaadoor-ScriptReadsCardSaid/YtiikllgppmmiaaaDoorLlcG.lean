/- The variable frame.llc as the program lays it; what frame.Wrap comes to. Walked by hand. -/
import Derived.Test.YtiikllgppmmiaaaDoorSep
import Derived.Test.YtiikllgppmmiaaaDoorProg
import Derived.ChangeKeysEq
import Derived.Laws.StructEq
import Derived.Test.YtiikllgppmmiaaaDoorWGuard
namespace Go.Proofs.YtiikllgppmmiaaaDoor.Llc
open Go.RowKit Go.Proofs.YtiikllgppmmiaaaDoorW.PrintWords Go.Proofs.YtiikllgppmmiaaaDoorW.PrintLast Go.Proofs.YtiikllgppmmiaaaDoorW.PrintMore
set_option linter.unusedVariables false
set_option linter.unusedSimpArgs false
open Go.Proofs.YtiikllgppmmiaaaDoor.Sep
theorem run_sliceArr {P : Program} {o : Oper} {a : Act} {W : World} {t e : TypeId} {x : Operand} (ho : o.op = .slice t x none none none) {p : Addr} (hx : a.eval x = .pointer (some p)) (ht : P.underlying t = some (.array 3 e)) (hi : (P.info? e).map (·.size) = some 1) : (execOp a.eval o).run P W = .ok (.value (.slice (some p) 3 3)) W := by
  obtain ⟨ti, hi, hsz⟩ := Option.map_eq_some_iff.1 hi
  unfold execOp
  simp [ho, hx, Instr.sliceAt, Instr.sliceBounds, Instr.sureAddr, Sem.run_bind, run_underlying ht, Result.andThen, run_sizeOf W hi, Addr.add]
def Glob (w : World) : Prop := w.cell? ⟨0, 0, none⟩ = some (.int .u8 66) ∧ w.cell? ⟨0, 1, none⟩ = some (.int .u8 66) ∧ w.cell? ⟨0, 2, none⟩ = some (.int .u8 3)
theorem Glob.below {w w1 : World} (h : Glob w) (hb : Below w.heap.size w w1) : Glob w1 := ⟨pw_cell_below hb h.1, pw_cell_below hb h.2.1, pw_cell_below hb h.2.2⟩
theorem Glob.hp {w w1 : World} {l : List SP} (h : Glob w) (H : Hp (fun _ => False) w w1 l) : Glob w1 := h.below H.below
theorem undArr : Tryd.prog.underlying 76 = some (.array 3 5) := by kernel_rfl
theorem infoB : (Tryd.prog.info? 5).map (·.size) = some 1 := by kernel_rfl
theorem infoBz : (Tryd.prog.info? 5).map (fun i => (i.zero, i.size, i.bytes)) = some (some (.int .u8 0), 1, 1) := by kernel_rfl
theorem infoFr : (Tryd.prog.info? 43).map (·.size) = some 4 := by kernel_rfl
theorem Glob.C {w : World} (h : Glob w) : (Kd.int .u8).C w (some ⟨0, 0, none⟩) 3 [66, 66, 3] := by
  refine ⟨rfl, by decide, fun _ => ⟨_, rfl, fun j p hj => ⟨[.int .u8 p], rfl, rfl, fun q u hu => ?_⟩⟩⟩
  obtain ⟨rfl, rfl⟩ : q = 0 ∧ u = .int .u8 p := by
    match q, hu with
    | 0, hu => simp at hu; exact ⟨rfl, hu.symm⟩
    | q + 1, hu => simp at hu
  have hz : (Kd.int .u8).sz = 1 := rfl
  rw [hz, Nat.mul_one, Nat.add_zero, add_plain]
  match j, hj with
  | 0, hj => simp at hj; subst hj; exact h.1
  | 1, hj => simp at hj; subst hj; exact h.2.1
  | 2, hj => simp at hj; subst hj; exact h.2.2
  | j + 3, hj => simp at hj
/-- What frame.Wrap answers. -/
def wrAns (fr : Int) (L : List Int) (v : Value) (l : List SP) : Prop := ∃ A c, v = .agg #[.int .u64 1652522221568, .int .u64 fr, .int .u16 (L.length : Int), .slice A L.length c] ∧ l = [row (Kd.int .u8) 5 (.slice A L.length c) L] ∧ L.length ≤ c

set_option maxHeartbeats 1000000 in
set_option maxRecDepth 100000 in
theorem Wrap_calls (w : World) (fr : Int) (A : Option Addr) (n c : Nat) (d : List Int) (hG : Glob w) (hd : (Kd.int .u8).C w A n d) (hn : n ≤ 60000) (L : List Int) (hL : [66, 66, 3] ++ d = L) :
    Calls Tryd.prog 33 #[.int .u64 fr, .slice A n c] w (Ret (fun _ => False) w (wrAns fr L)) := by
  have H := Hp.nothing w
  have hl : L.length = 3 + n := by rw [← hL]; simp [hd.1]; omega
  have kw : IntKind.u16.wrap (L.length : Int) = (L.length : Int) := by rw [IntKind.wrap_u16, hl]; omega
  replace hG := Aside0.mk hG
  replace hd := Aside0.mk hd
  replace hn := Aside0.mk hn
  replace hL := Aside0.mk hL
  replace hl := Aside0.mk hl
  go_enter Tryd.func33, Tryd.ntmps33
  go_wp2_with (first | ((with_reducible refine gate_dst (N := 4) rfl ?_); refine ev_ rfl (H.new (cs := #[.int .u64 0, .int .u64 0, .int .u16 0, .slice none 0 0]) (t := 43) (by first | (go_simp; done) | (go_simp; rfl))) ?_; rintro _ w1 ⟨g4, rfl, H1⟩; replace H := H1; clear H1) | ((with_reducible refine gate_store (p := 4) rfl ?_); refine ev_ rfl (H.store 43 (.tmp 4) (.tmp 16) rfl rfl (by repeat (first | exact Pick.here _ | apply Pick.there)) (by first | (go_simp; done) | (go_simp; rfl)) _ rfl infoFr (by simp [Value.oneCell', Value.cells]) (by simp [Value.cells]) rfl) ?_; rintro _ w1 ⟨rfl, H1⟩; (try simp only [putsAt, Value.cells, List.setIfInBounds_toArray, List.set_cons_zero, List.set_cons_succ, List.toList_toArray] at H1); replace H := H1; clear H1) | ((with_reducible refine gate_dst (N := 6) rfl ?_); refine ev_ rfl (H.lit (cs := #[]) (e := 5) (n := 0) (by first | (go_simp; done) | (go_simp; rfl))) ?_; rintro v w1 ⟨g0, rfl, H1⟩; replace H := Hp.blk_row (d := Kd.int .u8) (n := 0) ([] : List Int) H1 (.cons (.here _) (.nil _)) (fun _ _ => Reps.none _ _) rfl (by decide); clear H1) | ((with_reducible refine gate_dst (N := 7) rfl ?_); refine Kd.event_run rfl (v := .slice (some ⟨0, 0, none⟩) 3 3) (w1 := _) (run_sliceArr rfl rfl undArr infoB) ?_) | ((with_reducible refine gate_dst (N := 8) rfl ?_); refine ev_ rfl (H.appendS (.tmp 6) (.tmp 7) 22 (.int .u8 0) 1 rfl rfl (.here _) Tryd.underlying22 infoBz rfl (by decide) rfl (hG.out.hp H.only).C (by decide)) ?_; rintro v6 w6 H6; simp only [List.nil_append] at H6; replace H := H6; clear H6) | ((with_reducible refine gate_dst (N := 10) rfl ?_); refine ev_ rfl (H.appendS (.tmp 8) (.tmp 9) 22 (.int .u8 0) 1 rfl rfl (.here _) Tryd.underlying22 infoBz rfl (by decide) rfl (H.data hd.out) (by have := hn.out; simp; omega)) ?_; rintro v6 w6 H6; rw [hL.out] at H6; obtain ⟨A8, c8, rfl, hc8, HC8⟩ := H6.reads (.here _); replace hc8 := Aside0.mk hc8; clear HC8; replace H := H6; clear H6))
  refine bodyPost_ret (results_cell_row rfl _ _ g4 43 #[.int .u64 1652522221568, .int .u64 fr, .int .u16 (L.length : Int), .slice A8 L.length c8] (0, 0) _ rfl (H.block (by repeat (first | exact Pick.here _ | apply Pick.there))) Tryd.underlying43 rfl (by kernel_rfl)) rfl ⟨_, _, rfl, ⟨_, _, rfl, rfl, hc8.out⟩, H.take (.cons (by repeat (first | exact Pick.here _ | apply Pick.there)) (.nil _))⟩

end Go.Proofs.YtiikllgppmmiaaaDoor.Llc
