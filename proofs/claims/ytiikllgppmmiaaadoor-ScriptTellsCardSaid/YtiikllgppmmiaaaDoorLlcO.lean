import Derived.Test.YtiikllgppmmiaaaDoorLlcG
namespace Go.Proofs.YtiikllgppmmiaaaDoor.Llc
open Go.RowKit Go.Proofs.YtiikllgppmmiaaaDoorW.PrintWords Go.Proofs.YtiikllgppmmiaaaDoorW.PrintLast Go.Proofs.YtiikllgppmmiaaaDoorW.PrintMore
set_option linter.unusedVariables false
set_option linter.unusedSimpArgs false
open Go.Proofs.YtiikllgppmmiaaaDoor.Sep
theorem run_equalIn_arr3 {P : Program} {W : World} {d : Nat} {t e : TypeId} (ht : P.underlying t = some (.array 3 e)) (he : P.underlying e = some (.int .u8)) (hi : (P.info? e).map (·.size) = some 1) (hp : P.plainKey e = true) (hc : P.cellsOf e = 1) (x0 x1 x2 y0 y1 y2 : Int) :
    (Op.equalIn (d + 2) t (.agg #[.int .u8 x0, .int .u8 x1, .int .u8 x2]) (.agg #[.int .u8 y0, .int .u8 y1, .int .u8 y2])).run P W = .ok (x0 == y0 && (x1 == y1 && x2 == y2)) W := by
  obtain ⟨ti, hi, hsz⟩ := Option.map_eq_some_iff.1 hi
  have hpt : ∀ (cs : Array Value) (i : Nat) (u : Value), cs[i]? = some u → (part e cs i).run P W = .ok u W := fun cs i u hu => run_part_plain W hp hu
  have heq : ∀ a b : Int, (Op.equalIn (d + 1) e (.int .u8 a) (.int .u8 b)).run P W = .ok (a == b) W := by
    intro a b
    simp [Op.equalIn, Sem.run_bind, run_underlying he, Result.andThen]
  rw [Op.equalIn]
  simp only [Sem.run_bind, run_underlying ht, Result.andThen_ok, run_sizeOf W hi, Std.Legacy.Range.forIn_eq_forIn_range', Std.Legacy.Range.size, Nat.sub_zero, Nat.reduceAdd, Nat.reduceSub, Nat.div_one, List.range', List.forIn_cons, List.forIn_nil, Nat.mul_one]
  have q0 : ∀ u0 u1 u2 : Value, (part e #[u0, u1, u2] 0).run P W = .ok u0 W := fun u0 u1 u2 => hpt _ _ _ rfl
  have q1 : ∀ u0 u1 u2 : Value, (part e #[u0, u1, u2] 1).run P W = .ok u1 W := fun u0 u1 u2 => hpt _ _ _ rfl
  have q2 : ∀ u0 u1 u2 : Value, (part e #[u0, u1, u2] 2).run P W = .ok u2 W := fun u0 u1 u2 => hpt _ _ _ rfl
  by_cases h0 : x0 = y0 <;> by_cases h1 : x1 = y1 <;> by_cases h2 : x2 = y2 <;> simp [*, Sem.run_bind, Result.andThen]
theorem run_eqGuardIn_arr3 {P : Program} {W : World} {d : Nat} {t e : TypeId} (ht : P.underlying t = some (.array 3 e)) (he : P.underlying e = some (.int .u8)) (hi : (P.info? e).map (·.size) = some 1) (hp : P.plainKey e = true) (hc : P.cellsOf e = 1) (x0 x1 x2 y0 y1 y2 : Int) :
    (Op.eqGuardIn (d + 2) t (.agg #[.int .u8 x0, .int .u8 x1, .int .u8 x2]) (.agg #[.int .u8 y0, .int .u8 y1, .int .u8 y2])).run P W = .ok false W := by
  obtain ⟨ti, hi, hsz⟩ := Option.map_eq_some_iff.1 hi
  have hpt : ∀ (cs : Array Value) (i : Nat) (u : Value), cs[i]? = some u → (part e cs i).run P W = .ok u W := fun cs i u hu => run_part_plain W hp hu
  have heq : ∀ a b : Int, (Op.eqGuardIn (d + 1) e (.int .u8 a) (.int .u8 b)).run P W = .ok false W := by
    intro a b
    simp [Op.eqGuardIn, Sem.run_bind, run_underlying he, Result.andThen]
  have q0 : ∀ u0 u1 u2 : Value, (part e #[u0, u1, u2] 0).run P W = .ok u0 W := fun u0 u1 u2 => hpt _ _ _ rfl
  have q1 : ∀ u0 u1 u2 : Value, (part e #[u0, u1, u2] 1).run P W = .ok u1 W := fun u0 u1 u2 => hpt _ _ _ rfl
  have q2 : ∀ u0 u1 u2 : Value, (part e #[u0, u1, u2] 2).run P W = .ok u2 W := fun u0 u1 u2 => hpt _ _ _ rfl
  rw [Op.eqGuardIn]
  simp only [Sem.run_bind, run_underlying ht, Result.andThen_ok, run_sizeOf W hi, Std.Legacy.Range.forIn_eq_forIn_range', Std.Legacy.Range.size, Nat.sub_zero, Nat.reduceAdd, Nat.reduceSub, Nat.div_one, List.range', List.forIn_cons, List.forIn_nil, Nat.mul_one]
  simp [*, Sem.run_bind, Result.andThen]
theorem run_neq3 {P : Program} {o : Oper} {a : Act} {W : World} {t t2 e : TypeId} {x y : Operand} (ho : o.op = .binOp .neq t x y t2) {x0 x1 x2 y0 y1 y2 : Int} (hx : a.eval x = .agg #[.int .u8 x0, .int .u8 x1, .int .u8 x2]) (hy : a.eval y = .agg #[.int .u8 y0, .int .u8 y1, .int .u8 y2])
    (ht : P.underlying t = some (.array 3 e)) (he : P.underlying e = some (.int .u8)) (hi : (P.info? e).map (·.size) = some 1) (hp : P.plainKey e = true) (hc : P.cellsOf e = 1) :
    (execOp a.eval o).run P W = .ok (.value (.bool (!(x0 == y0 && (x1 == y1 && x2 == y2))))) W := by
  have h1 := run_equalIn_arr3 (W := W) (d := 9998) ht he hi hp hc x0 x1 x2 y0 y1 y2
  have h2 := run_eqGuardIn_arr3 (W := W) (d := 9998) ht he hi hp hc x0 x1 x2 y0 y1 y2
  unfold execOp
  simp only [ho, hx, hy]
  simp [eqGuard, binOp, Op.equal, Op.maxDepth, Sem.run_bind, Result.andThen, run_underlying ht, h1, h2]
theorem run_toArr {P : Program} {o : Oper} {a : Act} {W : World} {arr e : TypeId} {x : Operand} (ho : o.op = .sliceToArrayPointer arr x) {ad : Addr} {n c : Nat} (hx : a.eval x = .slice (some ad) n c) (ht : P.underlying arr = some (.array 3 e)) (hn : 3 ≤ n) : (execOp a.eval o).run P W = .ok (.value (.pointer (some ad))) W := by
  unfold execOp
  simp only [ho, hx]
  simp [Instr.arrayAt, Sem.run_bind, run_underlying ht, Result.andThen, show ¬ n < 3 by omega]
theorem run_load3 {P : Program} {o : Oper} {a : Act} {W : World} {ty : TypeId} {x : Operand} (ho : o.op = .load ty x) {p : Addr} (hx : a.eval x = .pointer (some p)) {e : TypeId} (hu : P.underlying ty = some (.array 3 e)) (hi : (P.info? ty).map (·.size) = some 3) {u0 u1 u2 : Value}
    (h0 : W.cell? p = some u0) (h1 : W.cell? (p.add 1) = some u1) (h2 : W.cell? (p.add 2) = some u2) : (execOp a.eval o).run P W = .ok (.value (.agg #[u0, u1, u2])) W := by
  have hl : (loadCells p 3).run P W = .ok #[u0, u1, u2] W := run_loadCells_list (P := P) W p [u0, u1, u2] (fun j v hv => by
    match j, hv with
    | 0, hv => injection hv with hv; subst hv; simpa [Addr.add] using h0
    | 1, hv => injection hv with hv; subst hv; exact h1
    | 2, hv => injection hv with hv; subst hv; exact h2
    | j + 3, hv => simp at hv)
  obtain ⟨ti, hi, hsz⟩ := Option.map_eq_some_iff.1 hi
  unfold execOp
  simp [ho, hx, Instr.loadAt, Instr.sureAddr, loadVar, isAgg, Sem.run_bind, run_underlying hu, Result.andThen, run_sizeOf W hi]
  have hc : P.cellsOf ty = 3 := by unfold Program.cellsOf; rw [hi]; simpa using hsz
  rw [hc, hl]
theorem infoArr : (Tryd.prog.info? 76).map (·.size) = some 3 := by kernel_rfl
theorem plainB : Tryd.prog.plainKey 5 = true := by kernel_rfl
theorem cellsB : Tryd.prog.cellsOf 5 = 1 := by kernel_rfl
/-- Is a frame one that bridges tell each other; what it tells. -/
def isB (a q : Int) (d : List Int) : Bool := decide (a = 1652522221568) && (decide (q ≤ 1500) && (d.take 3 == [66, 66, 3]))
def openL (a q : Int) (d : List Int) : List Int := if isB a q d then d.drop 3 else []
/-- What frame.Open answers. -/
def opAns (a q : Int) (d : List Int) (v : Value) (l : List SP) : Prop := ∃ bv, v = .tuple #[bv, .bool (isB a q d)] ∧ l = [row (Kd.int .u8) 5 bv (openL a q d)]
set_option maxHeartbeats 1000000 in
set_option maxRecDepth 100000 in
theorem Open_yes (w : World) (a b q : Int) (A : Option Addr) (n c : Nat) (d : List Int) (hG : Glob w) (hd : (Kd.int .u8).C w A n d) (hc : n ≤ c) (hn : n ≤ 100000) (ha : a = 1652522221568) (hq : q ≤ 1500) (h3 : 3 ≤ n) (hb : (d.take 3 == [66, 66, 3]) = true) :
    Calls Tryd.prog 15 #[.agg #[.int .u64 a, .int .u64 b, .int .u16 q, .slice A n c]] w (Ret (fun _ => False) w (opAns a q d)) := by
  have H := Hp.nothing w
  have hl : d.length = n := hd.1
  have hb2 : isB a q d = true := by unfold isB; rw [hb, decide_eq_true ha, decide_eq_true hq]; rfl
  rw [show opAns a q d = fun v l => ∃ bv, v = .tuple #[bv, .bool true] ∧ l = [row (Kd.int .u8) 5 bv (d.drop 3)] from by unfold opAns openL; rw [hb2]; rfl]
  clear hb2
  subst ha
  have e1 : decide (1500 < q) = false := decide_eq_false (by omega)
  have e2 : decide (n < 3) = false := decide_eq_false (by omega)
  have e3 : decide ((n : Int) < 3) = false := decide_eq_false (by omega)
  obtain ⟨ad, rfl⟩ := C_some hd (by omega)
  obtain ⟨x0, x1, x2, r, rfl⟩ : ∃ x0 x1 x2 r, d = x0 :: x1 :: x2 :: r := by
    match d, hl with
    | x0 :: x1 :: x2 :: r, _ => exact ⟨x0, x1, x2, r, rfl⟩
    | [], h => simp at h; omega
    | [_], h => simp at h; omega
    | [_, _], h => simp at h; omega
  replace hd := Aside0.mk hd
  replace h3 := Aside0.mk h3
  clear hq
  have hB : (!(x0 == 66 && (x1 == 66 && x2 == 3))) = false := by
    rw [Bool.not_eq_false']
    refine Eq.trans ?_ hb
    simp
  clear hb
  replace hB := Aside0.mk hB
  replace hG := Aside0.mk hG
  replace hc := Aside0.mk hc
  replace hn := Aside0.mk hn
  replace hl := Aside0.mk hl
  go_enter Tryd.func15, Tryd.ntmps15
  go_wp2_with (first | ((with_reducible refine gate_dst (N := 1) rfl ?_); refine ev_ rfl (H.box rfl (by first | (go_simp; done) | (go_simp; rfl)) rfl) ?_; rintro _ w1 ⟨g1, rfl, H1⟩; (try simp only [Value.cells] at H1); replace H := H1; clear H1))
  refine startH H (n := 23) [] #[false, false, false, false, false, false, false, false, false, false, false, false, false, false, false, false, false, false, false, false, false, false, false] (by kernel_rfl) rfl rfl (fun hHeld => ?_)
  have HD := H.drew
  refine pure_ (i := 0) (N := some 4) (v := ?_) (a' := ?_) #[true, false, false, false, false, false, false, false, false, false, false, false, false, false, false, false, false, false, false, false, false, false, false] rfl rfl (by kernel_rfl) (fun _ _ _ h => h) (Or.inl ⟨by rfl, ?_⟩) ?_ ?_
  rotate_left
  · intro w'
    go_simp
    with_reducible rfl
  rotate_left
  · simp only [Act.put, List.setIfInBounds_toArray, List.set_cons_zero, List.set_cons_succ, i64_w, i32_w]
    rfl
  refine take_ (i := 1) (N := some 5) (v := _) (a' := ?_) #[true, true, false, false, false, false, false, false, false, false, false, false, false, false, false, false, false, false, false, false, false, false, false] rfl rfl (by kernel_rfl) (fun _ _ _ h => h) (Or.inl ⟨by rfl, fun w2 h => h.load1 37 (.tmp 4) rfl rfl (by repeat (first | exact Pick.here _ | apply Pick.there)) Tryd.underlying37 rfl rfl⟩) hHeld ?_ ?_
  rotate_left
  · simp only [Act.put, List.setIfInBounds_toArray, List.set_cons_zero, List.set_cons_succ, i64_w, i32_w]
    rfl
  refine pure_ (i := 2) (N := some 6) (v := ?_) (a' := ?_) #[true, true, true, false, false, false, false, false, false, false, false, false, false, false, false, false, false, false, false, false, false, false, false] rfl rfl (by kernel_rfl) (fun _ _ _ h => h) (Or.inl ⟨by rfl, ?_⟩) ?_ ?_
  rotate_left
  · intro w'
    go_simp
    with_reducible rfl
  rotate_left
  · simp only [Act.put, List.setIfInBounds_toArray, List.set_cons_zero, List.set_cons_succ, i64_w, i32_w]
    rfl
  refine pure_ (i := 3) (N := some 7) (v := ?_) (a' := ?_) #[true, true, true, true, false, false, false, false, false, false, false, false, false, false, false, false, false, false, false, false, false, false, false] rfl rfl (by kernel_rfl) (fun _ _ _ h => h) (Or.inl ⟨by rfl, ?_⟩) ?_ ?_
  rotate_left
  · intro w'
    go_simp
    with_reducible rfl
  rotate_left
  · simp only [Act.put, List.setIfInBounds_toArray, List.set_cons_zero, List.set_cons_succ, i64_w, i32_w]
    rfl
  refine pure_ (i := 4) (N := some 8) (v := ?_) (a' := ?_) #[true, true, true, true, true, false, false, false, false, false, false, false, false, false, false, false, false, false, false, false, false, false, false] rfl rfl (by kernel_rfl) (fun _ _ _ h => h) (Or.inl ⟨by rfl, ?_⟩) ?_ ?_
  rotate_left
  · intro w'
    go_simp
    with_reducible rfl
  rotate_left
  · simp only [Act.put, List.setIfInBounds_toArray, List.set_cons_zero, List.set_cons_succ, i64_w, i32_w]
    rfl
  refine take_ (i := 5) (N := some 9) (v := _) (a' := ?_) #[true, true, true, true, true, true, false, false, false, false, false, false, false, false, false, false, false, false, false, false, false, false, false] rfl rfl (by kernel_rfl) (fun _ _ _ h => h) (Or.inl ⟨by rfl, fun w2 h => h.load1 41 (.tmp 8) rfl rfl (by repeat (first | exact Pick.here _ | apply Pick.there)) Tryd.underlying41 rfl rfl⟩) hHeld ?_ ?_
  rotate_left
  · simp only [Act.put, List.setIfInBounds_toArray, List.set_cons_zero, List.set_cons_succ, i64_w, i32_w]
    rfl
  refine pure_ (i := 6) (N := some 10) (v := ?_) (a' := ?_) #[true, true, true, true, true, true, true, false, false, false, false, false, false, false, false, false, false, false, false, false, false, false, false] rfl rfl (by kernel_rfl) (fun _ _ _ h => h) (Or.inl ⟨by rfl, ?_⟩) ?_ ?_
  rotate_left
  · intro w'
    go_simp
    with_reducible rfl
  rotate_left
  · simp only [Act.put, List.setIfInBounds_toArray, List.set_cons_zero, List.set_cons_succ, i64_w, i32_w]
    rfl
  refine pure_ (i := 7) (N := some 11) (v := ?_) (a' := ?_) #[true, true, true, true, true, true, true, true, false, false, false, false, false, false, false, false, false, false, false, false, false, false, false] rfl rfl (by kernel_rfl) (fun _ _ _ h => h) (Or.inl ⟨by rfl, ?_⟩) ?_ ?_
  rotate_left
  · intro w'
    go_simp
    with_reducible rfl
  rotate_left
  · simp only [Act.put, List.setIfInBounds_toArray, List.set_cons_zero, List.set_cons_succ, i64_w, i32_w]
    rfl
  refine pure_ (i := 8) (N := some 12) (v := ?_) (a' := ?_) #[true, true, true, true, true, true, true, true, true, false, false, false, false, false, false, false, false, false, false, false, false, false, false] rfl rfl (by kernel_rfl) (fun _ _ _ h => h) (Or.inl ⟨by rfl, ?_⟩) ?_ ?_
  rotate_left
  · intro w'
    go_simp
    with_reducible rfl
  rotate_left
  · simp only [Act.put, List.setIfInBounds_toArray, List.set_cons_zero, List.set_cons_succ, i64_w, i32_w]
    rfl
  refine pure_ (i := 9) (N := some 13) (v := ?_) (a' := ?_) #[true, true, true, true, true, true, true, true, true, true, false, false, false, false, false, false, false, false, false, false, false, false, false] rfl rfl (by kernel_rfl) (fun _ _ _ h => h) (Or.inl ⟨by rfl, ?_⟩) ?_ ?_
  rotate_left
  · intro w'
    go_simp
    with_reducible rfl
  rotate_left
  · simp only [Act.put, List.setIfInBounds_toArray, List.set_cons_zero, List.set_cons_succ, i64_w, i32_w]
    rfl
  refine take_ (i := 10) (N := some 14) (v := _) (a' := ?_) #[true, true, true, true, true, true, true, true, true, true, true, false, false, false, false, false, false, false, false, false, false, false, false] rfl rfl (by kernel_rfl) (fun _ _ _ h => h) (Or.inl ⟨by rfl, fun w2 h => h.load1 22 (.tmp 13) rfl rfl (by repeat (first | exact Pick.here _ | apply Pick.there)) Tryd.underlying22 rfl rfl⟩) hHeld ?_ ?_
  rotate_left
  · simp only [Act.put, List.setIfInBounds_toArray, List.set_cons_zero, List.set_cons_succ, i64_w, i32_w]
    rfl
  refine pure_ (i := 11) (N := some 15) (v := ?_) (a' := ?_) #[true, true, true, true, true, true, true, true, true, true, true, true, false, false, false, false, false, false, false, false, false, false, false] rfl rfl (by kernel_rfl) (fun _ _ _ h => h) (Or.inl ⟨by rfl, ?_⟩) ?_ ?_
  rotate_left
  · intro w'
    go_simp
    with_reducible rfl
  rotate_left
  · simp only [Act.put, List.setIfInBounds_toArray, List.set_cons_zero, List.set_cons_succ, i64_w, i32_w]
    rfl
  refine pure_ (i := 12) (N := some 16) (v := ?_) (a' := ?_) #[true, true, true, true, true, true, true, true, true, true, true, true, true, false, false, false, false, false, false, false, false, false, false] rfl rfl (by kernel_rfl) (fun _ _ _ h => h) (Or.inl ⟨by rfl, ?_⟩) ?_ ?_
  rotate_left
  · intro w'
    go_simp
    with_reducible rfl
  rotate_left
  · simp only [Act.put, List.setIfInBounds_toArray, List.set_cons_zero, List.set_cons_succ, i64_w, i32_w]
    rfl
  refine pure_ (i := 13) (N := some 17) (v := ?_) (a' := ?_) #[true, true, true, true, true, true, true, true, true, true, true, true, true, true, false, false, false, false, false, false, false, false, false] rfl rfl (by kernel_rfl) (fun _ _ _ h => h) (Or.inl ⟨by rfl, ?_⟩) ?_ ?_
  rotate_left
  · intro w'
    go_simp
    with_reducible rfl
  rotate_left
  · simp only [Act.put, List.setIfInBounds_toArray, List.set_cons_zero, List.set_cons_succ, i64_w, i32_w]
    rfl
  refine pure_ (i := 14) (N := some 18) (v := ?_) (a' := ?_) #[true, true, true, true, true, true, true, true, true, true, true, true, true, true, true, false, false, false, false, false, false, false, false] rfl rfl (by kernel_rfl) (fun _ _ _ h => h) (Or.inl ⟨by rfl, ?_⟩) ?_ ?_
  rotate_left
  · intro w'
    go_simp
    with_reducible rfl
  rotate_left
  · simp only [Act.put, List.setIfInBounds_toArray, List.set_cons_zero, List.set_cons_succ, i64_w, i32_w]
    rfl
  refine pure_ (i := 15) (N := some 19) (v := ?_) (a' := ?_) #[true, true, true, true, true, true, true, true, true, true, true, true, true, true, true, true, false, false, false, false, false, false, false] rfl rfl (by kernel_rfl) (fun _ _ _ h => h) (Or.inl ⟨by rfl, ?_⟩) ?_ ?_
  rotate_left
  · intro w'
    go_simp
    with_reducible rfl
  rotate_left
  · simp only [Act.put, List.setIfInBounds_toArray, List.set_cons_zero, List.set_cons_succ, i64_w, i32_w]
    rfl
  refine take_ (i := 16) (N := some 20) (v := _) (a' := ?_) #[true, true, true, true, true, true, true, true, true, true, true, true, true, true, true, true, true, false, false, false, false, false, false] rfl rfl (by kernel_rfl) (fun _ _ _ h => h) (Or.inl ⟨by rfl, fun w2 h => h.load1 22 (.tmp 19) rfl rfl (by repeat (first | exact Pick.here _ | apply Pick.there)) Tryd.underlying22 rfl rfl⟩) hHeld ?_ ?_
  rotate_left
  · simp only [Act.put, List.setIfInBounds_toArray, List.set_cons_zero, List.set_cons_succ, i64_w, i32_w]
    rfl
  refine pure_ (i := 17) (N := some 21) (v := .slice (some ad) 3 c) (a' := ?_) #[true, true, true, true, true, true, true, true, true, true, true, true, true, true, true, true, true, true, false, false, false, false, false] rfl rfl (by kernel_rfl) (fun _ _ _ h => h) (Or.inl ⟨by rfl, run_cut3 (t := 22) (e := 5) (j := 3) rfl rfl rfl Tryd.underlying22 infoB (by have := h3.out; omega) hc.out⟩) ?_ ?_
  rotate_left
  · simp only [Act.put, List.setIfInBounds_toArray, List.set_cons_zero, List.set_cons_succ, i64_w, i32_w]
    rfl
  refine pure_ (i := 18) (N := some 22) (v := .pointer (some ad)) (a' := ?_) #[true, true, true, true, true, true, true, true, true, true, true, true, true, true, true, true, true, true, true, false, false, false, false] rfl rfl (by kernel_rfl) (fun _ _ _ h => h) (Or.inl ⟨by rfl, fun _ => run_toArr (e := 5) rfl rfl undArr (Nat.le_refl _)⟩) ?_ ?_
  rotate_left
  · simp only [Act.put, List.setIfInBounds_toArray, List.set_cons_zero, List.set_cons_succ, i64_w, i32_w]
    rfl
  refine take_ (i := 19) (N := some 23) (v := _) (a' := ?_) #[true, true, true, true, true, true, true, true, true, true, true, true, true, true, true, true, true, true, true, true, false, false, false] rfl rfl (by kernel_rfl) (fun _ _ _ h => h) (Or.inl ⟨by rfl, fun w2 h => run_load3 rfl rfl undArr infoArr (by have := C_cell (h.data hd.out) 0 x0 rfl; rwa [show ad.add 0 = ad by simp [Addr.add]] at this) (C_cell (h.data hd.out) 1 x1 rfl) (C_cell (h.data hd.out) 2 x2 rfl)⟩) hHeld ?_ ?_
  rotate_left
  · simp only [Act.put, List.setIfInBounds_toArray, List.set_cons_zero, List.set_cons_succ, i64_w, i32_w]
    rfl
  refine take_ (i := 20) (N := some 24) (v := _) (a' := ?_) #[true, true, true, true, true, true, true, true, true, true, true, true, true, true, true, true, true, true, true, true, true, false, false] rfl rfl (by kernel_rfl) (fun _ _ _ h => h) (Or.inl ⟨by rfl, fun w2 h => run_load3 rfl rfl undArr infoArr (hG.out.hp h).1 (hG.out.hp h).2.1 (hG.out.hp h).2.2⟩) hHeld ?_ ?_
  rotate_left
  · simp only [Act.put, List.setIfInBounds_toArray, List.set_cons_zero, List.set_cons_succ, i64_w, i32_w]
    rfl
  refine pure_ (i := 21) (N := some 25) (v := .bool false) (a' := ?_) #[true, true, true, true, true, true, true, true, true, true, true, true, true, true, true, true, true, true, true, true, true, true, false] rfl rfl (by kernel_rfl) (fun _ _ _ h => h) (Or.inl ⟨by rfl, fun _ => (run_neq3 rfl rfl rfl undArr Tryd.underlying5 infoB plainB cellsB).trans (by rw [hB.out])⟩) ?_ ?_
  rotate_left
  · simp only [Act.put, List.setIfInBounds_toArray, List.set_cons_zero, List.set_cons_succ, i64_w, i32_w]
    rfl
  refine pure_ (i := 22) (N := some 26) (v := ?_) (a' := ?_) #[true, true, true, true, true, true, true, true, true, true, true, true, true, true, true, true, true, true, true, true, true, true, true] rfl rfl (by kernel_rfl) (fun _ _ _ h => h) (Or.inl ⟨by rfl, ?_⟩) ?_ ?_
  rotate_left
  · intro w'
    go_simp
    with_reducible rfl
  rotate_left
  · simp only [Act.put, List.setIfInBounds_toArray, List.set_cons_zero, List.set_cons_succ, i64_w, i32_w]
    rfl
  refine done_ (by kernel_rfl) ?_
  replace H := hHeld
  clear hHeld HD
  go_wp2_with (first | ((with_reducible refine gate_dst (N := 29) rfl ?_); refine Kd.event_run rfl (H.load1 22 (.tmp 28) rfl rfl (by repeat (first | exact Pick.here _ | apply Pick.there)) Tryd.underlying22 rfl rfl) ?_) | ((with_reducible refine gate_dst (N := 27) rfl ?_); refine ev_ rfl (H.lit (cs := #[]) (e := 5) (n := 0) (by first | (go_simp; done) | (go_simp; rfl))) ?_; rintro v w1 ⟨g0, rfl, H1⟩; replace H := Hp.blk_row (d := Kd.int .u8) (n := 0) ([] : List Int) H1 (.cons (.here _) (.nil _)) (fun _ _ => Reps.none _ _) rfl (by decide); clear H1) | ((with_reducible refine gate_dst (N := 30) rfl ?_); refine Kd.event_run rfl (v := .slice (cutA (some ad) c 3) (n - 3) (c - 3)) (w1 := _) (run_cut (t := 22) (e := 5) (j := 3) rfl rfl rfl Tryd.underlying22 infoB (by have := h3.out; omega) _) ?_) | ((with_reducible refine gate_dst (N := 31) rfl ?_); refine ev_ rfl (H.appendS (.tmp 27) (.tmp 30) 22 (.int .u8 0) 1 rfl rfl (.here _) Tryd.underlying22 infoBz rfl (by decide) rfl (H.data (C_cutS hd.out 3 (by have := h3.out; omega) hc.out)) (by have := hn.out; simp; omega)) ?_; rintro v6 w6 H6; simp only [List.nil_append] at H6; replace H := H6; clear H6))
  go_ret2
  exact ⟨_, _, rfl, ⟨_, rfl, rfl⟩, H.take (.cons (.here _) (.nil _))⟩
end Go.Proofs.YtiikllgppmmiaaaDoor.Llc
