/- What the functions of bpdu come to, part 0. Walked by hand. -/
import Derived.Test.YtdmlpcbmmdddbaaWire
import Derived.ChangeKeysEq
namespace Go.Proofs.Ytdmlpcbmmdddbaa.Bpdu
open Go.RowKit Go.Proofs.YtdmlpcbmmdddbaaW.PrintWords Go.Proofs.YtdmlpcbmmdddbaaW.PrintLast Go.Proofs.YtdmlpcbmmdddbaaW.PrintMore
set_option linter.unusedVariables false
set_option linter.unusedSimpArgs false
open Go.Proofs.Ytdmlpcbmmdddbaa.Sep Go.Proofs.Ytdmlpcbmmdddbaa.Wire
theorem info5s : (Try.prog.info? 5).map (·.size) = some 1 := by kernel_rfl
theorem info24s : (Try.prog.info? 24).map (·.size) = some 1 := by kernel_rfl
theorem info48s : (Try.prog.info? 48).map (·.size) = some 11 := by kernel_rfl
theorem und73 : Try.prog.underlying 73 = some (.array 5 24) := by kernel_rfl
theorem run_indexArr {P : Program} {o : Oper} {a : Act} {t e : TypeId} {x y : Operand} (ho : o.op = .index t x y) {cs : Array Value} {k : IntKind} {i len : Nat} {u : Value} (hx : a.eval x = .agg cs) (hy : a.eval y = .int k (i : Int)) (ht : P.underlying t = some (.array len e)) (hi : (P.info? e).map (·.size) = some 1) (hc : P.cellsOf e = 1) (hp : P.plainKey e = true) (hl : i < len) (hu : cs[i]? = some u) (W : World) :
    (execOp a.eval o).run P W = .ok (.value u) W := by
  obtain ⟨ti, hi, -⟩ := Option.map_eq_some_iff.1 hi
  have hpt : (part e cs i).run P W = .ok u W := run_part_plain W hp hu
  unfold execOp
  simp [ho, hx, hy, Instr.index, asIntOf, Sem.run_bind, run_underlying ht, Result.andThen, hl, run_sizeOf W hi, hc, hpt]
/-- A row named by its length. -/
theorem named {F : Nat → Prop} {w0 W : World} {r : List SP} {e : Nat} {v : Value} {xs : List Int} (H : Hp F w0 W (row (Kd.int .u8) e v xs :: r)) (N : Nat) (hN : xs.length = N) :
    ∃ A c, v = .slice A N c ∧ N ≤ c ∧ Hp F w0 W (row (Kd.int .u8) e (.slice A N c) xs :: r) := by
  subst hN
  obtain ⟨A, c, rfl, hc, _⟩ := H.reads (.here _)
  exact ⟨A, c, rfl, hc, H⟩
/-- The flags' byte. -/
def fl (c1 c2 : Bool) : Int := (if c1 then 1 else 0) + (if c2 then 128 else 0)
theorem fl_range (c1 c2 : Bool) : 0 ≤ fl c1 c2 ∧ fl c1 c2 < 256 := by cases c1 <;> cases c2 <;> decide

set_option maxHeartbeats 1000000 in
set_option maxRecDepth 100000 in
theorem Flags_0 (w : World) (t : Bool) (r co br po q1 q2 q3 q4 : Int) :
    Calls Try.prog 41 #[.agg #[.bool t, .bool false, .bool false, .int .u64 r, .int .u32 co, .int .u64 br, .int .u16 po, .int .u16 q1, .int .u16 q2, .int .u16 q3, .int .u16 q4]] w (Ret (fun _ => False) w fun v l => v = .int .u8 (fl false false) ∧ l = []) := by
  have H := Hp.nothing w
  go_enter Try.func41, Try.ntmps41
  go_wp2_with (first | ((with_reducible refine gate_dst (N := 1) rfl ?_); refine ev_ rfl (H.box rfl (by first | (go_simp; done) | (go_simp; rfl)) rfl) ?_; rintro _ w1 ⟨g1, rfl, H1⟩; (try simp only [Value.cells] at H1); replace H := H1; clear H1) | ((with_reducible refine gate_dst (N := 5) rfl ?_); refine Kd.event_run rfl (H.load1 4 (.tmp 4) rfl rfl (by repeat (first | exact Pick.here _ | apply Pick.there)) Try.underlying4 rfl rfl) ?_) | ((with_reducible refine gate_dst (N := 9) rfl ?_); refine Kd.event_run rfl (H.load1 4 (.tmp 8) rfl rfl (by repeat (first | exact Pick.here _ | apply Pick.there)) Try.underlying4 rfl rfl) ?_))
  go_ret
  exact ⟨_, _, rfl, ⟨by first | rfl | decide, rfl⟩, H.only⟩

set_option maxHeartbeats 1000000 in
set_option maxRecDepth 100000 in
theorem Flags_1 (w : World) (t : Bool) (r co br po q1 q2 q3 q4 : Int) :
    Calls Try.prog 41 #[.agg #[.bool t, .bool false, .bool true, .int .u64 r, .int .u32 co, .int .u64 br, .int .u16 po, .int .u16 q1, .int .u16 q2, .int .u16 q3, .int .u16 q4]] w (Ret (fun _ => False) w fun v l => v = .int .u8 (fl false true) ∧ l = []) := by
  have H := Hp.nothing w
  go_enter Try.func41, Try.ntmps41
  go_wp2_with (first | ((with_reducible refine gate_dst (N := 1) rfl ?_); refine ev_ rfl (H.box rfl (by first | (go_simp; done) | (go_simp; rfl)) rfl) ?_; rintro _ w1 ⟨g1, rfl, H1⟩; (try simp only [Value.cells] at H1); replace H := H1; clear H1) | ((with_reducible refine gate_dst (N := 5) rfl ?_); refine Kd.event_run rfl (H.load1 4 (.tmp 4) rfl rfl (by repeat (first | exact Pick.here _ | apply Pick.there)) Try.underlying4 rfl rfl) ?_) | ((with_reducible refine gate_dst (N := 9) rfl ?_); refine Kd.event_run rfl (H.load1 4 (.tmp 8) rfl rfl (by repeat (first | exact Pick.here _ | apply Pick.there)) Try.underlying4 rfl rfl) ?_))
  go_ret
  exact ⟨_, _, rfl, ⟨by first | rfl | decide, rfl⟩, H.only⟩

set_option maxHeartbeats 1000000 in
set_option maxRecDepth 100000 in
theorem Flags_2 (w : World) (t : Bool) (r co br po q1 q2 q3 q4 : Int) :
    Calls Try.prog 41 #[.agg #[.bool t, .bool true, .bool false, .int .u64 r, .int .u32 co, .int .u64 br, .int .u16 po, .int .u16 q1, .int .u16 q2, .int .u16 q3, .int .u16 q4]] w (Ret (fun _ => False) w fun v l => v = .int .u8 (fl true false) ∧ l = []) := by
  have H := Hp.nothing w
  go_enter Try.func41, Try.ntmps41
  go_wp2_with (first | ((with_reducible refine gate_dst (N := 1) rfl ?_); refine ev_ rfl (H.box rfl (by first | (go_simp; done) | (go_simp; rfl)) rfl) ?_; rintro _ w1 ⟨g1, rfl, H1⟩; (try simp only [Value.cells] at H1); replace H := H1; clear H1) | ((with_reducible refine gate_dst (N := 5) rfl ?_); refine Kd.event_run rfl (H.load1 4 (.tmp 4) rfl rfl (by repeat (first | exact Pick.here _ | apply Pick.there)) Try.underlying4 rfl rfl) ?_) | ((with_reducible refine gate_dst (N := 9) rfl ?_); refine Kd.event_run rfl (H.load1 4 (.tmp 8) rfl rfl (by repeat (first | exact Pick.here _ | apply Pick.there)) Try.underlying4 rfl rfl) ?_))
  go_ret
  exact ⟨_, _, rfl, ⟨by first | rfl | decide, rfl⟩, H.only⟩

set_option maxHeartbeats 1000000 in
set_option maxRecDepth 100000 in
theorem Flags_3 (w : World) (t : Bool) (r co br po q1 q2 q3 q4 : Int) :
    Calls Try.prog 41 #[.agg #[.bool t, .bool true, .bool true, .int .u64 r, .int .u32 co, .int .u64 br, .int .u16 po, .int .u16 q1, .int .u16 q2, .int .u16 q3, .int .u16 q4]] w (Ret (fun _ => False) w fun v l => v = .int .u8 (fl true true) ∧ l = []) := by
  have H := Hp.nothing w
  go_enter Try.func41, Try.ntmps41
  go_wp2_with (first | ((with_reducible refine gate_dst (N := 1) rfl ?_); refine ev_ rfl (H.box rfl (by first | (go_simp; done) | (go_simp; rfl)) rfl) ?_; rintro _ w1 ⟨g1, rfl, H1⟩; (try simp only [Value.cells] at H1); replace H := H1; clear H1) | ((with_reducible refine gate_dst (N := 5) rfl ?_); refine Kd.event_run rfl (H.load1 4 (.tmp 4) rfl rfl (by repeat (first | exact Pick.here _ | apply Pick.there)) Try.underlying4 rfl rfl) ?_) | ((with_reducible refine gate_dst (N := 9) rfl ?_); refine Kd.event_run rfl (H.load1 4 (.tmp 8) rfl rfl (by repeat (first | exact Pick.here _ | apply Pick.there)) Try.underlying4 rfl rfl) ?_))
  go_ret
  exact ⟨_, _, rfl, ⟨by first | rfl | decide, rfl⟩, H.only⟩

theorem Flags_calls (w : World) (t c1 c2 : Bool) (r co br po q1 q2 q3 q4 : Int) :
    Calls Try.prog 41 #[.agg #[.bool t, .bool c1, .bool c2, .int .u64 r, .int .u32 co, .int .u64 br, .int .u16 po, .int .u16 q1, .int .u16 q2, .int .u16 q3, .int .u16 q4]] w (Ret (fun _ => False) w fun v l => v = .int .u8 (fl c1 c2) ∧ l = []) := by
  cases c1 <;> cases c2
  · exact Flags_0 w t r co br po q1 q2 q3 q4
  · exact Flags_1 w t r co br po q1 q2 q3 q4
  · exact Flags_2 w t r co br po q1 q2 q3 q4
  · exact Flags_3 w t r co br po q1 q2 q3 q4
/-- The bytes of a message. -/
def qB (po q1 q2 q3 q4 : Int) : Nat → Int
  | 0 => po | 1 => q1 | 2 => q2 | 3 => q3 | _ => q4
def addQ (h : List Int) (f : Nat → Int) : Nat → List Int
  | 0 => h
  | k + 1 => addQ h f k ++ putL (f k) 2
def headB (c1 c2 : Bool) (r co br : Int) : List Int := ((((([] ++ putL 0 3) ++ putL 0 1) ++ putL (fl c1 c2) 1) ++ putL r 8) ++ putL co 4) ++ putL br 8
def tcB : List Int := ([] ++ putL 0 3) ++ putL 128 1
def confB (c1 c2 : Bool) (r co br po q1 q2 q3 q4 : Int) : List Int := addQ (headB c1 c2 r co br) (qB po q1 q2 q3 q4) 5
theorem addQ_length (h : List Int) (f : Nat → Int) : ∀ k, (addQ h f k).length = h.length + 2 * k
  | 0 => by simp [addQ]
  | k + 1 => by rw [addQ, List.length_append, addQ_length h f k, putL_length]; omega
theorem headB_length (c1 c2 : Bool) (r co br : Int) : (headB c1 c2 r co br).length = 25 := by simp [headB, putL_length]
theorem confB_length (c1 c2 : Bool) (r co br po q1 q2 q3 q4 : Int) : (confB c1 c2 r co br po q1 q2 q3 q4).length = 35 := by rw [confB, addQ_length, headB_length]

set_option maxHeartbeats 1000000 in
set_option maxRecDepth 100000 in
theorem BPut_tc (w : World) (c1 c2 : Bool) (r co br po q1 q2 q3 q4 : Int) (r0 : 0 ≤ r ∧ r < 18446744073709551616) (co0 : 0 ≤ co ∧ co < 4294967296) (br0 : 0 ≤ br ∧ br < 18446744073709551616) (po0 : 0 ≤ po ∧ po < 65536) (q10 : 0 ≤ q1 ∧ q1 < 65536) (q20 : 0 ≤ q2 ∧ q2 < 65536) (q30 : 0 ≤ q3 ∧ q3 < 65536) (q40 : 0 ≤ q4 ∧ q4 < 65536) :
    Calls Try.prog 24 #[.agg #[.bool true, .bool c1, .bool c2, .int .u64 r, .int .u32 co, .int .u64 br, .int .u16 po, .int .u16 q1, .int .u16 q2, .int .u16 q3, .int .u16 q4]] w (Ret (fun _ => False) w fun v l => l = [row (Kd.int .u8) 5 v tcB]) := by
  have H := Hp.nothing w
  clear r0 co0 br0 po0 q10 q20 q30 q40
  go_enter Try.func24, Try.ntmps24
  go_wp2_with (first | ((with_reducible refine gate_dst (N := 1) rfl ?_); refine ev_ rfl (H.box rfl (by first | (go_simp; done) | (go_simp; rfl)) rfl) ?_; rintro _ w1 ⟨g1, rfl, H1⟩; (try simp only [Value.cells] at H1); replace H := H1; clear H1) | ((with_reducible refine gate_dst (N := 8) rfl ?_); refine Kd.event_run rfl (H.load1 4 (.tmp 7) rfl rfl (by repeat (first | exact Pick.here _ | apply Pick.there)) Try.underlying4 rfl rfl) ?_) | ((with_reducible refine gate_dst (N := 19) rfl ?_); refine Kd.event_run rfl (H.load1 44 (.tmp 18) rfl rfl (by repeat (first | exact Pick.here _ | apply Pick.there)) Try.underlying44 rfl rfl) ?_) | ((with_reducible refine gate_dst (N := 23) rfl ?_); refine Kd.event_run rfl (H.load1 45 (.tmp 22) rfl rfl (by repeat (first | exact Pick.here _ | apply Pick.there)) Try.underlying45 rfl rfl) ?_) | ((with_reducible refine gate_dst (N := 27) rfl ?_); refine Kd.event_run rfl (H.load1 44 (.tmp 26) rfl rfl (by repeat (first | exact Pick.here _ | apply Pick.there)) Try.underlying44 rfl rfl) ?_) | ((with_reducible refine gate_dst (N := 30) rfl ?_); refine Kd.event_run rfl (H.load1 46 (.tmp 29) rfl rfl (by repeat (first | exact Pick.here _ | apply Pick.there)) Try.underlying46 rfl rfl) ?_) | ((with_reducible refine gate_dst (N := 32) rfl ?_); refine Kd.event_run rfl (H.load1 24 (.tmp 31) rfl rfl (by repeat (first | exact Pick.here _ | apply Pick.there)) Try.underlying24 rfl rfl) ?_) | ((with_reducible refine gate_dst (N := 34) rfl ?_); refine Kd.event_run rfl (H.load1 24 (.tmp 33) rfl rfl (by repeat (first | exact Pick.here _ | apply Pick.there)) Try.underlying24 rfl rfl) ?_) | ((with_reducible refine gate_dst (N := 36) rfl ?_); refine Kd.event_run rfl (H.load1 24 (.tmp 35) rfl rfl (by repeat (first | exact Pick.here _ | apply Pick.there)) Try.underlying24 rfl rfl) ?_) | ((with_reducible refine gate_dst (N := 38) rfl ?_); refine Kd.event_run rfl (H.load1 24 (.tmp 37) rfl rfl (by repeat (first | exact Pick.here _ | apply Pick.there)) Try.underlying24 rfl rfl) ?_) | (go_at_call 40; refine H.call0 (Put_uint8 _ A3 3 c3 _ (H.readsN (.here _)) hc3.out (by omega) 128 (by decide) (by decide) 1 (by decide)) ?_; rintro v l1 w1 rfl H1; obtain ⟨A4, c4, rfl, hc4, H2⟩ := named H1 4 (by simp [putL_length]); replace hc4 := Aside0.mk hc4; replace H := H2; clear H1 H2) | (go_at_call 39; refine H.call0 (Put_uint32 _ none 0 0 _ (Kd.C_nil _ _) (Nat.le_refl _) (by omega) 0 (by decide) (by decide) 3 (by decide)) ?_; rintro v l1 w1 rfl H1; obtain ⟨A3, c3, rfl, hc3, H2⟩ := named H1 3 (by simp [putL_length]); replace hc3 := Aside0.mk hc3; replace H := H2; clear H1 H2))
  go_ret
  exact ⟨_, _, rfl, rfl, H.take (.cons (.here _) (.nil _))⟩

set_option maxHeartbeats 1000000 in
set_option maxRecDepth 100000 in
theorem BPut_conf (w : World) (c1 c2 : Bool) (r co br po q1 q2 q3 q4 : Int) (r0 : 0 ≤ r ∧ r < 18446744073709551616) (co0 : 0 ≤ co ∧ co < 4294967296) (br0 : 0 ≤ br ∧ br < 18446744073709551616) (po0 : 0 ≤ po ∧ po < 65536) (q10 : 0 ≤ q1 ∧ q1 < 65536) (q20 : 0 ≤ q2 ∧ q2 < 65536) (q30 : 0 ≤ q3 ∧ q3 < 65536) (q40 : 0 ≤ q4 ∧ q4 < 65536) :
    Calls Try.prog 24 #[.agg #[.bool false, .bool c1, .bool c2, .int .u64 r, .int .u32 co, .int .u64 br, .int .u16 po, .int .u16 q1, .int .u16 q2, .int .u16 q3, .int .u16 q4]] w (Ret (fun _ => False) w fun v l => l = [row (Kd.int .u8) 5 v (confB c1 c2 r co br po q1 q2 q3 q4)]) := by
  have H := Hp.nothing w
  have f0 := fl_range c1 c2
  go_enter Try.func24, Try.ntmps24
  go_wp2_with (first | ((with_reducible refine gate_dst (N := 1) rfl ?_); refine ev_ rfl (H.box rfl (by first | (go_simp; done) | (go_simp; rfl)) rfl) ?_; rintro _ w1 ⟨g1, rfl, H1⟩; (try simp only [Value.cells] at H1); replace H := H1; clear H1) | ((with_reducible refine gate_dst (N := 8) rfl ?_); refine Kd.event_run rfl (H.load1 4 (.tmp 7) rfl rfl (by repeat (first | exact Pick.here _ | apply Pick.there)) Try.underlying4 rfl rfl) ?_) | ((with_reducible refine gate_dst (N := 14) rfl ?_); refine Kd.event_run rfl (H.loadN 48 (.tmp 1) rfl rfl (by repeat (first | exact Pick.here _ | apply Pick.there)) #[.bool false, .bool c1, .bool c2, .int .u64 r, .int .u32 co, .int .u64 br, .int .u16 po, .int .u16 q1, .int .u16 q2, .int .u16 q3, .int .u16 q4] Try.underlying48 rfl info48s (fun j u hj => by simpa using hj)) ?_) | ((with_reducible refine gate_dst (N := 19) rfl ?_); refine Kd.event_run rfl (H.load1 44 (.tmp 18) rfl rfl (by repeat (first | exact Pick.here _ | apply Pick.there)) Try.underlying44 rfl rfl) ?_) | ((with_reducible refine gate_dst (N := 23) rfl ?_); refine Kd.event_run rfl (H.load1 45 (.tmp 22) rfl rfl (by repeat (first | exact Pick.here _ | apply Pick.there)) Try.underlying45 rfl rfl) ?_) | ((with_reducible refine gate_dst (N := 27) rfl ?_); refine Kd.event_run rfl (H.load1 44 (.tmp 26) rfl rfl (by repeat (first | exact Pick.here _ | apply Pick.there)) Try.underlying44 rfl rfl) ?_) | ((with_reducible refine gate_dst (N := 30) rfl ?_); refine Kd.event_run rfl (H.load1 46 (.tmp 29) rfl rfl (by repeat (first | exact Pick.here _ | apply Pick.there)) Try.underlying46 rfl rfl) ?_) | ((with_reducible refine gate_dst (N := 32) rfl ?_); refine Kd.event_run rfl (H.load1 24 (.tmp 31) rfl rfl (by repeat (first | exact Pick.here _ | apply Pick.there)) Try.underlying24 rfl rfl) ?_) | ((with_reducible refine gate_dst (N := 34) rfl ?_); refine Kd.event_run rfl (H.load1 24 (.tmp 33) rfl rfl (by repeat (first | exact Pick.here _ | apply Pick.there)) Try.underlying24 rfl rfl) ?_) | ((with_reducible refine gate_dst (N := 36) rfl ?_); refine Kd.event_run rfl (H.load1 24 (.tmp 35) rfl rfl (by repeat (first | exact Pick.here _ | apply Pick.there)) Try.underlying24 rfl rfl) ?_) | ((with_reducible refine gate_dst (N := 38) rfl ?_); refine Kd.event_run rfl (H.load1 24 (.tmp 37) rfl rfl (by repeat (first | exact Pick.here _ | apply Pick.there)) Try.underlying24 rfl rfl) ?_) | (go_at_call 41; refine H.call0 (Flags_calls _ false c1 c2 r co br po q1 q2 q3 q4) ?_; rintro v l1 w1 ⟨rfl, rfl⟩ H1; replace H := H1; clear H1) | (go_at_call 42; refine H.call0 (Put_BridgeId _ A17 17 c17 _ (H.readsN (.here _)) hc17.out (by omega) br br0.1 br0.2 8 (by decide)) ?_; rintro v l1 w1 rfl H1; obtain ⟨A25, c25, rfl, hc25, H2⟩ := named H1 25 (by simp [putL_length]); replace hc25 := Aside0.mk hc25; replace H := H2; clear H1 H2) | (go_at_call 39; refine H.call0 (Put_uint32 _ A13 13 c13 _ (H.readsN (.here _)) hc13.out (by omega) co co0.1 co0.2 4 (by decide)) ?_; rintro v l1 w1 rfl H1; obtain ⟨A17, c17, rfl, hc17, H2⟩ := named H1 17 (by simp [putL_length]); replace hc17 := Aside0.mk hc17; replace H := H2; clear H1 H2) | (go_at_call 42; refine H.call0 (Put_BridgeId _ A5 5 c5 _ (H.readsN (.here _)) hc5.out (by omega) r r0.1 r0.2 8 (by decide)) ?_; rintro v l1 w1 rfl H1; obtain ⟨A13, c13, rfl, hc13, H2⟩ := named H1 13 (by simp [putL_length]); replace hc13 := Aside0.mk hc13; replace H := H2; clear H1 H2) | (go_at_call 40; refine H.call0 (Put_uint8 _ A4 4 c4 _ (H.readsN (.here _)) hc4.out (by omega) (fl c1 c2) f0.1 f0.2 1 (by decide)) ?_; rintro v l1 w1 rfl H1; obtain ⟨A5, c5, rfl, hc5, H2⟩ := named H1 5 (by simp [putL_length]); replace hc5 := Aside0.mk hc5; replace H := H2; clear H1 H2) | (go_at_call 40; refine H.call0 (Put_uint8 _ A3 3 c3 _ (H.readsN (.here _)) hc3.out (by omega) 0 (by decide) (by decide) 1 (by decide)) ?_; rintro v l1 w1 rfl H1; obtain ⟨A4, c4, rfl, hc4, H2⟩ := named H1 4 (by simp [putL_length]); replace hc4 := Aside0.mk hc4; replace H := H2; clear H1 H2) | (go_at_call 39; refine H.call0 (Put_uint32 _ none 0 0 _ (Kd.C_nil _ _) (Nat.le_refl _) (by omega) 0 (by decide) (by decide) 3 (by decide)) ?_; rintro v l1 w1 rfl H1; obtain ⟨A3, c3, rfl, hc3, H2⟩ := named H1 3 (by simp [putL_length]); replace hc3 := Aside0.mk hc3; replace H := H2; clear H1 H2))
  go_loopw [3, 40] (fun v3 v40 wr => ∃ (k : Nat) (A : Option Addr) (c : Nat) (xs : List Int), k ≤ 5 ∧ v40 = .int .i64 (k : Int) ∧ v3 = .slice A (25 + 2 * k) c ∧ Aside0 (25 + 2 * k ≤ c) ∧ Aside0 (xs = addQ (headB c1 c2 r co br) (qB po q1 q2 q3 q4) k) ∧ Aside0 (Hp (fun _ => False) w wr [row (Kd.int .u8) 5 (.slice A (25 + 2 * k) c) xs, blk g1 #[.bool false, .bool c1, .bool c2, .int .u64 r, .int .u32 co, .int .u64 br, .int .u16 po, .int .u16 q1, .int .u16 q2, .int .u16 q3, .int .u16 q4] 48])) (fun _ v40 _ => 5 - (intOf v40).toNat)
  case atStart => exact ⟨0, A25, c25, _, by decide, rfl, rfl, hc25, ⟨rfl⟩, ⟨H.take (.cons (.here _) (.cons (by repeat (first | exact Pick.here _ | apply Pick.there)) (.nil _)))⟩⟩
  case round =>
    obtain ⟨k, A, c, xs, hk, rfl, rfl, hc, hxs, H⟩ := hrel
    have hxl : xs.length = 25 + 2 * k := by rw [hxs.out, addQ_length, headB_length]
    replace hxl := Aside0.mk hxl
    have hk2 : k = 0 ∨ k = 1 ∨ k = 2 ∨ k = 3 ∨ k = 4 ∨ k = 5 := by omega
    rcases hk2 with rfl | rfl | rfl | rfl | rfl | rfl
    · skip
      go_wp2_with (first | ((with_reducible refine gate_dst (N := 42) rfl ?_); refine Kd.event_run rfl (run_indexArr (i := 0) (u := .int .u16 po) rfl rfl rfl und73 info24s (by kernel_rfl) (by kernel_rfl) (by decide) rfl _) ?_) | (go_at_call 31; refine H.out.call0 (Put_uint16 _ A 25 c _ (H.out.readsN (.here _)) hc.out (by omega) po po0.1 po0.2 2 (by decide)) ?_; rintro v l1 w1 rfl H1; obtain ⟨A9, c9, rfl, hc9, H2⟩ := named H1 27 (by rw [List.length_append, putL_length, hxl.out]); replace hc9 := Aside0.mk hc9; replace H := H2; clear H1 H2))
      go_roundw
      case rel => exact ⟨1, A9, c9, _, by decide, by go_num, rfl, hc9, ⟨by rw [hxs.out]; rfl⟩, ⟨H.take (.cons (.here _) (.cons (.there _ (.here _)) (.nil _)))⟩⟩
      case measure => simp [intOf]
    · skip
      go_wp2_with (first | ((with_reducible refine gate_dst (N := 42) rfl ?_); refine Kd.event_run rfl (run_indexArr (i := 1) (u := .int .u16 q1) rfl rfl rfl und73 info24s (by kernel_rfl) (by kernel_rfl) (by decide) rfl _) ?_) | (go_at_call 31; refine H.out.call0 (Put_uint16 _ A 27 c _ (H.out.readsN (.here _)) hc.out (by omega) q1 q10.1 q10.2 2 (by decide)) ?_; rintro v l1 w1 rfl H1; obtain ⟨A9, c9, rfl, hc9, H2⟩ := named H1 29 (by rw [List.length_append, putL_length, hxl.out]); replace hc9 := Aside0.mk hc9; replace H := H2; clear H1 H2))
      go_roundw
      case rel => exact ⟨2, A9, c9, _, by decide, by go_num, rfl, hc9, ⟨by rw [hxs.out]; rfl⟩, ⟨H.take (.cons (.here _) (.cons (.there _ (.here _)) (.nil _)))⟩⟩
      case measure => simp [intOf]
    · skip
      go_wp2_with (first | ((with_reducible refine gate_dst (N := 42) rfl ?_); refine Kd.event_run rfl (run_indexArr (i := 2) (u := .int .u16 q2) rfl rfl rfl und73 info24s (by kernel_rfl) (by kernel_rfl) (by decide) rfl _) ?_) | (go_at_call 31; refine H.out.call0 (Put_uint16 _ A 29 c _ (H.out.readsN (.here _)) hc.out (by omega) q2 q20.1 q20.2 2 (by decide)) ?_; rintro v l1 w1 rfl H1; obtain ⟨A9, c9, rfl, hc9, H2⟩ := named H1 31 (by rw [List.length_append, putL_length, hxl.out]); replace hc9 := Aside0.mk hc9; replace H := H2; clear H1 H2))
      go_roundw
      case rel => exact ⟨3, A9, c9, _, by decide, by go_num, rfl, hc9, ⟨by rw [hxs.out]; rfl⟩, ⟨H.take (.cons (.here _) (.cons (.there _ (.here _)) (.nil _)))⟩⟩
      case measure => simp [intOf]
    · skip
      go_wp2_with (first | ((with_reducible refine gate_dst (N := 42) rfl ?_); refine Kd.event_run rfl (run_indexArr (i := 3) (u := .int .u16 q3) rfl rfl rfl und73 info24s (by kernel_rfl) (by kernel_rfl) (by decide) rfl _) ?_) | (go_at_call 31; refine H.out.call0 (Put_uint16 _ A 31 c _ (H.out.readsN (.here _)) hc.out (by omega) q3 q30.1 q30.2 2 (by decide)) ?_; rintro v l1 w1 rfl H1; obtain ⟨A9, c9, rfl, hc9, H2⟩ := named H1 33 (by rw [List.length_append, putL_length, hxl.out]); replace hc9 := Aside0.mk hc9; replace H := H2; clear H1 H2))
      go_roundw
      case rel => exact ⟨4, A9, c9, _, by decide, by go_num, rfl, hc9, ⟨by rw [hxs.out]; rfl⟩, ⟨H.take (.cons (.here _) (.cons (.there _ (.here _)) (.nil _)))⟩⟩
      case measure => simp [intOf]
    · skip
      go_wp2_with (first | ((with_reducible refine gate_dst (N := 42) rfl ?_); refine Kd.event_run rfl (run_indexArr (i := 4) (u := .int .u16 q4) rfl rfl rfl und73 info24s (by kernel_rfl) (by kernel_rfl) (by decide) rfl _) ?_) | (go_at_call 31; refine H.out.call0 (Put_uint16 _ A 33 c _ (H.out.readsN (.here _)) hc.out (by omega) q4 q40.1 q40.2 2 (by decide)) ?_; rintro v l1 w1 rfl H1; obtain ⟨A9, c9, rfl, hc9, H2⟩ := named H1 35 (by rw [List.length_append, putL_length, hxl.out]); replace hc9 := Aside0.mk hc9; replace H := H2; clear H1 H2))
      go_roundw
      case rel => exact ⟨5, A9, c9, _, by decide, by go_num, rfl, hc9, ⟨by rw [hxs.out]; rfl⟩, ⟨H.take (.cons (.here _) (.cons (.there _ (.here _)) (.nil _)))⟩⟩
      case measure => simp [intOf]
    · obtain ⟨rfl⟩ := hxs
      go_wp2_with fail
      go_ret
      exact ⟨_, _, rfl, rfl, H.out.take (.cons (.here _) (.nil _))⟩

set_option maxHeartbeats 1000000 in
set_option maxRecDepth 100000 in
theorem awake_calls (w : World) : Calls Try.prog 23 #[] w (fun e w' => e = .returned (.bool true) ∧ Below w.heap.size w w') := by
  have H := Hp.nothing w
  go_enter Try.func23, Try.ntmps23
  go_wp2_with (first | (go_at_call 24; refine H.call0 (BPut_tc _ false false 0 0 0 0 0 0 0 0 (by decide) (by decide) (by decide) (by decide) (by decide) (by decide) (by decide) (by decide)) ?_; rintro v l1 w1 rfl H1; obtain ⟨A5, c5, rfl, hc5, HC5⟩ := H1.reads (.here _); replace H := H1; clear H1; replace HC5 := Aside0.mk HC5; clear hc5) | ((with_reducible refine gate_dst (N := 3) rfl ?_); refine Kd.event_run rfl (v := .string ⟨#[0, 0, 0, 128]⟩) ((run_str rfl rfl Try.underlying25 Try.underlying5 Try.underlying9 HC5.out).trans (by rw [show strOfNums tcB = ⟨#[0, 0, 0, 128]⟩ from by kernel_rfl])) ?_))
  go_ret
  exact ⟨rfl, H.below⟩

end Go.Proofs.Ytdmlpcbmmdddbaa.Bpdu
