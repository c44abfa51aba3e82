/- What Go functions that the law IdsParses uses come to, and why: part 5. Made out of the kit's print by a program of this session (wip/tools/stub.py, splice.py), functions that it does not take told by hand. -/
import Derived.Test.YtahhlbbgjjhncaaOIdsParsesx4
namespace Go.Proofs.Ytahhlbbgjjhncaa.OIdsParses
open Go.RowKit Go.Proofs.YtahhlbbgjjhncaaW.PrintWords Go.Proofs.YtahhlbbgjjhncaaW.PrintLast Go.Proofs.YtahhlbbgjjhncaaW.PrintMore
attribute [local go_sem] max2_int min2_int max_two min_two max_three min_three max_four min_four   -- for this text's walks alone
set_option linter.unusedVariables false
set_option linter.unusedSimpArgs false

/-! ### treelineref01_Text: function 38; my own -/
def hxd (d : Int) : Int := if d < 10 then d + 48 else d + 87
def txT (bs : List Int) : Nat → List Int
  | 0 => []
  | i + 1 => txT bs i ++ (if 0 < i then [58] else []) ++ [hxd (bs.getD i 0 / 16), hxd (bs.getD i 0 % 16)]
theorem txT_length (bs : List Int) : ∀ i, (txT bs i).length ≤ 3 * i
  | 0 => Nat.le_refl _
  | i + 1 => by
    have := txT_length bs i
    simp only [txT, List.length_append, List.length_cons, List.length_nil]
    split <;> simp <;> omega
def bytes6 (a : Int) : List Int := [a / 1099511627776 % 256, a / 4294967296 % 256, a / 16777216 % 256, a / 65536 % 256, a / 256 % 256, a % 256]
theorem bytes6_range (a : Int) : ∀ y ∈ bytes6 a, 0 ≤ y ∧ y < 256 := by
  intro y hy
  simp only [bytes6, List.mem_cons, List.not_mem_nil, or_false] at hy
  rcases hy with rfl | rfl | rfl | rfl | rfl | rfl <;> omega
theorem hex_val {d : Int} (h0 : 0 ≤ d) (h1 : d < 16) : (if 0 ≤ d then (⟨#[48, 49, 50, 51, 52, 53, 54, 55, 56, 57, 97, 98, 99, 100, 101, 102]⟩ : ByteArray)[d.toNat]? else none).map (fun b => (b.toNat : Int)) = some (hxd d) := by
  have key : ∀ n : Fin 16, ((⟨#[48, 49, 50, 51, 52, 53, 54, 55, 56, 57, 97, 98, 99, 100, 101, 102]⟩ : ByteArray)[n.val]?).map (fun b => (b.toNat : Int)) = some (hxd (n.val : Int)) := by decide
  have e : d = ((⟨d.toNat, by omega⟩ : Fin 16).val : Int) := by show d = (d.toNat : Int); omega
  rw [if_pos h0]
  have := key ⟨d.toNat, by omega⟩
  rw [← e] at this
  exact this
theorem run_hex {P : Program} {o : Oper} {a : Act} {W : World} {t : TypeId} {x y : Operand} (ho : o.op = .index t x y) {k : IntKind} {d : Int} (hx : a.eval x = .string (⟨#[48, 49, 50, 51, 52, 53, 54, 55, 56, 57, 97, 98, 99, 100, 101, 102]⟩ : ByteArray)) (hy : a.eval y = .int k d) (ht : P.underlying t = some .string) (h0 : 0 ≤ d) (h1 : d < 16) :
    (execOp a.eval o).run P W = .ok (.value (.int .u8 (hxd d))) W := by
  have h := hex_val h0 h1
  obtain ⟨b, hb, hb2⟩ := Option.map_eq_some_iff.1 h
  unfold execOp
  simp only [ho, hx, hy]
  simp only [Instr.index, asIntOf, Sem.run_bind, run_underlying ht, Sem.run_pure, Result.andThen_ok, hb, hb2]
theorem run_cat {P : Program} {o : Oper} {a : Act} {W : World} {t t2 : TypeId} {x y : Operand} (ho : o.op = .binOp .add t x y t2) {l r : List Int} (hx : a.eval x = .string (strOfNums l)) (hy : a.eval y = .string (strOfNums r)) (hl : l.length + r.length ≤ 1000) :
    (execOp a.eval o).run P W = .ok (.value (.string (strOfNums (l ++ r)))) W := by
  have e : strOfNums l ++ strOfNums r = strOfNums (l ++ r) := by
    apply ByteArray.ext
    simp [strOfNums]
  have hs : ¬ (((strOfNums l).size + (strOfNums r).size : Nat) : Int) > IntKind.i64.max := by
    rw [Ar.size_str, Ar.size_str]
    have : IntKind.i64.max = 9223372036854775807 := by decide
    omega
  unfold execOp
  simp only [ho, hx, hy]
  simp only [eqGuard, binOp, Op.stringOp, if_neg hs, e]
  simp [Sem.run_bind, Result.andThen]
theorem run_quo16 {P : Program} {o : Oper} {a : Act} {W : World} {t t2 : TypeId} {x y : Operand} (ho : o.op = .binOp .quo t x y t2) {n q : Int} (hx : a.eval x = .int .i64 n) (hy : a.eval y = .int .i64 16) (h : n / 16 = q) (h0 : 0 ≤ n) (h1 : n < 256) :
    (execOp a.eval o).run P W = .ok (.value (.int .i64 q)) W := by
  have e : IntKind.i64.wrap (n.tdiv 16) = q := by rw [Int.tdiv_eq_ediv_of_nonneg h0, IntKind.wrap_i64]; omega
  unfold execOp
  simp only [ho, hx, hy]
  simp [eqGuard, binOp, Op.intDiv, Sem.run_bind, Result.andThen, e]
theorem run_rem16 {P : Program} {o : Oper} {a : Act} {W : World} {t t2 : TypeId} {x y : Operand} (ho : o.op = .binOp .rem t x y t2) {n q : Int} (hx : a.eval x = .int .i64 n) (hy : a.eval y = .int .i64 16) (h : n % 16 = q) (h0 : 0 ≤ n) :
    (execOp a.eval o).run P W = .ok (.value (.int .i64 q)) W := by
  have e : n.tmod 16 = q := by rw [Int.tmod_eq_emod_of_nonneg h0]; exact h
  unfold execOp
  simp only [ho, hx, hy]
  simp [eqGuard, binOp, Op.intDiv, Sem.run_bind, Result.andThen, e]
theorem rput_step (k : Nat) (x : Int) (x3 : List Int) (i y : Int) (hy : i - 1 = y) (hx : 0 ≤ x ∧ x < 18446744073709551616) (h0 : 0 ≤ i) (h1 : i < (x3.length : Int)) (hs : x3.length ≤ 1000) :
    treelineref01_Put.l0 (k + 1) x x3 i = treelineref01_Put.l0 k (x / 256) (x3.set i.toNat (x % 256)) y := by
  subst hy
  simp only [treelineref01_Put.l0]
  rw [if_pos h0, if_pos h0, if_pos h1, Ar.tdiv_nn hx.1, Ar.tmod_nn hx.1, Ar.wu64 (by omega) (by omega), Ar.w64 (by omega) (by omega)]
  rw [show x % 256 % 256 = x % 256 from by omega]
theorem rput_eq (k : Nat) (a : Int) (ha : 0 ≤ a ∧ a < 18446744073709551616) : treelineref01_Put.f (k + 7) a = some [a / 1099511627776 % 256, a / 4294967296 % 256, a / 16777216 % 256, a / 65536 % 256, a / 256 % 256, a % 256] := by
  unfold treelineref01_Put.f treelineref01_Least.f
  simp only [Option.bind_some]
  rw [if_pos (by decide), Ar.tmod_nn ha.1]
  obtain ⟨x, hx⟩ : ∃ x, x = a % 281474976710656 := ⟨_, rfl⟩
  have X : 0 ≤ x ∧ x < 281474976710656 := by omega
  rw [← hx]
  rw [rput_step (k + 6) x (List.replicate 6 0) 5 4 (by decide) (by omega) (by decide) (by decide) (by decide)]
  rw [rput_step (k + 5) _ _ 4 3 (by decide) (by omega) (by decide) (by simp) (by simp)]
  rw [rput_step (k + 4) _ _ 3 2 (by decide) (by omega) (by decide) (by simp) (by simp)]
  rw [rput_step (k + 3) _ _ 2 1 (by decide) (by omega) (by decide) (by simp) (by simp)]
  rw [rput_step (k + 2) _ _ 1 0 (by decide) (by omega) (by decide) (by simp) (by simp)]
  rw [rput_step (k + 1) _ _ 0 (-1) (by decide) (by omega) (by decide) (by simp) (by simp)]
  simp [treelineref01_Put.l0, List.replicate]
  refine ⟨?_, ?_, ?_, ?_, ?_, ?_⟩ <;> omega
def treelineref01_Text.f (a0 : Int) : Option ByteArray := if 0 ≤ a0 ∧ a0 < 18446744073709551616 then some (strOfNums (txT (bytes6 a0) 6)) else none
open Go.Proofs.Ytahhlbbgjjhncaa.Sep in
theorem ref_rows2 {F : Nat → Prop} {w0 W : World} {l : List SP} {g : Nat} (x y : Int) (H : Hp F w0 W (blk g #[.int .u8 x, .int .u8 y] 5 :: l)) : Hp F w0 W (row (Kd.int .u8) 5 (.slice (some ⟨g, 0, none⟩) 2 2) [x, y] :: l) :=
  Hp.blk_row (d := Kd.int .u8) (n := 2) [x, y] H (.cons (.here _) (.nil _)) (fun _ _ => ((Reps.none _ _).snoc (p := x) (c := [Value.int .u8 x]) rfl rfl).snoc (p := y) (c := [Value.int .u8 y]) rfl rfl) rfl (by decide)
set_option maxHeartbeats 1000000 in
set_option maxRecDepth 100000 in
open Go.Proofs.Ytahhlbbgjjhncaa.Sep Go.Proofs.Ytahhlbbgjjhncaa.Ar in
theorem treelineref01_Text.calls (a0 : Int) (r : ByteArray) (w : World) (h : treelineref01_Text.f a0 = some r) :
    Calls Try.prog 38 #[.int .u64 a0] w fun e w' => e = .returned (.string r) ∧ Below w.heap.size w w' := by
  unfold treelineref01_Text.f at h
  split at h
  rotate_left
  · cases h
  rename_i ha
  obtain rfl := Option.some.inj h
  clear h
  have H := Hp.nothing w
  have hput := rput_eq 10 a0 ha
  obtain ⟨bs, hbs⟩ : ∃ bs, bytes6 a0 = bs := ⟨_, rfl⟩
  have hrg := bytes6_range a0
  rw [show [a0 / 1099511627776 % 256, a0 / 4294967296 % 256, a0 / 16777216 % 256, a0 / 65536 % 256, a0 / 256 % 256, a0 % 256] = bs from hbs] at hput
  have hlen6 : bs.length = 6 := by rw [← hbs]; rfl
  rw [hbs] at hrg ⊢
  clear hbs ha
  replace hput := Aside0.mk hput
  replace hrg := Aside0.mk hrg
  replace hlen6 := Aside0.mk hlen6
  go_enter Try.func38, Try.ntmps38
  go_wp2_with (first | (go_at_call 42; refine H.call2 (treelineref01_Put.calls 17 a0 bs _ hput.out) ?_; intro v3 w1 H1; obtain ⟨A3, c3, hv3, hc3, HC3⟩ := H1.reads (.here _); rw [hlen6.out] at hv3; subst hv3; obtain ⟨g3, rfl⟩ := H1.form (.here _) (by have := hlen6.out; omega); replace H := H1; clear H1 hc3 HC3))
  replace H := Aside0.mk H
  go_loopw [4, 5] (fun v4 v5 wr => ∃ i : Nat, i ≤ 6 ∧ v5 = .int .i64 (i : Int) ∧ v4 = .string (strOfNums (txT bs i)) ∧ Aside0 (Hp (fun _ => False) w wr [row (Kd.int .u8) 5 (.slice (some ⟨g3, 0, none⟩) 6 c3) bs])) (fun _ v5 _ => 6 - (intOf v5).toNat)
  case atStart => exact ⟨0, Nat.zero_le _, rfl, rfl, H⟩
  case round =>
    obtain ⟨i, hi, rfl, rfl, H⟩ := hrel
    by_cases hlt : i < 6
    · obtain ⟨b, hb⟩ : ∃ b, bs[i]? = some b := ⟨bs[i]'(by have := hlen6.out; omega), List.getElem?_eq_getElem _⟩
      have hbr := hrg.out b (List.mem_of_getElem? hb)
      have b0 := hbr.1
      have b1 := hbr.2
      obtain ⟨q1, hq1⟩ : ∃ q, b / 16 = q := ⟨_, rfl⟩
      obtain ⟨q2, hq2⟩ : ∃ q, b % 16 = q := ⟨_, rfl⟩
      have q10 : 0 ≤ q1 := by omega
      have q11 : q1 < 16 := by omega
      have q20 : 0 ≤ q2 := by omega
      have q21 : q2 < 16 := by omega
      have kb : IntKind.i64.wrap b = b := by rw [IntKind.wrap_i64]; omega
      have kb2 : wrap64 b = b := by unfold wrap64; omega
      have hlen := txT_length bs i
      have hstep : txT bs (i + 1) = txT bs i ++ (if 0 < i then [58] else []) ++ [hxd q1, hxd q2] := by
        rw [txT, List.getD_eq_getElem?_getD, hb, Option.getD_some, hq1, hq2]
      replace hq1 := Aside0.mk hq1
      replace hq2 := Aside0.mk hq2
      replace hlen := Aside0.mk hlen
      have d6 : decide ((i : Int) < 6) = true := decide_eq_true (by omega)
      have e0 : 0 ≤ (i : Int) := by omega
      have e1 : (i : Int) < 6 := by omega
      have e2 : i < 6 := hlt
      clear hbr
      obtain ⟨tx, htx⟩ : ∃ tx, txT bs i = tx := ⟨_, rfl⟩
      rw [htx] at hstep ⊢
      rw [htx] at hlen
      by_cases hz : 0 < i
      · have dz : decide ((0 : Int) < (i : Int)) = true := decide_eq_true (by omega)
        have dz2 : decide (0 < i) = true := decide_eq_true hz
        rw [if_pos hz] at hstep
        replace hstep := Aside0.mk hstep
        go_wp2_with (first | ((with_reducible refine gate_dst (N := 16) rfl ?_); refine Kd.event_run rfl (v := .string (strOfNums (tx ++ [58]))) (w1 := _) (run_cat (r := [58]) rfl rfl rfl (by have := hlen.out; simp; omega)) ?_))
        refine startH H.out (n := 21) [] #[false, false, false, false, false, false, false, false, false, false, false, false, false, false, false, false, false, false, false, false, false] (by kernel_rfl) rfl rfl (fun hHeld => ?_)
        have HD := H.out.drew
        refine pure_ (i := 0) (N := some 17) (v := ?_) (a' := ?_) #[true, false, false, false, false, false, false, false, false, false, false, false, false, false, false, false, false, false, false, false, false] rfl rfl (by kernel_rfl) (fun _ _ _ h => h) (Or.inl ⟨by rfl, ?_⟩) ?_ ?_
        rotate_left
        · intro w'
          go_simp
          with_reducible rfl
        rotate_left
        · simp only [Act.put, List.setIfInBounds_toArray, List.set_cons_zero, List.set_cons_succ, i64_w, i32_w]
          rfl
        refine pure_ (i := 1) (N := some 18) (v := ?_) (a' := ?_) #[true, true, false, false, false, false, false, false, false, false, false, false, false, false, false, false, false, false, false, false, false] rfl rfl (by kernel_rfl) (fun _ _ _ h => h) (Or.inl ⟨by rfl, ?_⟩) ?_ ?_
        rotate_left
        · intro w'
          go_simp
          with_reducible rfl
        rotate_left
        · simp only [Act.put, List.setIfInBounds_toArray, List.set_cons_zero, List.set_cons_succ, i64_w, i32_w]
          rfl
        refine pure_ (i := 2) (N := some 19) (v := ?_) (a' := ?_) #[true, true, true, false, false, false, false, false, false, false, false, false, false, false, false, false, false, false, false, false, false] rfl rfl (by kernel_rfl) (fun _ _ _ h => h) (Or.inl ⟨by rfl, ?_⟩) ?_ ?_
        rotate_left
        · intro w'
          go_simp
          with_reducible rfl
        rotate_left
        · simp only [Act.put, List.setIfInBounds_toArray, List.set_cons_zero, List.set_cons_succ, i64_w, i32_w]
          rfl
        refine pure_ (i := 3) (N := some 20) (v := ?_) (a' := ?_) #[true, true, true, true, false, false, false, false, false, false, false, false, false, false, false, false, false, false, false, false, false] rfl rfl (by kernel_rfl) (fun _ _ _ h => h) (Or.inl ⟨by rfl, ?_⟩) ?_ ?_
        rotate_left
        · intro w'
          go_simp
          with_reducible rfl
        rotate_left
        · simp only [Act.put, List.setIfInBounds_toArray, List.set_cons_zero, List.set_cons_succ, i64_w, i32_w]
          rfl
        refine pure_ (i := 4) (N := some 21) (v := ?_) (a' := ?_) #[true, true, true, true, true, false, false, false, false, false, false, false, false, false, false, false, false, false, false, false, false] rfl rfl (by kernel_rfl) (fun _ _ _ h => h) (Or.inl ⟨by rfl, ?_⟩) ?_ ?_
        rotate_left
        · intro w'
          go_simp
          with_reducible rfl
        rotate_left
        · simp only [Act.put, List.setIfInBounds_toArray, List.set_cons_zero, List.set_cons_succ, i64_w, i32_w]
          rfl
        refine pure_ (i := 9) (N := some 26) (v := ?_) (a' := ?_) #[true, true, true, true, true, false, false, false, false, true, false, false, false, false, false, false, false, false, false, false, false] rfl rfl (by kernel_rfl) (fun _ _ _ h => h) (Or.inl ⟨by rfl, ?_⟩) ?_ ?_
        rotate_left
        · intro w'
          go_simp
          with_reducible rfl
        rotate_left
        · simp only [Act.put, List.setIfInBounds_toArray, List.set_cons_zero, List.set_cons_succ, i64_w, i32_w]
          rfl
        refine pure_ (i := 10) (N := some 27) (v := ?_) (a' := ?_) #[true, true, true, true, true, false, false, false, false, true, true, false, false, false, false, false, false, false, false, false, false] rfl rfl (by kernel_rfl) (fun _ _ _ h => h) (Or.inl ⟨by rfl, ?_⟩) ?_ ?_
        rotate_left
        · intro w'
          go_simp
          with_reducible rfl
        rotate_left
        · simp only [Act.put, List.setIfInBounds_toArray, List.set_cons_zero, List.set_cons_succ, i64_w, i32_w]
          rfl
        refine pure_ (i := 11) (N := some 28) (v := ?_) (a' := ?_) #[true, true, true, true, true, false, false, false, false, true, true, true, false, false, false, false, false, false, false, false, false] rfl rfl (by kernel_rfl) (fun _ _ _ h => h) (Or.inl ⟨by rfl, ?_⟩) ?_ ?_
        rotate_left
        · intro w'
          go_simp
          with_reducible rfl
        rotate_left
        · simp only [Act.put, List.setIfInBounds_toArray, List.set_cons_zero, List.set_cons_succ, i64_w, i32_w]
          rfl
        refine pure_ (i := 12) (N := some 29) (v := ?_) (a' := ?_) #[true, true, true, true, true, false, false, false, false, true, true, true, true, false, false, false, false, false, false, false, false] rfl rfl (by kernel_rfl) (fun _ _ _ h => h) (Or.inl ⟨by rfl, ?_⟩) ?_ ?_
        rotate_left
        · intro w'
          go_simp
          with_reducible rfl
        rotate_left
        · simp only [Act.put, List.setIfInBounds_toArray, List.set_cons_zero, List.set_cons_succ, i64_w, i32_w]
          rfl
        refine take_ (i := 5) (N := some 22) (v := _) (a' := ?_) #[true, true, true, true, true, true, false, false, false, true, true, true, true, false, false, false, false, false, false, false, false] rfl rfl (by kernel_rfl) (fun _ _ _ h => h) (Or.inl ⟨by rfl, fun w2 h => run_loadCell rfl rfl Try.underlying5 rfl (h.rowCell (g := g3) (xs := bs) (.here _) i b hb)⟩) hHeld ?_ ?_
        rotate_left
        · simp only [Act.put, List.setIfInBounds_toArray, List.set_cons_zero, List.set_cons_succ, i64_w, i32_w]
          rfl
        refine pure_ (i := 6) (N := some 23) (v := ?_) (a' := ?_) #[true, true, true, true, true, true, true, false, false, true, true, true, true, false, false, false, false, false, false, false, false] rfl rfl (by kernel_rfl) (fun _ _ _ h => h) (Or.inl ⟨by rfl, ?_⟩) ?_ ?_
        rotate_left
        · intro w'
          go_simp
          with_reducible rfl
        rotate_left
        · simp only [Act.put, List.setIfInBounds_toArray, List.set_cons_zero, List.set_cons_succ, i64_w, i32_w]
          rfl
        refine pure_ (i := 7) (N := some 24) (v := .int .i64 q1) (a' := ?_) #[true, true, true, true, true, true, true, true, false, true, true, true, true, false, false, false, false, false, false, false, false] rfl rfl (by kernel_rfl) (fun _ _ _ h => h) (Or.inl ⟨by rfl, fun _ => run_quo16 rfl rfl rfl hq1.out b0 b1⟩) ?_ ?_
        rotate_left
        · simp only [Act.put, List.setIfInBounds_toArray, List.set_cons_zero, List.set_cons_succ, i64_w, i32_w]
          rfl
        refine pure_ (i := 8) (N := some 25) (v := .int .u8 (hxd q1)) (a' := ?_) #[true, true, true, true, true, true, true, true, true, true, true, true, true, false, false, false, false, false, false, false, false] rfl rfl (by kernel_rfl) (fun _ _ _ h => h) (Or.inl ⟨by rfl, fun _ => run_hex rfl rfl rfl Try.underlying9 q10 q11⟩) ?_ ?_
        rotate_left
        · simp only [Act.put, List.setIfInBounds_toArray, List.set_cons_zero, List.set_cons_succ, i64_w, i32_w]
          rfl
        refine take_ (i := 13) (N := some 30) (v := _) (a' := ?_) #[true, true, true, true, true, true, true, true, true, true, true, true, true, true, false, false, false, false, false, false, false] rfl rfl (by kernel_rfl) (fun _ _ _ h => h) (Or.inl ⟨by rfl, fun w2 h => run_loadCell rfl rfl Try.underlying5 rfl (h.rowCell (g := g3) (xs := bs) (.here _) i b hb)⟩) hHeld ?_ ?_
        rotate_left
        · simp only [Act.put, List.setIfInBounds_toArray, List.set_cons_zero, List.set_cons_succ, i64_w, i32_w]
          rfl
        refine pure_ (i := 14) (N := some 31) (v := ?_) (a' := ?_) #[true, true, true, true, true, true, true, true, true, true, true, true, true, true, true, false, false, false, false, false, false] rfl rfl (by kernel_rfl) (fun _ _ _ h => h) (Or.inl ⟨by rfl, ?_⟩) ?_ ?_
        rotate_left
        · intro w'
          go_simp
          with_reducible rfl
        rotate_left
        · simp only [Act.put, List.setIfInBounds_toArray, List.set_cons_zero, List.set_cons_succ, i64_w, i32_w]
          rfl
        refine pure_ (i := 15) (N := some 32) (v := .int .i64 q2) (a' := ?_) #[true, true, true, true, true, true, true, true, true, true, true, true, true, true, true, true, false, false, false, false, false] rfl rfl (by kernel_rfl) (fun _ _ _ h => h) (Or.inl ⟨by rfl, fun _ => run_rem16 rfl rfl rfl hq2.out b0⟩) ?_ ?_
        rotate_left
        · simp only [Act.put, List.setIfInBounds_toArray, List.set_cons_zero, List.set_cons_succ, i64_w, i32_w]
          rfl
        refine pure_ (i := 16) (N := some 33) (v := .int .u8 (hxd q2)) (a' := ?_) #[true, true, true, true, true, true, true, true, true, true, true, true, true, true, true, true, true, false, false, false, false] rfl rfl (by kernel_rfl) (fun _ _ _ h => h) (Or.inl ⟨by rfl, fun _ => run_hex rfl rfl rfl Try.underlying9 q20 q21⟩) ?_ ?_
        rotate_left
        · simp only [Act.put, List.setIfInBounds_toArray, List.set_cons_zero, List.set_cons_succ, i64_w, i32_w]
          rfl
        refine one_ (i := 17) (N := some 34) #[true, true, true, true, true, true, true, true, true, true, true, true, true, true, true, true, true, true, false, false, false] rfl rfl (by kernel_rfl) (by decide) (fun K hK => ?_)
        refine step_ (by rfl) rfl (HD.lit (cs := #[.int .u8 (hxd q1), .int .u8 (hxd q2)]) (e := 5) (n := 2) (by first | (go_simp; done) | (go_simp; rfl))) ?_
        rintro _ w4 ⟨g4, rfl, H4⟩
        have H5 := ref_rows2 _ _ H4
        refine hK.out _ _ (H5.drop (.cons (.here _) (.nil _))) (fun hHeld => ?_)
        clear hK K
        refine norm_ (a' := ?_) ?_ ?_
        rotate_left
        · show Act.put _ (some 34) _ = _
          simp only [Act.put, List.setIfInBounds_toArray, List.set_cons_zero, List.set_cons_succ, i64_w, i32_w]
          rfl
        refine one_ (i := 18) (N := some 35) #[true, true, true, true, true, true, true, true, true, true, true, true, true, true, true, true, true, true, true, false, false] rfl rfl (by kernel_rfl) (by decide) (fun K hK => ?_)
        refine value_ (v := .string (strOfNums [hxd q1, hxd q2])) (by rfl) rfl (run_str rfl rfl Try.underlying47 Try.underlying5 Try.underlying9 (H5.readsN (xs := [hxd q1, hxd q2]) (.here _))) ?_
        refine hK.out _ _ (H5.drop (.cons (.here _) (.nil _))) (fun hHeld => ?_)
        clear hK K
        refine norm_ (a' := ?_) ?_ ?_
        rotate_left
        · show Act.put _ (some 35) _ = _
          simp only [Act.put, List.setIfInBounds_toArray, List.set_cons_zero, List.set_cons_succ, i64_w, i32_w]
          rfl
        refine pure_ (i := 19) (N := some 36) (v := .string (strOfNums ((tx ++ [58]) ++ [hxd q1, hxd q2]))) (a' := ?_) #[true, true, true, true, true, true, true, true, true, true, true, true, true, true, true, true, true, true, true, true, false] rfl rfl (by kernel_rfl) (fun _ _ _ h => h) (Or.inl ⟨by rfl, fun _ => run_cat rfl rfl rfl (by have := hlen.out; simp; omega)⟩) ?_ ?_
        rotate_left
        · simp only [Act.put, List.setIfInBounds_toArray, List.set_cons_zero, List.set_cons_succ, i64_w, i32_w]
          rfl
        refine pure_ (i := 20) (N := some 4) (v := ?_) (a' := ?_) #[true, true, true, true, true, true, true, true, true, true, true, true, true, true, true, true, true, true, true, true, true] rfl rfl (by kernel_rfl) (fun _ _ _ h => h) (Or.inl ⟨by rfl, ?_⟩) ?_ ?_
        rotate_left
        · intro w'
          go_simp
          with_reducible rfl
        rotate_left
        · simp only [Act.put, List.setIfInBounds_toArray, List.set_cons_zero, List.set_cons_succ, i64_w, i32_w]
          rfl
        refine done_ (by kernel_rfl) ?_
        replace H := Aside0.mk (H5.drop (.cons (.here _) (.nil _)))
        clear hHeld HD H4 H5
        go_wp2_with fail
        go_roundw
        case rel => exact ⟨i + 1, by omega, by go_num, by rw [hstep.out]; simp, H⟩
        case measure => simp [intOf] <;> omega
      · have hz2 : i = 0 := by omega
        subst hz2
        rw [if_neg (by omega), List.append_nil] at hstep
        replace hstep := Aside0.mk hstep
        go_wp2_with fail
        refine startH H.out (n := 21) [] #[false, false, false, false, false, false, false, false, false, false, false, false, false, false, false, false, false, false, false, false, false] (by kernel_rfl) rfl rfl (fun hHeld => ?_)
        have HD := H.out.drew
        refine pure_ (i := 0) (N := some 17) (v := ?_) (a' := ?_) #[true, false, false, false, false, false, false, false, false, false, false, false, false, false, false, false, false, false, false, false, false] rfl rfl (by kernel_rfl) (fun _ _ _ h => h) (Or.inl ⟨by rfl, ?_⟩) ?_ ?_
        rotate_left
        · intro w'
          go_simp
          with_reducible rfl
        rotate_left
        · simp only [Act.put, List.setIfInBounds_toArray, List.set_cons_zero, List.set_cons_succ, i64_w, i32_w]
          rfl
        refine pure_ (i := 1) (N := some 18) (v := ?_) (a' := ?_) #[true, true, false, false, false, false, false, false, false, false, false, false, false, false, false, false, false, false, false, false, false] rfl rfl (by kernel_rfl) (fun _ _ _ h => h) (Or.inl ⟨by rfl, ?_⟩) ?_ ?_
        rotate_left
        · intro w'
          go_simp
          with_reducible rfl
        rotate_left
        · simp only [Act.put, List.setIfInBounds_toArray, List.set_cons_zero, List.set_cons_succ, i64_w, i32_w]
          rfl
        refine pure_ (i := 2) (N := some 19) (v := ?_) (a' := ?_) #[true, true, true, false, false, false, false, false, false, false, false, false, false, false, false, false, false, false, false, false, false] rfl rfl (by kernel_rfl) (fun _ _ _ h => h) (Or.inl ⟨by rfl, ?_⟩) ?_ ?_
        rotate_left
        · intro w'
          go_simp
          with_reducible rfl
        rotate_left
        · simp only [Act.put, List.setIfInBounds_toArray, List.set_cons_zero, List.set_cons_succ, i64_w, i32_w]
          rfl
        refine pure_ (i := 3) (N := some 20) (v := ?_) (a' := ?_) #[true, true, true, true, false, false, false, false, false, false, false, false, false, false, false, false, false, false, false, false, false] rfl rfl (by kernel_rfl) (fun _ _ _ h => h) (Or.inl ⟨by rfl, ?_⟩) ?_ ?_
        rotate_left
        · intro w'
          go_simp
          with_reducible rfl
        rotate_left
        · simp only [Act.put, List.setIfInBounds_toArray, List.set_cons_zero, List.set_cons_succ, i64_w, i32_w]
          rfl
        refine pure_ (i := 4) (N := some 21) (v := ?_) (a' := ?_) #[true, true, true, true, true, false, false, false, false, false, false, false, false, false, false, false, false, false, false, false, false] rfl rfl (by kernel_rfl) (fun _ _ _ h => h) (Or.inl ⟨by rfl, ?_⟩) ?_ ?_
        rotate_left
        · intro w'
          go_simp
          with_reducible rfl
        rotate_left
        · simp only [Act.put, List.setIfInBounds_toArray, List.set_cons_zero, List.set_cons_succ, i64_w, i32_w]
          rfl
        refine pure_ (i := 9) (N := some 26) (v := ?_) (a' := ?_) #[true, true, true, true, true, false, false, false, false, true, false, false, false, false, false, false, false, false, false, false, false] rfl rfl (by kernel_rfl) (fun _ _ _ h => h) (Or.inl ⟨by rfl, ?_⟩) ?_ ?_
        rotate_left
        · intro w'
          go_simp
          with_reducible rfl
        rotate_left
        · simp only [Act.put, List.setIfInBounds_toArray, List.set_cons_zero, List.set_cons_succ, i64_w, i32_w]
          rfl
        refine pure_ (i := 10) (N := some 27) (v := ?_) (a' := ?_) #[true, true, true, true, true, false, false, false, false, true, true, false, false, false, false, false, false, false, false, false, false] rfl rfl (by kernel_rfl) (fun _ _ _ h => h) (Or.inl ⟨by rfl, ?_⟩) ?_ ?_
        rotate_left
        · intro w'
          go_simp
          with_reducible rfl
        rotate_left
        · simp only [Act.put, List.setIfInBounds_toArray, List.set_cons_zero, List.set_cons_succ, i64_w, i32_w]
          rfl
        refine pure_ (i := 11) (N := some 28) (v := ?_) (a' := ?_) #[true, true, true, true, true, false, false, false, false, true, true, true, false, false, false, false, false, false, false, false, false] rfl rfl (by kernel_rfl) (fun _ _ _ h => h) (Or.inl ⟨by rfl, ?_⟩) ?_ ?_
        rotate_left
        · intro w'
          go_simp
          with_reducible rfl
        rotate_left
        · simp only [Act.put, List.setIfInBounds_toArray, List.set_cons_zero, List.set_cons_succ, i64_w, i32_w]
          rfl
        refine pure_ (i := 12) (N := some 29) (v := ?_) (a' := ?_) #[true, true, true, true, true, false, false, false, false, true, true, true, true, false, false, false, false, false, false, false, false] rfl rfl (by kernel_rfl) (fun _ _ _ h => h) (Or.inl ⟨by rfl, ?_⟩) ?_ ?_
        rotate_left
        · intro w'
          go_simp
          with_reducible rfl
        rotate_left
        · simp only [Act.put, List.setIfInBounds_toArray, List.set_cons_zero, List.set_cons_succ, i64_w, i32_w]
          rfl
        refine take_ (i := 5) (N := some 22) (v := _) (a' := ?_) #[true, true, true, true, true, true, false, false, false, true, true, true, true, false, false, false, false, false, false, false, false] rfl rfl (by kernel_rfl) (fun _ _ _ h => h) (Or.inl ⟨by rfl, fun w2 h => run_loadCell rfl rfl Try.underlying5 rfl (h.rowCell (g := g3) (xs := bs) (.here _) 0 b hb)⟩) hHeld ?_ ?_
        rotate_left
        · simp only [Act.put, List.setIfInBounds_toArray, List.set_cons_zero, List.set_cons_succ, i64_w, i32_w]
          rfl
        refine pure_ (i := 6) (N := some 23) (v := ?_) (a' := ?_) #[true, true, true, true, true, true, true, false, false, true, true, true, true, false, false, false, false, false, false, false, false] rfl rfl (by kernel_rfl) (fun _ _ _ h => h) (Or.inl ⟨by rfl, ?_⟩) ?_ ?_
        rotate_left
        · intro w'
          go_simp
          with_reducible rfl
        rotate_left
        · simp only [Act.put, List.setIfInBounds_toArray, List.set_cons_zero, List.set_cons_succ, i64_w, i32_w]
          rfl
        refine pure_ (i := 7) (N := some 24) (v := .int .i64 q1) (a' := ?_) #[true, true, true, true, true, true, true, true, false, true, true, true, true, false, false, false, false, false, false, false, false] rfl rfl (by kernel_rfl) (fun _ _ _ h => h) (Or.inl ⟨by rfl, fun _ => run_quo16 rfl rfl rfl hq1.out b0 b1⟩) ?_ ?_
        rotate_left
        · simp only [Act.put, List.setIfInBounds_toArray, List.set_cons_zero, List.set_cons_succ, i64_w, i32_w]
          rfl
        refine pure_ (i := 8) (N := some 25) (v := .int .u8 (hxd q1)) (a' := ?_) #[true, true, true, true, true, true, true, true, true, true, true, true, true, false, false, false, false, false, false, false, false] rfl rfl (by kernel_rfl) (fun _ _ _ h => h) (Or.inl ⟨by rfl, fun _ => run_hex rfl rfl rfl Try.underlying9 q10 q11⟩) ?_ ?_
        rotate_left
        · simp only [Act.put, List.setIfInBounds_toArray, List.set_cons_zero, List.set_cons_succ, i64_w, i32_w]
          rfl
        refine take_ (i := 13) (N := some 30) (v := _) (a' := ?_) #[true, true, true, true, true, true, true, true, true, true, true, true, true, true, false, false, false, false, false, false, false] rfl rfl (by kernel_rfl) (fun _ _ _ h => h) (Or.inl ⟨by rfl, fun w2 h => run_loadCell rfl rfl Try.underlying5 rfl (h.rowCell (g := g3) (xs := bs) (.here _) 0 b hb)⟩) hHeld ?_ ?_
        rotate_left
        · simp only [Act.put, List.setIfInBounds_toArray, List.set_cons_zero, List.set_cons_succ, i64_w, i32_w]
          rfl
        refine pure_ (i := 14) (N := some 31) (v := ?_) (a' := ?_) #[true, true, true, true, true, true, true, true, true, true, true, true, true, true, true, false, false, false, false, false, false] rfl rfl (by kernel_rfl) (fun _ _ _ h => h) (Or.inl ⟨by rfl, ?_⟩) ?_ ?_
        rotate_left
        · intro w'
          go_simp
          with_reducible rfl
        rotate_left
        · simp only [Act.put, List.setIfInBounds_toArray, List.set_cons_zero, List.set_cons_succ, i64_w, i32_w]
          rfl
        refine pure_ (i := 15) (N := some 32) (v := .int .i64 q2) (a' := ?_) #[true, true, true, true, true, true, true, true, true, true, true, true, true, true, true, true, false, false, false, false, false] rfl rfl (by kernel_rfl) (fun _ _ _ h => h) (Or.inl ⟨by rfl, fun _ => run_rem16 rfl rfl rfl hq2.out b0⟩) ?_ ?_
        rotate_left
        · simp only [Act.put, List.setIfInBounds_toArray, List.set_cons_zero, List.set_cons_succ, i64_w, i32_w]
          rfl
        refine pure_ (i := 16) (N := some 33) (v := .int .u8 (hxd q2)) (a' := ?_) #[true, true, true, true, true, true, true, true, true, true, true, true, true, true, true, true, true, false, false, false, false] rfl rfl (by kernel_rfl) (fun _ _ _ h => h) (Or.inl ⟨by rfl, fun _ => run_hex rfl rfl rfl Try.underlying9 q20 q21⟩) ?_ ?_
        rotate_left
        · simp only [Act.put, List.setIfInBounds_toArray, List.set_cons_zero, List.set_cons_succ, i64_w, i32_w]
          rfl
        refine one_ (i := 17) (N := some 34) #[true, true, true, true, true, true, true, true, true, true, true, true, true, true, true, true, true, true, false, false, false] rfl rfl (by kernel_rfl) (by decide) (fun K hK => ?_)
        refine step_ (by rfl) rfl (HD.lit (cs := #[.int .u8 (hxd q1), .int .u8 (hxd q2)]) (e := 5) (n := 2) (by first | (go_simp; done) | (go_simp; rfl))) ?_
        rintro _ w4 ⟨g4, rfl, H4⟩
        have H5 := ref_rows2 _ _ H4
        refine hK.out _ _ (H5.drop (.cons (.here _) (.nil _))) (fun hHeld => ?_)
        clear hK K
        refine norm_ (a' := ?_) ?_ ?_
        rotate_left
        · show Act.put _ (some 34) _ = _
          simp only [Act.put, List.setIfInBounds_toArray, List.set_cons_zero, List.set_cons_succ, i64_w, i32_w]
          rfl
        refine one_ (i := 18) (N := some 35) #[true, true, true, true, true, true, true, true, true, true, true, true, true, true, true, true, true, true, true, false, false] rfl rfl (by kernel_rfl) (by decide) (fun K hK => ?_)
        refine value_ (v := .string (strOfNums [hxd q1, hxd q2])) (by rfl) rfl (run_str rfl rfl Try.underlying47 Try.underlying5 Try.underlying9 (H5.readsN (xs := [hxd q1, hxd q2]) (.here _))) ?_
        refine hK.out _ _ (H5.drop (.cons (.here _) (.nil _))) (fun hHeld => ?_)
        clear hK K
        refine norm_ (a' := ?_) ?_ ?_
        rotate_left
        · show Act.put _ (some 35) _ = _
          simp only [Act.put, List.setIfInBounds_toArray, List.set_cons_zero, List.set_cons_succ, i64_w, i32_w]
          rfl
        refine pure_ (i := 19) (N := some 36) (v := .string (strOfNums (tx ++ [hxd q1, hxd q2]))) (a' := ?_) #[true, true, true, true, true, true, true, true, true, true, true, true, true, true, true, true, true, true, true, true, false] rfl rfl (by kernel_rfl) (fun _ _ _ h => h) (Or.inl ⟨by rfl, fun _ => run_cat rfl rfl rfl (by have := hlen.out; simp; omega)⟩) ?_ ?_
        rotate_left
        · simp only [Act.put, List.setIfInBounds_toArray, List.set_cons_zero, List.set_cons_succ, i64_w, i32_w]
          rfl
        refine pure_ (i := 20) (N := some 4) (v := ?_) (a' := ?_) #[true, true, true, true, true, true, true, true, true, true, true, true, true, true, true, true, true, true, true, true, true] rfl rfl (by kernel_rfl) (fun _ _ _ h => h) (Or.inl ⟨by rfl, ?_⟩) ?_ ?_
        rotate_left
        · intro w'
          go_simp
          with_reducible rfl
        rotate_left
        · simp only [Act.put, List.setIfInBounds_toArray, List.set_cons_zero, List.set_cons_succ, i64_w, i32_w]
          rfl
        refine done_ (by kernel_rfl) ?_
        replace H := Aside0.mk (H5.drop (.cons (.here _) (.nil _)))
        clear hHeld HD H4 H5
        go_wp2_with fail
        go_roundw
        case rel => exact ⟨0 + 1, by omega, by go_num, by rw [hstep.out], H⟩
        case measure => simp [intOf] <;> omega
    · have hie : i = 6 := by omega
      subst hie
      go_wp2_with fail
      go_ret
      exact ⟨rfl, H.out.below⟩


end Go.Proofs.Ytahhlbbgjjhncaa.OIdsParses
