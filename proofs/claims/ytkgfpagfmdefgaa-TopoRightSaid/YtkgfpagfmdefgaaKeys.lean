/- A map[uint64]bool that a function makes for itself, told as the list of its keys that are true: what a walk knows of it, what a look-up and a store do. Written by hand. -/
import Derived.Test.YtkgfpagfmdefgaaWWords
import Derived.Test.YtkgfpagfmdefgaaProg
import Derived.Maps.OwnSet
import Derived.RowKit
import Derived.KernelRfl
namespace Go.Proofs.Ytkgfpagfmdefgaa.Mk
open Go.RowKit Go.Maps Go.Proofs.YtkgfpagfmdefgaaW.PrintWords
set_option linter.unusedVariables false
theorem und56 : Try.prog.underlying 56 = some (.map 44 4) := Try.underlying56
theorem keyed44 : Maps.Keyed Try.prog 44 := Maps.int_keyed Try.underlying44
/-- Block b is a map that reads true at just the keys xs. -/
def Holds (w : World) (b : Nat) (xs : List Int) : Prop :=
  ∃ D : DataW Unit, w.ownsMap Try.prog 44 (plainElem Try.prog 4) b xs.length D ∧ ∀ x : Int, (Lit.int .u64 x).wf = true → D.atKey (.int .u64 x) (.lit (.bool false)) = .lit (.bool (decide (x ∈ xs)))
theorem Holds.move {w w1 : World} {b : Nat} {xs : List Int} (h : Holds w b xs) (hb : w1.heap[b]? = w.heap[b]?) : Holds w1 b xs := by
  obtain ⟨D, ⟨es, clock, he, r⟩, hk⟩ := h
  exact ⟨D, ⟨es, clock, hb.trans he, r⟩, hk⟩
theorem Holds.lt {w : World} {b : Nat} {xs : List Int} (h : Holds w b xs) : b < w.heap.size := by
  obtain ⟨D, h, _⟩ := h
  exact h.lt
/-- Is a key there? -/
def mem (k : Int) (xs : List Int) : Bool := decide (k ∈ xs)
/-- The block a map's value names. -/
def blkOf : Value → Option Nat
  | .map b => b
  | _ => none
/-- A map of one's own: as a row of one's own is told (its first two arguments say nothing). -/
def R (_ : Kd Int) (_ : Nat) (w : World) (base : Nat) (ok : Nat → Prop) (v : Value) (xs : List Int) : Prop := ∃ b, v = .map (some b) ∧ base ≤ b ∧ ok b ∧ Holds w b xs
section
variable {d : Kd Int} {e base : Nat} {w w1 : World} {ok ok' : Nat → Prop} {v : Value} {xs : List Int}
theorem R_map (h : R d e w base ok v xs) : ∃ b, v = .map (some b) := by
  obtain ⟨b, hb, _⟩ := h
  exact ⟨b, hb⟩
theorem R_step (h : R d e w base ok v xs) (hs : ∀ k, ok k → k < w.heap.size → w1.heap[k]? = w.heap[k]?) : R d e w1 base ok v xs := by
  obtain ⟨b, hb, h1, h2, h3⟩ := h
  exact ⟨b, hb, h1, h2, h3.move (hs b h2 h3.lt)⟩
theorem R_below (h : R d e w base ok v xs) (hb : Below w.heap.size w w1) : R d e w1 base ok v xs := R_step h fun k _ hk => hb.block k hk
theorem R_alloc (h : R d e w base ok v xs) (o : Obj) : R d e (w.alloc o) base ok v xs := R_below h (below_alloc (Below.refl _ _) o)
theorem R_drew (h : R d e w base ok v xs) : R d e w.drew base ok v xs := R_below h (below_drew (Below.refl _ _))
theorem R_drewN (h : R d e w base ok v xs) (m : Nat) : R d e (w.drewN m) base ok v xs := R_below h (pw_below_drewN (Below.refl _ _) m)
theorem R_far (h : R d e w base ok v xs) {p : Addr} (hok : ∀ k, ok k → k ≠ p.block) (u : Value) : R d e (w.setCell p u) base ok v xs := R_step h fun k ho _ => Below.heap_setCell w p u k (hok k ho)
theorem R_lower {base' : Nat} (h : R d e w base ok v xs) (hb : base' ≤ base) : R d e w base' ok v xs := by
  obtain ⟨b, h0, h1, h2⟩ := h
  exact ⟨b, h0, Nat.le_trans hb h1, h2⟩
theorem R_mono (h : R d e w base ok v xs) (hok : ∀ k, ok k → ok' k) : R d e w base ok' v xs := by
  obtain ⟨b, h0, h1, h2, h3⟩ := h
  exact ⟨b, h0, h1, hok b h2, h3⟩
theorem Holds.ne {b g t : Nat} {cells : Array Value} (h : Holds w b xs) (hb : w.heap[g]? = some (.cells cells t (0, 0))) : b ≠ g := by
  rintro rfl
  obtain ⟨D, ⟨es, clock, he, _⟩, _⟩ := h
  rw [hb] at he
  cases he
theorem R_types (h : R d e w base ok v xs) {g t : Nat} {cells : Array Value} (hb : w.heap[g]? = some (.cells cells t (0, 0))) (_ : True) : R d e w base (fun k => ok k ∧ k ≠ g) v xs := by
  obtain ⟨b, h0, h1, h2, h3⟩ := h
  exact ⟨b, h0, h1, ⟨h2, h3.ne hb⟩, h3⟩
theorem R_ne (h : R d e w base ok v xs) {g t : Nat} {cells : Array Value} (hb : w.heap[g]? = some (.cells cells t (0, 0))) (_ : True) : some g ≠ blkOf v := by
  obtain ⟨b, rfl, h1, h2, h3⟩ := h
  intro hg
  exact h3.ne hb (Option.some.inj hg).symm
end
section
variable {ops : Array Oper} {rest : List Oper} {o : Oper} {a : Act} {Q : Exit → Act → World → Prop} {d : Kd Int} {e base : Nat} {ok : Nat → Prop} {v : Value} {xs : List Int}
theorem zero4 (w : World) : (zeroValue 4).run Try.prog w = .ok (.bool false) w := by
  first | rfl | kernel_rfl | (simp [zeroValue]; rfl)
theorem Holds.look {w : World} {b : Nat} (h : Holds w b xs) {x : Int} (hx : (Lit.int .u64 x).wf = true) : (Instr.lookup 56 (.map (some b)) (.int .u64 x) false).run Try.prog w = .ok (.bool (decide (x ∈ xs))) w := by
  obtain ⟨D, h, hk⟩ := h
  obtain ⟨u, ps, hrun, hu⟩ := h.lookup keyed44 und56 (zero4 w) (plainElem_bool Try.underlying4 false) (Maps.keyOf_int_mk Try.underlying44 hx)
  rw [hk x hx] at hu
  have : u = .bool (decide (x ∈ xs)) := by
    unfold plainElem at hu
    rw [Try.underlying4] at hu
    cases u <;> simp at hu
    rw [hu.1]
  rw [hrun, this]
theorem R_look (w : World) (hg : o.guard = none) (m x : Operand) (hop : o.op = Op.lookup 56 m x false) (hm : a.eval m = v) (hR : R d e w base ok v xs) {key : Int} (hx : a.eval x = .int .u64 key) (hw : (Lit.int .u64 key).wf = true)
    (hK : wpList Try.prog ops Q rest (a.put o.dst (.bool (mem key xs))) w) : wpList Try.prog ops Q (o :: rest) a w := by
  refine wpList_plain hg fun K' hK' => ?_
  obtain ⟨b, rfl, _, _, h⟩ := hR
  have hrun := h.look hw
  unfold Oper.wp
  simp [execOp, hop, hm, hx, hrun, Result.andThen]
  exact hK' _ _ hK
theorem R_store {w0 : World} (w : World) (hg : o.guard = none) (m x u : Operand) (hop : o.op = Op.mapUpdate 56 m x u) (hm : a.eval m = v) (hR : R d e w base ok v xs) {key : Int} (hx : a.eval x = .int .u64 key) (hu : a.eval u = .bool true) (hw : (Lit.int .u64 key).wf = true) (hn : xs.length < maxLen)
    (HB : Below base w0 w)
    (hK : ∀ w1, R d e w1 base ok v (xs ++ [key]) → Below base w0 w1 → w.grownBy w1 (blkOf v) → wpList Try.prog ops Q rest (a.put o.dst undef) w1) : wpList Try.prog ops Q (o :: rest) a w := by
  obtain ⟨b, rfl, hbase, hok, D, hown, hk⟩ := hR
  refine wpList_mapUpdate_own w hg m x u 56 hop 44 4 keyed44 und56 (plainElem Try.prog 4) b xs.length D hm hown hn (.int .u64 key) (.bool true) (.int .u64 key) hx hu (Maps.keyOf_int_mk Try.underlying44 hw) (.lit (.bool true)) [] (plainElem_bool Try.underlying4 true) ?_
  intro w1 hown1 hgrow
  refine hK w1 ⟨b, rfl, hbase, hok, D.put (.int .u64 key) (.lit (.bool true)), by rw [List.length_append]; exact hown1, ?_⟩ ?_ hgrow
  · intro y hy
    by_cases hyk : y = key
    · subst hyk
      rw [Maps.atKey_put_same hown.isMap (by first | exact ⟨⟩ | trivial | simp [WideAt.IsKeyLit] | decide), decide_eq_true (by simp)]
    · rw [Maps.atKey_put_other (by intro h; injection h with _ h; exact hyk h), hk y hy]
      simp [hyk]
  · exact ⟨hgrow.os.trans HB.os, hgrow.tape.trans HB.tape, hgrow.output.trans HB.output, Nat.le_trans HB.size hgrow.size, fun k hk => (hgrow.block k (by have := HB.size; have := hown.lt; omega) (by intro h; injection h with h; omega)).trans (HB.block k hk)⟩
theorem R_make (d : Kd Int) (e base : Nat) (w : World) (hg : o.guard = none) (hop : o.op = Op.makeMap 56 none) (hb : base ≤ w.heap.size)
    (hK : ∀ v w1, R d e w1 base (fun _ => True) v [] → Below w.heap.size w w1 → wpList Try.prog ops Q rest (a.put o.dst v) w1) : wpList Try.prog ops Q (o :: rest) a w := by
  refine wpList_plain hg fun K' hK' => ?_
  unfold Oper.wp
  simp [execOp, hop, Result.andThen]
  refine hK' _ _ (hK (.map (some w.heap.size)) (w.alloc (.map #[] 0)) ⟨w.heap.size, rfl, hb, trivial, .map [], World.ownsMap_made w _ _ _, ?_⟩ (below_alloc (Below.refl _ _) _))
  intro x _
  rfl
end
end Go.Proofs.Ytkgfpagfmdefgaa.Mk
