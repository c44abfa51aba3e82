/- Rows of one's own, element by element. -/
import Derived.Test.YtnoejdogickplaaSep
import Derived.Deep.MidRow
import Derived.LoopN
import Derived.Laws.CopyOwn
namespace Go.Proofs.Ytnoejdogickplaa.Sep
open Go.RowKit Go.Proofs.YtnoejdogickplaaW.PrintWords Go.Proofs.YtnoejdogickplaaW.PrintLast Go.Proofs.YtnoejdogickplaaW.PrintMore
set_option linter.unusedVariables false
set_option linter.unusedSimpArgs false
section
variable {P : Program} {o : Oper} {a : Act} {F : Nat → Prop} {w0 W : World} {l r : List SP}
theorem Hp.form {α : Type} {d : Kd α} {e : Nat} {A : Option Addr} {n c : Nat} {xs : List α} (H : Hp F w0 W l) (hp : Pick (row d e (.slice A n c) xs) l r) (h : 0 < xs.length) : ∃ g, A = some ⟨g, 0, none⟩ := by
  obtain ⟨FA, ⟨F1, F2, h1, h2, hd, ha, _⟩, _, _⟩ := H.split (.cons hp (.nil _))
  obtain ⟨g, cap, he, _⟩ := Kd.R_form (show d.R e W 0 F1 _ xs from ha) h
  injection he with he
  exact ⟨g, he⟩
theorem Hp.rowCell {α : Type} {enc : α → Value} {h1 : ∀ x : α, (enc x).oneCell' = true} {e g n c : Nat} {xs : List α} (H : Hp F w0 W l) (hp : Pick (row (Kd.scalar enc h1) e (.slice (some ⟨g, 0, none⟩) n c) xs) l r) (i : Nat) (x : α) (hx : xs[i]? = some x) : W.cell? ⟨g, i, none⟩ = some (enc x) := by
  obtain ⟨he, _, hC⟩ := H.reads' hp
  obtain ⟨ad, ha, hc⟩ := C_at hC i x hx
  injection ha with ha
  subst ha
  rwa [add_plain] at hc
/-- An element of a row of one's own is written. -/
theorem Hp.storeRow {α : Type} {enc : α → Value} {h1 : ∀ x : α, (enc x).oneCell' = true} {e g n c : Nat} {xs : List α} (H : Hp F w0 W l) (ty : TypeId) (x y : Operand) (ho : o.op = .store ty x y) {i : Nat} (hx : a.eval x = .pointer (some ⟨g, i, none⟩))
    (hp : Pick (row (Kd.scalar enc h1) e (.slice (some ⟨g, 0, none⟩) n c) xs) l r) (u : α) (hy : a.eval y = enc u) (hcs : (enc u).cells = #[enc u]) (hi : (P.info? ty).map (·.size) = some 1) (hlt : i < xs.length) :
    Does P o a W fun v w1 => v = undef ∧ Hp F w0 w1 (row (Kd.scalar enc h1) e (.slice (some ⟨g, 0, none⟩) n c) (xs.set i u) :: r) := by
  obtain ⟨he, hnc, hC⟩ := H.reads' hp
  obtain ⟨FA, ⟨F1, F2, f1, f2, hd, ha, _⟩, hlt2, h⟩ := H.split (.cons hp (.nil _))
  have ha' : (Kd.scalar enc h1).R e W 0 F1 _ xs := ha
  have hg1 : FA g := f1 g (ha'.1 g rfl)
  have hcell := Kd.R_celln (xs[i]) ha' (i : Int) (by omega) (by omega)
  simp only [Int.toNat_natCast] at hcell
  have ht : W.there g i (#[enc u] : Array Value).size := fun j hj => by
    have : j = 0 := by simpa using hj
    subst this
    exact ⟨by rw [Nat.add_zero, hcell.1]; rfl, hcell.2⟩
  have hrun := run_storeAt_mid (P := P) W g i ty #[enc u] ht (by simpa using hi) (by simp [h1 u])
  have hrun' : (Instr.storeAt ty (.pointer (some ⟨g, i, none⟩)) (enc u)).run P W = .ok () (W.setCell ⟨g, i, none⟩ (enc u)) := by
    refine Eq.trans ?_ hrun
    simp only [Instr.storeAt, Instr.sureAddr, Sem.run_bind, Sem.run_pure, Result.andThen_ok, storeVar]
    rw [hcs]
    rfl
  have hp2 := Kd.R_putn ha' (i : Int) u
  simp only [Int.toNat_natCast] at hp2
  refine .skip (w1 := W.setCell ⟨g, i, none⟩ (enc u)) ?_ ⟨rfl, h _ [row (Kd.scalar enc h1) e (.slice (some ⟨g, 0, none⟩) n c) (xs.set i u)] ⟨rfl, rfl, rfl, by simp [World.setCell], fun k hk hn => Below.heap_setCell W ⟨g, i, none⟩ (enc u) k fun hkg => hn (hkg ▸ hg1)⟩ (Hp.rowAt (Kd.R_mono hp2 fun k q => .inl (f1 k q)))⟩
  unfold execOp
  simp only [ho, hx, hy, hrun', Sem.run_bind, Sem.run_pure, Result.andThen_ok]
end
theorem run_loadCell {P : Program} {o : Oper} {a : Act} {W : World} {ty : TypeId} {x : Operand} (ho : o.op = .load ty x) {p : Addr} (hx : a.eval x = .pointer (some p)) {d : TypeDesc} (hu : P.underlying ty = some d) (hd : d.isRow = false) {u : Value} (hc : W.cell? p = some u) :
    (execOp a.eval o).run P W = .ok (.value u) W := by
  have hagg : (isAgg ty).run P W = .ok false W := by
    unfold isAgg
    rw [Sem.run_bind, run_underlying hu W]
    cases d <;> simp_all [TypeDesc.isRow]
  unfold execOp
  simp [ho, hx, Instr.loadAt, Instr.sureAddr, loadVar, hagg, hc]
theorem C_cell {α : Type} {enc : α → Value} {h1 : ∀ x : α, (enc x).oneCell' = true} {w : World} {ad : Addr} {n : Nat} {xs : List α} (h : (Kd.scalar enc h1).C w (some ad) n xs) (i : Nat) (x : α) (hx : xs[i]? = some x) : w.cell? (ad.add i) = some (enc x) := by
  obtain ⟨ad', ha, hc⟩ := C_at h i x hx
  injection ha with ha
  subst ha
  exact hc
theorem C_some {α : Type} {d : Kd α} {w : World} {A : Option Addr} {n : Nat} {xs : List α} (h : d.C w A n xs) (hn : 0 < n) : ∃ ad, A = some ad := by
  obtain ⟨ad, rfl, _⟩ := h.2.2 hn
  exact ⟨ad, rfl⟩
theorem Hp.readsN {F : Nat → Prop} {w0 W : World} {l r : List SP} {α : Type} {d : Kd α} {e : Nat} {A : Option Addr} {n c : Nat} {xs : List α} (H : Hp F w0 W l) (hp : Pick (row d e (.slice A n c) xs) l r) : d.C W A n xs := by
  obtain ⟨rfl, _, h⟩ := H.reads' hp
  exact h
end Go.Proofs.Ytnoejdogickplaa.Sep
