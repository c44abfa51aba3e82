/- What an argument of any type of plain data (numbers, bools, strings, structs, slices of them) reads as: opened into the printed words' kinds. No program in sight. -/
import Derived.Deep.Slices
import Derived.ChangeSame
import Derived.ChangeArms
import Derived.DataReads
import Derived.WideShapes
import Derived.Test.YtiikllgppmmiaaaDoorWWords
namespace Go.Proofs.YtiikllgppmmiaaaDoor.Open
open Go.RowKit Go.ChangeShapes Go.WideShapes Go.Proofs.YtiikllgppmmiaaaDoorW.PrintWords

/-- Whatever reads as data of type t is of kind d, and its parts are such as wf tells. -/
def Opens (P : Program) (w : World) (t : TypeId) {α : Type} (d : Kd α) (wf : α → Prop) : Prop :=
  ∀ (H : Type) (enc : TypeId × Value → H) (base : Nat) (spare : Nat → Bool) (held : Bool) (fuel : Nat) (cs : List Value) (x : DataW H × List MemPlace),
    DataW.trod enc P w base spare held fuel t cs = some x → ∃ a, d.K w a cs ∧ wf a
section
variable {P : Program} {w : World} {t : TypeId}
theorem opens_int {k : IntKind} (ht : P.underlying t = some (.int k)) : Opens P w t (Kd.int k) (fun n => (Lit.int k n).wf = true) := by
  intro H enc base spare held fuel cs x h
  obtain ⟨n, rfl, _, hw⟩ := DataW.trod_int ht h
  exact ⟨n, rfl, hw⟩
theorem opens_bool (ht : P.underlying t = some .bool) : Opens P w t Kd.bool (fun _ => True) := by
  intro H enc base spare held fuel cs x h
  obtain ⟨b, rfl, _⟩ := DataW.trod_bool ht h
  exact ⟨b, rfl, trivial⟩
theorem opens_string (ht : P.underlying t = some .string) : Opens P w t Kd.string (fun s => s.size ≤ maxLen) := by
  intro H enc base spare held fuel cs x h
  obtain ⟨s, rfl, _, hs⟩ := DataW.trod_string ht h
  exact ⟨s, rfl, hs⟩
theorem opens_slice {e : TypeId} {α : Type} {d : Kd α} {wf : α → Prop} (ht : P.underlying t = some (.slice e)) (hsz : P.cellsOf e = d.sz) (h : Opens P w e d wf) :
    Opens P w t (Kd.slice e d) (fun xs => ∀ y ∈ xs, wf y) := by
  intro H enc base spare held fuel cs x hx
  rcases Go.Deep.open_slice ht hx with ⟨rfl, _⟩ | ⟨a, len, cap, m, n, D, Pl, rfl, _, hl, hm, hmm, _, hi⟩
  · exact ⟨[], ⟨none, 0, rfl, Nat.le_refl _, rfl, Nat.zero_le _, fun h => absurd h (Nat.lt_irrefl _)⟩, fun y hy => by cases hy⟩
  · have hml : len ≤ m := by rw [hmm]; split <;> omega
    have hex : ∀ i : Fin len, ∃ y : α, wf y ∧ ∃ c, c.length = d.sz ∧ d.K w y c ∧ ∀ j u, c[j]? = some u → w.cell? (a.add (i.val * d.sz + j)) = some u := by
      intro i
      obtain ⟨cs', hc, ht'⟩ := hi i.val (Nat.lt_of_lt_of_le i.isLt hml)
      obtain ⟨_, hcl, hat⟩ := World.cells?_some hc
      obtain ⟨y, hK, hw⟩ := h H enc base spare held n cs' _ ht'
      refine ⟨y, hw, cs', by rw [hcl, hsz], hK, fun j u hu => ?_⟩
      have hj : j < P.cellsOf e := by rw [← hcl]; exact (List.getElem?_eq_some_iff.1 hu).1
      rw [← hsz, ← Go.Deep.add_add, hat j hj, hu]
    have hf := fun i => Classical.choose_spec (hex i)
    refine ⟨List.ofFn fun i => Classical.choose (hex i), ⟨some a, cap, by rw [List.length_ofFn], by rw [List.length_ofFn]; exact hl, ?_⟩, ?_⟩
    · refine ⟨rfl, by rw [List.length_ofFn]; simp only [maxLen] at hm; omega, fun _ => ⟨a, rfl, fun j p hj => ?_⟩⟩
      obtain ⟨hjl, he⟩ := List.getElem?_eq_some_iff.1 hj
      rw [List.length_ofFn] at hjl
      rw [List.getElem_ofFn] at he
      obtain ⟨c, h1, h2, h3⟩ := (hf ⟨j, hjl⟩).2
      rw [he] at h2
      exact ⟨c, h1, h2, h3⟩
    · intro y hy
      obtain ⟨i, rfl⟩ := List.mem_ofFn.1 hy
      exact (hf i).1
/-- From a struct's cell o on, its fields are of kind d. -/
def At (w : World) {α : Type} (d : Kd α) (wf : α → Prop) (o : Nat) (cs : List Value) : Prop := ∃ a, d.K w a (cs.drop o) ∧ wf a
theorem at_last {α : Type} {d : Kd α} {wf : α → Prop} {H : Type} {enc : TypeId × Value → H} {base : Nat} {spare : Nat → Bool} {held : Bool} {n : Nat} {cs : List Value} {y : DataW H × List MemPlace} {ft : TypeId} (o c : Nat)
    (h : Opens P w ft d wf) (hy : DataW.trod enc P w base spare held n ft ((cs.drop o).take c) = some y) (hl : cs.length = o + c) : At w d wf o cs := by
  obtain ⟨a, hK, hw⟩ := h H enc base spare held n _ y hy
  rw [List.take_of_length_le (by rw [List.length_drop]; omega)] at hK
  exact ⟨a, hK, hw⟩
theorem at_cons {α β : Type} {d : Kd α} {wf : α → Prop} {d' : Kd β} {wf' : β → Prop} {H : Type} {enc : TypeId × Value → H} {base : Nat} {spare : Nat → Bool} {held : Bool} {n : Nat} {cs : List Value} {y : DataW H × List MemPlace} {ft : TypeId} (o c : Nat)
    (h : Opens P w ft d wf) (hy : DataW.trod enc P w base spare held n ft ((cs.drop o).take c) = some y) (hr : At w d' wf' (o + c) cs) : At w (Kd.pair d d') (fun x => wf x.1 ∧ wf' x.2) o cs := by
  obtain ⟨a, hK, hw⟩ := h H enc base spare held n _ y hy
  obtain ⟨b, hK', hw'⟩ := hr
  refine ⟨(a, b), ⟨(cs.drop o).take c, cs.drop (o + c), ?_, hK, hK'⟩, hw, hw'⟩
  rw [← List.drop_drop, List.take_append_drop]
theorem at_zero {α β : Type} {d : Kd α} {wf : α → Prop} {cs : List Value} (f : β → α) (g : α → β) (hfg : ∀ a, f (g a) = a) (h : At w d wf 0 cs) : ∃ b, (Kd.iso d f).K w b cs ∧ wf (f b) := by
  obtain ⟨a, hK, hw⟩ := h
  exact ⟨g a, by show d.K w (f (g a)) cs; rw [hfg]; exact hK, by rw [hfg]; exact hw⟩
/-- A struct's fields, one by one. -/
theorem fields_of {fs : Array Field} {H : Type} {enc : TypeId × Value → H} {base : Nat} {spare : Nat → Bool} {held : Bool} {fuel : Nat} {cs : List Value} {x : DataW H × List MemPlace} (ht : P.underlying t = some (.struct fs))
    (h : DataW.trod enc P w base spare held fuel t cs = some x) : cs.length = P.cellsOf t ∧ ∃ n, ∀ (i : Nat) (f : Field), fs[i]? = some f → ∃ y, DataW.trod enc P w base spare held n f.type ((cs.drop f.offset).take (P.cellsOf f.type)) = some y := by
  obtain ⟨xs, n, _, _, hl, hlen, hg⟩ := DataW.trod_struct ht h
  refine ⟨hl, n, fun i f hi => ?_⟩
  have hlt : i < xs.length := by rw [hlen]; exact (Array.getElem?_eq_some_iff.1 hi).1
  exact ⟨xs[i], by rw [hg i f hi, List.getElem?_eq_getElem hlt]⟩
/-- An argument's value: of a struct's type. -/
theorem struct_arg {α : Type} {d : Kd α} {wf : α → Prop} {fs : Array Field} {H : Type} {enc : TypeId × Value → H} {base : Nat} {spare : Nat → Bool} {held : Bool} {r : Reach} {b0 : Nat} {v : Value} {dd : DataW H} {ps : List MemPlace}
    (hs : P.underlying t = some (.struct fs)) (h : Opens P w t d wf) (hv : Value.okWide P w r b0 t v) (hd : DataW.Trod enc P w base spare held t v dd ps) : ∃ cs a, v = .agg cs ∧ d.K w a cs.toList ∧ wf a := by
  obtain ⟨cs, rfl, _⟩ := okWide_struct hs hv
  obtain ⟨fuel, hf⟩ := hd
  obtain ⟨a, hK, hw⟩ := h H enc base spare held fuel _ _ hf
  exact ⟨cs, a, rfl, hK, hw⟩
theorem slice_arg {e : TypeId} {α : Type} {d : Kd α} {wf : List α → Prop} {H : Type} {enc : TypeId × Value → H} {base : Nat} {spare : Nat → Bool} {held : Bool} {r : Reach} {b0 : Nat} {v : Value} {dd : DataW H} {ps : List MemPlace}
    (hs : P.underlying t = some (.slice e)) (h : Opens P w t (Kd.slice e d) wf) (hv : Value.okWide P w r b0 t v) (hd : DataW.Trod enc P w base spare held t v dd ps) :
    ∃ A c xs, v = .slice A xs.length c ∧ xs.length ≤ c ∧ d.C w A xs.length xs ∧ wf xs := by
  obtain ⟨A, l, c, rfl⟩ := okWide_slice hs hv
  obtain ⟨fuel, hf⟩ := hd
  obtain ⟨xs, ⟨A', c', hcs, hl, hC⟩, hw⟩ := h H enc base spare held fuel _ _ hf
  simp [Value.cells] at hcs
  obtain ⟨rfl, rfl, rfl⟩ := hcs
  exact ⟨_, _, xs, rfl, hl, hC, hw⟩
end
end Go.Proofs.YtiikllgppmmiaaaDoor.Open
