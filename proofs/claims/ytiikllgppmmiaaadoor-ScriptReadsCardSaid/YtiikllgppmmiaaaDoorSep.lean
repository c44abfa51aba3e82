/- What a walk knows of memory: some blocks' contents, all apart; what each operation does to it. -/
import Derived.Test.YtiikllgppmmiaaaDoorWWords
import Derived.Test.YtiikllgppmmiaaaDoorWLast
import Derived.Test.YtiikllgppmmiaaaDoorWMore
import Derived.Test.YtiikllgppmmiaaaDoorWGuard
import Derived.Deep.MidRow
import Derived.LoopN
import Derived.Laws.CopyOwn
namespace Go.Proofs.YtiikllgppmmiaaaDoor.Sep
open Go.RowKit Go.Proofs.YtiikllgppmmiaaaDoorW.PrintWords Go.Proofs.YtiikllgppmmiaaaDoorW.PrintLast Go.Proofs.YtiikllgppmmiaaaDoorW.PrintMore
set_option linter.unusedVariables false
set_option linter.unusedSimpArgs false
/-- What is known of some blocks of memory: 'p F w' tells something of the blocks F in the world w; what other blocks hold does not matter. -/
structure SP where
  p : (Nat → Prop) → World → Prop
  mono : ∀ {F F' : Nat → Prop} {w : World}, (∀ k, F k → F' k) → p F w → p F' w
  move : ∀ {F : Nat → Prop} {w w' : World}, (∀ k, F k → w'.heap[k]? = w.heap[k]?) → p F w → p F w'
/-- A block, whole. -/
def ob (g : Nat) (o : Obj) : SP where
  p F w := F g ∧ w.heap[g]? = some o
  mono h q := ⟨h _ q.1, q.2⟩
  move h q := ⟨q.1, (h _ q.1).trans q.2⟩
/-- A block of cells, whole. -/
def blk (g : Nat) (cs : Array Value) (t : TypeId) : SP where
  p F w := F g ∧ w.heap[g]? = some (.cells cs t (0, 0))
  mono h q := ⟨h _ q.1, q.2⟩
  move h q := ⟨q.1, (h _ q.1).trans q.2⟩
/-- A slice of one's own, and what its elements lead to. -/
def row {α : Type} (d : Kd α) (e : Nat) (v : Value) (xs : List α) : SP where
  p F w := d.R e w 0 F v xs
  mono h q := Kd.R_mono q h
  move h q := Kd.R_move q h
/-- Several such things, in blocks apart. -/
def All : List SP → (Nat → Prop) → World → Prop
  | [], _, _ => True
  | A :: r, F, w => ∃ F1 F2 : Nat → Prop, (∀ k, F1 k → F k) ∧ (∀ k, F2 k → F k) ∧ (∀ k, F1 k → F2 k → False) ∧ A.p F1 w ∧ All r F2 w
theorem All.mono : ∀ {l : List SP} {F F' : Nat → Prop} {w : World}, (∀ k, F k → F' k) → All l F w → All l F' w
  | [], _, _, _, _, _ => trivial
  | _ :: _, _, _, _, h, ⟨F1, F2, h1, h2, hd, ha, hr⟩ => ⟨F1, F2, fun k q => h k (h1 k q), fun k q => h k (h2 k q), hd, ha, hr⟩
theorem All.move : ∀ {l : List SP} {F : Nat → Prop} {w w' : World}, (∀ k, F k → w'.heap[k]? = w.heap[k]?) → All l F w → All l F w'
  | [], _, _, _, _, _ => trivial
  | A :: _, _, _, _, h, ⟨F1, F2, h1, h2, hd, ha, hr⟩ => ⟨F1, F2, h1, h2, hd, A.move (fun k q => h k (h1 k q)) ha, All.move (fun k q => h k (h2 k q)) hr⟩
theorem All.append : ∀ {a b : List SP} {F1 F2 F : Nat → Prop} {w : World}, All a F1 w → All b F2 w → (∀ k, F1 k → F k) → (∀ k, F2 k → F k) → (∀ k, F1 k → F2 k → False) → All (a ++ b) F w
  | [], _, _, _, _, _, _, hb, _, h2, _ => hb.mono h2
  | A :: a, b, F1, F2, F, w, ⟨G1, G2, g1, g2, gd, gA, gr⟩, hb, h1, h2, hd =>
    ⟨G1, fun k => G2 k ∨ F2 k, fun k q => h1 k (g1 k q), fun k q => q.elim (fun q => h1 k (g2 k q)) (h2 k), fun k q r => r.elim (gd k q) (hd k (g1 k q)), gA,
      All.append gr hb (fun k q => .inl q) (fun k q => .inr q) (fun k q r => hd k (g2 k q) r)⟩
theorem All.split : ∀ {a b : List SP} {F : Nat → Prop} {w : World}, All (a ++ b) F w → ∃ F1 F2 : Nat → Prop, (∀ k, F1 k → F k) ∧ (∀ k, F2 k → F k) ∧ (∀ k, F1 k → F2 k → False) ∧ All a F1 w ∧ All b F2 w
  | [], _, F, _, h => ⟨fun _ => False, F, fun _ q => q.elim, fun _ q => q, fun _ q _ => q, trivial, h⟩
  | A :: a, b, F, w, ⟨G1, G2, g1, g2, gd, gA, gr⟩ => by
    obtain ⟨F1, F2, h1, h2, hd, ha, hb⟩ := All.split gr
    exact ⟨fun k => G1 k ∨ F1 k, F2, fun k q => q.elim (g1 k) (fun q => g2 k (h1 k q)), fun k q => g2 k (h2 k q), fun k q r => q.elim (fun q => gd k q (h2 k r)) (fun q => hd k q r),
      ⟨G1, F1, fun k q => .inl q, fun k q => .inr q, fun k q r => gd k q (h1 k r), gA, ha⟩, hb⟩
/-- One of several things; what is left. -/
inductive Pick (A : SP) : List SP → List SP → Prop
  | here (r : List SP) : Pick A (A :: r) r
  | there (B : SP) {r r' : List SP} : Pick A r r' → Pick A (B :: r) (B :: r')
theorem Pick.all {A : SP} {l r : List SP} (h : Pick A l r) : ∀ {F : Nat → Prop} {w : World}, All l F w → All (A :: r) F w := by
  induction h with
  | here r => exact fun h => h
  | there B h ih =>
    rintro F w ⟨F1, F2, h1, h2, hd, hB, hr⟩
    obtain ⟨G1, G2, g1, g2, gd, gA, gr⟩ := ih hr
    exact ⟨G1, fun k => F1 k ∨ G2 k, fun k q => h2 k (g1 k q), fun k q => q.elim (h1 k) (fun q => h2 k (g2 k q)), fun k q r => r.elim (fun r => hd k r (g1 k q)) (gd k q), gA,
      F1, G2, fun k q => .inl q, fun k q => .inr q, fun k q r => hd k q (g2 k r), hB, gr⟩
inductive Takes : List SP → List SP → List SP → Prop
  | nil (l : List SP) : Takes [] l l
  | cons {A : SP} {p l r r' : List SP} : Pick A l r → Takes p r r' → Takes (A :: p) l r'
theorem Takes.all {p l r : List SP} (h : Takes p l r) : ∀ {F : Nat → Prop} {w : World}, All l F w → All (p ++ r) F w := by
  induction h with
  | nil l => exact fun h => h
  | cons hp _ ih =>
    intro F w h
    obtain ⟨F1, F2, h1, h2, hd, hA, hr⟩ := hp.all h
    exact ⟨F1, F2, h1, h2, hd, hA, ih hr⟩
/-- Beside the blocks F nothing that was there turned. -/
structure Kept (F : Nat → Prop) (w w' : World) : Prop where
  os : w'.os = w.os
  tape : w'.tape = w.tape
  output : w'.output = w.output
  size : w.heap.size ≤ w'.heap.size
  block : ∀ k, k < w.heap.size → ¬ F k → w'.heap[k]? = w.heap[k]?
theorem Kept.refl (F : Nat → Prop) (w : World) : Kept F w w := ⟨rfl, rfl, rfl, Nat.le_refl _, fun _ _ _ => rfl⟩
theorem Kept.of_below {F : Nat → Prop} {w w' : World} (h : Below w.heap.size w w') : Kept F w w' := ⟨h.os, h.tape, h.output, h.size, fun k hk _ => h.block k hk⟩
theorem Kept.mono {F F' : Nat → Prop} {w w' : World} (h : Kept F w w') (hF : ∀ k, F k → F' k) : Kept F' w w' := ⟨h.os, h.tape, h.output, h.size, fun k hk hn => h.block k hk fun q => hn (hF k q)⟩
theorem Kept.below {w w' : World} (h : Kept (fun _ => False) w w') : Below w.heap.size w w' := ⟨h.os, h.tape, h.output, h.size, fun k hk => h.block k hk id⟩
theorem Kept.trans {F : Nat → Prop} {a b c : World} (h : Kept F a b) (k : Kept (fun i => F i ∨ a.heap.size ≤ i) b c) : Kept F a c :=
  ⟨k.os.trans h.os, k.tape.trans h.tape, k.output.trans h.output, Nat.le_trans h.size k.size, fun i hi hn => (k.block i (Nat.lt_of_lt_of_le hi h.size) (fun q => q.elim hn (fun q => by omega))).trans (h.block i hi hn)⟩
/-- The blocks F that were there, and all that came since. -/
def dom (F : Nat → Prop) (w w' : World) (k : Nat) : Prop := (F k ∧ k < w.heap.size) ∨ (w.heap.size ≤ k ∧ k < w'.heap.size)
theorem dom.lt {F : Nat → Prop} {w w' : World} {k : Nat} (h : dom F w w' k) (hs : w.heap.size ≤ w'.heap.size) : k < w'.heap.size := by
  rcases h with ⟨_, h⟩ | ⟨_, h⟩ <;> omega
/-- THE STATE OF A WALK: the call began at w0 and may write the blocks F; now, at w, the things of l are there, in blocks of F and in new ones. -/
structure Hp (F : Nat → Prop) (w0 w : World) (l : List SP) : Prop where
  kept : Kept F w0 w
  all : All l (dom F w0 w) w
theorem Hp.start (F : Nat → Prop) (w : World) {l : List SP} (h : All l F w) (hF : ∀ k, F k → k < w.heap.size) : Hp F w w l :=
  ⟨Kept.refl _ _, h.mono fun k q => .inl ⟨q, hF k q⟩⟩
theorem Hp.nothing (w : World) : Hp (fun _ => False) w w [] := ⟨Kept.refl _ _, trivial⟩
theorem Hp.below {w0 w : World} {l : List SP} (h : Hp (fun _ => False) w0 w l) : Below w0.heap.size w0 w := h.kept.below
theorem Hp.split {F : Nat → Prop} {w0 W : World} {p l r : List SP} (H : Hp F w0 W l) (ht : Takes p l r) :
    ∃ FA : Nat → Prop, All p FA W ∧ (∀ k, FA k → k < W.heap.size) ∧ ∀ (w1 : World) (bs : List SP), Kept FA W w1 → All bs (dom FA W w1) w1 → Hp F w0 w1 (bs ++ r) := by
  obtain ⟨FA, FR, h1, h2, hd, ha, hr⟩ := All.split (ht.all H.all)
  refine ⟨FA, ha, fun k q => (h1 k q).lt H.kept.size, fun w1 bs hk hb => ⟨⟨hk.os.trans H.kept.os, hk.tape.trans H.kept.tape, hk.output.trans H.kept.output, Nat.le_trans H.kept.size hk.size, fun k hlt hn => ?_⟩, ?_⟩⟩
  · refine (hk.block k (Nat.lt_of_lt_of_le hlt H.kept.size) fun q => ?_).trans (H.kept.block k hlt hn)
    rcases h1 k q with ⟨q, _⟩ | ⟨q, _⟩
    · exact hn q
    · omega
  · have hs := hk.size
    have hs0 := H.kept.size
    refine All.append hb (hr.move fun k q => hk.block k ((h2 k q).lt H.kept.size) fun q' => hd k q' q) (fun k q => ?_) (fun k q => ?_) (fun k q q' => ?_)
    · rcases q with ⟨q, _⟩ | ⟨q, q'⟩
      · rcases h1 k q with q | ⟨q, q'⟩
        · exact .inl q
        · exact .inr ⟨q, by omega⟩
      · exact .inr ⟨by omega, q'⟩
    · rcases h2 k q with q | ⟨q, q'⟩
      · exact .inl q
      · exact .inr ⟨q, by omega⟩
    · rcases q with ⟨q, _⟩ | ⟨q, _⟩
      · exact hd k q q'
      · have := (h2 k q').lt H.kept.size
        omega
/-- A step that makes blocks and turns none. -/
theorem Hp.step {F : Nat → Prop} {w0 W w1 : World} {l : List SP} (H : Hp F w0 W l) (hb : Below W.heap.size W w1) : Hp F w0 w1 l := by
  obtain ⟨FA, _, _, h⟩ := H.split (Takes.nil l)
  exact h w1 [] (.of_below hb) trivial
theorem Hp.drew {F : Nat → Prop} {w0 W : World} {l : List SP} (H : Hp F w0 W l) : Hp F w0 W.drew l := H.step (below_drew (Below.refl _ _))
theorem Hp.drewN {F : Nat → Prop} {w0 W : World} {l : List SP} (H : Hp F w0 W l) (n : Nat) : Hp F w0 (W.drewN n) l := H.step (pw_below_drewN (Below.refl _ _) n)
/-- A step that makes things. -/
theorem Hp.made {F : Nat → Prop} {w0 W w1 : World} {l bs : List SP} (H : Hp F w0 W l) (hb : Below W.heap.size W w1) (hn : All bs (fun k => W.heap.size ≤ k ∧ k < w1.heap.size) w1) : Hp F w0 w1 (bs ++ l) := by
  obtain ⟨FA, _, _, h⟩ := H.split (Takes.nil l)
  exact h w1 bs (.of_below hb) (hn.mono fun k q => .inr q)
theorem Hp.drop {F : Nat → Prop} {w0 W : World} {p l r : List SP} (H : Hp F w0 W l) (ht : Takes p l r) : Hp F w0 W r := by
  obtain ⟨FA, _, _, h⟩ := H.split ht
  exact h W [] (Kept.refl _ _) trivial
/-- What is told of things may be told otherwise. -/
theorem Hp.imp {F : Nat → Prop} {w0 W : World} {p l r bs : List SP} (H : Hp F w0 W l) (ht : Takes p l r) (hi : ∀ G, All p G W → All bs G W) : Hp F w0 W (bs ++ r) := by
  obtain ⟨FA, ha, hl, h⟩ := H.split ht
  exact h W bs (Kept.refl _ _) ((hi FA ha).mono fun k q => .inl ⟨q, hl k q⟩)
/-- What only may be (in a larger list) is there. -/
theorem Hp.take {F : Nat → Prop} {w0 W : World} {p l r : List SP} (H : Hp F w0 W l) (ht : Takes p l r) : Hp F w0 W p := by
  obtain ⟨FA, FR, h1, h2, hd, ha, hr⟩ := All.split (ht.all H.all)
  exact ⟨H.kept, ha.mono h1⟩
theorem Hp.weak {F F' : Nat → Prop} {w0 W : World} {l : List SP} (H : Hp F w0 W l) (h : ∀ k, F k → F' k) : Hp F' w0 W l :=
  ⟨H.kept.mono h, H.all.mono fun k q => q.elim (fun q => .inl ⟨h k q.1, q.2⟩) .inr⟩
/-- One thing out of several, whatever is in it: 'ex f' is 'f x' for some x; 'star l' is all of l. -/
def ex {β : Type} (f : β → SP) : SP where
  p F w := ∃ x, (f x).p F w
  mono h q := q.imp fun x q => (f x).mono h q
  move h q := q.imp fun x q => (f x).move h q
def star (l : List SP) : SP where
  p F w := All l F w
  mono h q := q.mono h
  move h q := q.move h
theorem Hp.open_ex {β : Type} {f : β → SP} {F : Nat → Prop} {w0 W : World} {l r : List SP} (H : Hp F w0 W l) (hp : Pick (ex f) l r) : ∃ x, Hp F w0 W (f x :: r) := by
  obtain ⟨FA, ha, hl, h⟩ := H.split (.cons hp (.nil _))
  obtain ⟨F1, F2, h1, h2, hd, ⟨x, hx⟩, _⟩ := ha
  exact ⟨x, h W [f x] (Kept.refl _ _) ⟨F1, F2, fun k q => .inl ⟨h1 k q, hl k (h1 k q)⟩, fun k q => .inl ⟨h2 k q, hl k (h2 k q)⟩, hd, hx, trivial⟩⟩
theorem Hp.shut_ex {β : Type} {f : β → SP} {F : Nat → Prop} {w0 W : World} {l r : List SP} (x : β) (H : Hp F w0 W l) (hp : Pick (f x) l r) : Hp F w0 W (ex f :: r) :=
  H.imp (bs := [ex f]) (.cons hp (.nil _)) fun G ⟨F1, F2, h1, h2, hd, hx, hr⟩ => ⟨F1, F2, h1, h2, hd, ⟨x, hx⟩, hr⟩
theorem Hp.open_star {a : List SP} {F : Nat → Prop} {w0 W : World} {l r : List SP} (H : Hp F w0 W l) (hp : Pick (star a) l r) : Hp F w0 W (a ++ r) :=
  H.imp (.cons hp (.nil _)) fun G ⟨F1, F2, h1, h2, hd, hx, hr⟩ => All.mono h1 hx
theorem Hp.shut_star {a : List SP} {F : Nat → Prop} {w0 W : World} {l r : List SP} (H : Hp F w0 W l) (hp : Takes a l r) : Hp F w0 W (star a :: r) :=
  H.imp (bs := [star a]) hp fun G h => ⟨G, fun _ => False, fun _ q => q, fun _ q => q.elim, fun _ _ q => q, h, trivial⟩
theorem Hp.block {g : Nat} {cs : Array Value} {t : TypeId} {F : Nat → Prop} {w0 W : World} {l r : List SP} (H : Hp F w0 W l) (hp : Pick (blk g cs t) l r) : W.heap[g]? = some (.cells cs t (0, 0)) := by
  obtain ⟨FA, ⟨F1, F2, h1, h2, hd, ha, _⟩, _, _⟩ := H.split (.cons hp (.nil _))
  exact ha.2
theorem Hp.object {g : Nat} {o : Obj} {F : Nat → Prop} {w0 W : World} {l r : List SP} (H : Hp F w0 W l) (hp : Pick (ob g o) l r) : W.heap[g]? = some o := by
  obtain ⟨FA, ⟨F1, F2, h1, h2, hd, ha, _⟩, _, _⟩ := H.split (.cons hp (.nil _))
  exact ha.2
theorem Hp.reads {α : Type} {d : Kd α} {e : Nat} {v : Value} {xs : List α} {F : Nat → Prop} {w0 W : World} {l r : List SP} (H : Hp F w0 W l) (hp : Pick (row d e v xs) l r) :
    ∃ A c, v = .slice A xs.length c ∧ xs.length ≤ c ∧ d.C W A xs.length xs := by
  obtain ⟨FA, ⟨F1, F2, h1, h2, hd, ha, _⟩, _, _⟩ := H.split (.cons hp (.nil _))
  exact Kd.R_reads ha
theorem Hp.reads' {α : Type} {d : Kd α} {e : Nat} {A : Option Addr} {n c : Nat} {xs : List α} {F : Nat → Prop} {w0 W : World} {l r : List SP} (H : Hp F w0 W l) (hp : Pick (row d e (.slice A n c) xs) l r) :
    n = xs.length ∧ n ≤ c ∧ d.C W A xs.length xs := by
  obtain ⟨FA, ⟨F1, F2, h1, h2, hd, ha, _⟩, _, _⟩ := H.split (.cons hp (.nil _))
  exact Kd.R_reads' ha
/-- Data that came in lies as it lay. -/
theorem Hp.data {α : Type} {d : Kd α} {A : Option Addr} {n : Nat} {xs : List α} {w0 W : World} {l : List SP} (H : Hp (fun _ => False) w0 W l) (h : d.C w0 A n xs) : d.C W A n xs := Kd.C_below h H.below
/-- What a call answers: a value, and things. -/
def Ret (F : Nat → Prop) (w0 : World) (post : Value → List SP → Prop) (e : Ending) (w : World) : Prop := ∃ v l, e = .returned v ∧ post v l ∧ Hp F w0 w l
section
variable {P : Program} {F : Nat → Prop} {w0 W : World} {l r : List SP}
/-- A call of what takes the things p over. -/
theorem Hp.call {p : List SP} {f : FuncId} {args : Array Value} {post : Value → List SP → Prop} {R : Ending → World → Prop} (H : Hp F w0 W l) (ht : Takes p l r)
    (hc : ∀ G : Nat → Prop, All p G W → (∀ k, G k → k < W.heap.size) → Calls P f args W (Ret G W post)) (hk : ∀ v l1 w1, post v l1 → Hp F w0 w1 (l1 ++ r) → R (.returned v) w1) : Calls P f args W R := by
  obtain ⟨FA, ha, hl, h⟩ := H.split ht
  refine (hc FA ha hl).mono ?_
  rintro e w1 ⟨v, l1, rfl, hp, h1⟩
  exact hk v l1 w1 hp (h w1 l1 h1.kept h1.all)
/-- A call of what makes things, and turns none. -/
theorem Hp.call0 {f : FuncId} {args : Array Value} {post : Value → List SP → Prop} {R : Ending → World → Prop} (H : Hp F w0 W l)
    (hc : Calls P f args W (Ret (fun _ => False) W post)) (hk : ∀ v l1 w1, post v l1 → Hp F w0 w1 (l1 ++ l) → R (.returned v) w1) : Calls P f args W R := by
  obtain ⟨FA, ha, hl, h⟩ := H.split (Takes.nil l)
  refine hc.mono ?_
  rintro e w1 ⟨v, l1, rfl, hp, h1⟩
  exact hk v l1 w1 hp (h w1 l1 (h1.kept.mono fun _ q => q.elim) (h1.all.mono fun k q => q.elim (fun q => q.1.elim) .inr))
/-- A call whose contract the print gives. -/
theorem Hp.call1 {f : FuncId} {args : Array Value} {x : Value} {R : Ending → World → Prop} (H : Hp F w0 W l)
    (hc : Calls P f args W fun e w' => e = .returned x ∧ Below W.heap.size W w') (hk : ∀ w1, Hp F w0 w1 l → R (.returned x) w1) : Calls P f args W R := by
  refine hc.mono ?_
  rintro e w1 ⟨rfl, hb⟩
  exact hk w1 (H.step hb)
/-- .. and that answers a slice. -/
theorem Hp.call2 {α : Type} {d : Kd α} {t : Nat} {xs : List α} {f : FuncId} {args : Array Value} {R : Ending → World → Prop} (H : Hp F w0 W l)
    (hc : Calls P f args W fun e w' => ∃ v : Value, e = .returned v ∧ d.R t w' W.heap.size (fun _ => True) v xs ∧ Below W.heap.size W w') (hk : ∀ v w1, Hp F w0 w1 (row d t v xs :: l) → R (.returned v) w1) : Calls P f args W R := by
  refine hc.mono ?_
  rintro e w1 ⟨v, rfl, hr, hb⟩
  refine hk v w1 (H.made (bs := [row d t v xs]) hb ⟨fun k => W.heap.size ≤ k ∧ k < w1.heap.size, fun _ => False, fun _ q => q, fun _ q => q.elim, fun _ _ q => q, ?_, trivial⟩)
  exact Kd.R_lower (Kd.R_mono (Kd.R_bound hr) fun k q => ⟨q.2.1, q.2.2.1⟩) (Nat.zero_le _)
end
/-- What one operation does. -/
def Does (P : Program) (o : Oper) (a : Act) (W : World) (R : Value → World → Prop) : Prop :=
  ∀ (Q : Exit → Act → World → Prop) (K : Act → World → Prop), (∀ v w1, R v w1 → K (a.put o.dst v) w1) → Oper.wp P o a W K Q
section
variable {P : Program} {ops : Array Oper} {rest : List Oper} {o : Oper} {a : Act} {Q : Exit → Act → World → Prop} {K : Act → World → Prop} {W : World} {R : Value → World → Prop}
theorem ev_ (hgd : o.guard = none) (hd : Does P o a W R) (h : ∀ v w1, R v w1 → wpList P ops Q rest (a.put o.dst v) w1) : wpList P ops Q (o :: rest) a W :=
  wpList_plain hgd fun K hK => hd Q K fun v w1 q => hK _ _ (h v w1 q)
theorem step_ {N : Option Tmp} (hw : Region.wanted o (yielded ops a.tmps) = true) (hN : o.dst = N) (hd : Does P o a W R) (h : ∀ v w1, R v w1 → K (a.put N v) w1) :
    if Region.wanted o (yielded ops a.tmps) = true then Oper.wp P o a W K Q else K (a.put N undef) W := by
  rw [if_pos hw]
  subst hN
  exact hd Q K h
theorem Does.value {v : Value} {w1 : World} (hrun : (execOp a.eval o).run P W = .ok (.value v) w1) (h : R v w1) : Does P o a W R := by
  intro Q K hK
  unfold Oper.wp
  rw [hrun]
  exact hK v w1 h
theorem Does.skip {w1 : World} (hrun : (execOp a.eval o).run P W = .ok .skip w1) (h : R undef w1) : Does P o a W R := by
  intro Q K hK
  unfold Oper.wp
  rw [hrun]
  exact hK undef w1 h
theorem Does.mono {R' : Value → World → Prop} (h : Does P o a W R) (hR : ∀ v w1, R v w1 → R' v w1) : Does P o a W R' := fun Q K hK => h Q K fun v w1 q => hK v w1 (hR v w1 q)
/-- Only this kind of operation. -/
theorem gate_box {t : TypeId} {x : Operand} (_ : o.op = .box t x) (h : wpList P ops Q (o :: rest) a W) : wpList P ops Q (o :: rest) a W := h
theorem gate_alloc {t : TypeId} (_ : o.op = .alloc t) (h : wpList P ops Q (o :: rest) a W) : wpList P ops Q (o :: rest) a W := h
theorem gate_load {t : TypeId} {x : Operand} (_ : o.op = .load t x) (h : wpList P ops Q (o :: rest) a W) : wpList P ops Q (o :: rest) a W := h
theorem gate_st {t : TypeId} {x y : Operand} (_ : o.op = .store t x y) (h : wpList P ops Q (o :: rest) a W) : wpList P ops Q (o :: rest) a W := h
end
section
variable {P : Program} {o : Oper} {a : Act} {F : Nat → Prop} {w0 W : World} {l r : List SP}
theorem Hp.alloc {cs : Array Value} {t : TypeId} (H : Hp F w0 W l) : Hp F w0 (W.alloc (.cells cs t (0, 0))) (blk W.heap.size cs t :: l) :=
  H.made (bs := [blk W.heap.size cs t]) (below_alloc (Below.refl _ _) _)
    ⟨fun k => k = W.heap.size, fun _ => False, fun k q => by subst q; exact ⟨Nat.le_refl _, by simp⟩, fun _ q => q.elim, fun _ _ q => q, ⟨rfl, blk_new W _⟩, trivial⟩
theorem Hp.allocO {x : Obj} (H : Hp F w0 W l) : Hp F w0 (W.alloc x) (ob W.heap.size x :: l) :=
  H.made (bs := [ob W.heap.size x]) (below_alloc (Below.refl _ _) _)
    ⟨fun k => k = W.heap.size, fun _ => False, fun k q => by subst q; exact ⟨Nat.le_refl _, by simp⟩, fun _ q => q.elim, fun _ _ q => q, ⟨rfl, heap_alloc_new W _⟩, trivial⟩
/-- A new variable. -/
theorem Hp.new (H : Hp F w0 W l) {cs : Array Value} {t : TypeId} (hrun : (execOp a.eval o).run P W = .ok (.value (.pointer (some ⟨W.heap.size, 0, none⟩))) (W.alloc (.cells cs t (0, 0)))) :
    Does P o a W fun v w1 => ∃ g, v = .pointer (some ⟨g, 0, none⟩) ∧ Hp F w0 w1 (blk g cs t :: l) :=
  .value hrun ⟨_, rfl, H.alloc⟩
/-- A struct, or a part of one, is read whole. -/
theorem Hp.loadN (H : Hp F w0 W l) {g i : Nat} {cs : Array Value} {t : TypeId} (ty : TypeId) (x : Operand) (ho : o.op = .load ty x) (hx : a.eval x = .pointer (some ⟨g, i, none⟩)) (hp : Pick (blk g cs t) l r) (v : Array Value) {d : TypeDesc}
    (hu : P.underlying ty = some d) (hd : d.isRow = true) (hi : (P.info? ty).map (·.size) = some v.size) (hv : ∀ j u, v[j]? = some u → cs[i + j]? = some u) : (execOp a.eval o).run P W = .ok (.value (.agg v)) W := by
  have hr := run_loadVar_mid (P := P) W g i ty v.toList d (fun j u hj => (cell_of_row W g (i + j) cs t _ (H.block hp)).trans (hv j u (by simpa using hj))) hu hd (by simpa using hi)
  unfold execOp
  simp [ho, hx, Instr.loadAt, Instr.sureAddr, hr]
/-- One cell is read. -/
theorem Hp.load1 (H : Hp F w0 W l) {g i : Nat} {cs : Array Value} {t : TypeId} (ty : TypeId) (x : Operand) (ho : o.op = .load ty x) (hx : a.eval x = .pointer (some ⟨g, i, none⟩)) (hp : Pick (blk g cs t) l r) {u : Value} {d : TypeDesc}
    (hu : P.underlying ty = some d) (hd : d.isRow = false) (hv' : cs.toList[i]? = some u) : (execOp a.eval o).run P W = .ok (.value u) W := by
  have hv : cs[i]? = some u := by rw [← hv']; simp
  have hc : W.cell? ⟨g, i, none⟩ = some u := (cell_of_row W g i cs t _ (H.block hp)).trans hv
  have hagg : (isAgg ty).run P W = .ok false W := by
    unfold isAgg
    rw [Sem.run_bind, run_underlying hu W]
    cases d <;> simp_all [TypeDesc.isRow]
  unfold execOp
  simp [ho, hx, Instr.loadAt, Instr.sureAddr, loadVar, hagg, hc]
end
/-- A row's cells, some of them put anew from place i on. -/
def putsAt (old : Array Value) (i : Nat) : List Value → Array Value
  | [] => old
  | v :: r => putsAt (old.setIfInBounds i v) (i + 1) r
theorem putsAt_size : ∀ (vs : List Value) (old : Array Value) (i : Nat), (putsAt old i vs).size = old.size
  | [], _, _ => rfl
  | v :: r, old, i => by unfold putsAt; rw [putsAt_size r]; simp
theorem setCells_kept (g : Nat) : ∀ (vs : List Value) (i : Nat) (W : World), Kept (fun k => k = g) W (W.setCells g i vs) ∧ (W.setCells g i vs).heap.size = W.heap.size
  | [], _, W => ⟨Kept.refl _ _, rfl⟩
  | v :: r, i, W => by
    obtain ⟨h, hs⟩ := setCells_kept g r (i + 1) (W.setCell ⟨g, i, none⟩ v)
    have e : (W.setCell ⟨g, i, none⟩ v).heap.size = W.heap.size := by simp [World.setCell]
    refine ⟨⟨h.os, h.tape, h.output, by have := h.size; rw [e] at this; exact this, fun k hk hn => ?_⟩, by rw [← e]; exact hs⟩
    exact (h.block k (by rw [e]; exact hk) hn).trans (Below.heap_setCell W ⟨g, i, none⟩ v k hn)
theorem setCells_row (g : Nat) (t : TypeId) : ∀ (vs : List Value) (i : Nat) (cs : Array Value) (W : World), W.heap[g]? = some (.cells cs t (0, 0)) → (W.setCells g i vs).heap[g]? = some (.cells (putsAt cs i vs) t (0, 0))
  | [], _, _, _, h => h
  | v :: r, i, cs, W, h => setCells_row g t r (i + 1) (cs.setIfInBounds i v) (W.setCell ⟨g, i, none⟩ v) (blk_put h i v rfl)
/-- What a value of one's own leads to. -/
def val {α : Type} (d : Kd α) (x : α) (cs : List Value) : SP where
  p F w := d.M w 0 F x cs
  mono h q := d.M_mono h q
  move h q := d.M_move h q
section
variable {P : Program} {o : Oper} {a : Act} {F : Nat → Prop} {w0 W : World} {l r : List SP}
/-- A cell, a part of a struct or a whole one is written. -/
theorem Hp.store (H : Hp F w0 W l) {g i : Nat} {cs : Array Value} {t : TypeId} (ty : TypeId) (x y : Operand) (ho : o.op = .store ty x y) (hx : a.eval x = .pointer (some ⟨g, i, none⟩)) (hp : Pick (blk g cs t) l r) {v : Value} (hy : a.eval y = v)
    (vs : Array Value) (hv : v.cells = vs) (hi : (P.info? ty).map (·.size) = some vs.size) (h1 : vs.all (·.oneCell') = true) (hl : i + vs.size ≤ cs.size) {cs' : Array Value} (hput : putsAt cs i vs.toList = cs') :
    Does P o a W fun v w1 => v = undef ∧ Hp F w0 w1 (blk g cs' t :: r) := by
  subst hput
  have hg := H.block hp
  have ht : W.there g i vs.size := fun j hj => by
    have hc : W.cell? ⟨g, i + j, none⟩ = cs[i + j]? := cell_of_row W g (i + j) cs t (0, 0) hg
    refine ⟨?_, blk_frozen hg _⟩
    rw [hc]
    simp; omega
  have hrun := run_storeAt_mid (P := P) W g i ty vs ht hi h1
  have hrun' : (Instr.storeAt ty (.pointer (some ⟨g, i, none⟩)) v).run P W = .ok () (W.setCells g i vs.toList) := by
    rw [← hrun]
    simp only [Instr.storeAt, Instr.sureAddr, Sem.run_bind, Sem.run_pure, Result.andThen_ok, storeVar]
    rw [hv]
    rfl
  obtain ⟨hk, hsz⟩ := setCells_kept g vs.toList i W
  obtain ⟨FA, ⟨F1, F2, h1, h2, hd, ha, _⟩, hlt, h⟩ := H.split (.cons hp (.nil _))
  refine .skip (w1 := W.setCells g i vs.toList) ?_ ⟨rfl, h _ [blk g _ t] (hk.mono fun k q => by subst q; exact h1 _ ha.1) ⟨fun k => k = g, fun _ => False, fun k q => .inl (by subst q; exact ⟨h1 _ ha.1, hlt _ (h1 _ ha.1)⟩), fun _ q => q.elim, fun _ _ q => q, ⟨rfl, setCells_row g t _ _ _ _ hg⟩, trivial⟩⟩
  unfold execOp
  simp only [ho, hx, hy, hrun', Sem.run_bind, Sem.run_pure, Result.andThen_ok]
theorem Hp.rowAt {α : Type} {d : Kd α} {e : Nat} {v : Value} {xs : List α} {G : Nat → Prop} {w w1 : World} (h : d.R e w1 0 (fun k => G k ∨ w.heap.size ≤ k) v xs) : All [row d e v xs] (dom G w w1) w1 :=
  ⟨_, fun _ => False, fun k q => by
      rcases q.1 with h | h
      · rcases Nat.lt_or_ge k w.heap.size with h' | h'
        · exact .inl ⟨h, h'⟩
        · exact .inr ⟨h', q.2.2.1⟩
      · exact .inr ⟨h, q.2.2.1⟩, fun _ q => q.elim, fun _ _ q => q, Kd.R_bound h, trivial⟩
/-- append: behind a row of one's own. pre: what the new elements lead to. -/
theorem Hp.append {α : Type} {d : Kd α} {Rr : α → List Value → Prop} (H : Hp F w0 W l) {e : TypeId} {v : Value} {xs : List α} {pre : List SP} (s x : Operand) (t : TypeId) (z : Value) (bytes : Nat)
    (ho : o.op = .call { callee := .builtin .append, args := #[s, x], argTypes := #[t, t] }) (hs : a.eval s = v) (hp : Takes (row d e v xs :: pre) l r)
    (ht : P.underlying t = some (.slice e)) (hinfo : (P.info? e).map (fun i => (i.zero, i.size, i.bytes)) = some (some z, d.sz, bytes)) (hz : z.cells.size = d.sz) (hs0 : 0 < d.sz) (hb0 : 0 < bytes)
    {ys : List α} {A : Option Addr} {m c : Nat} (hx : a.eval x = .slice A m c) (HR : ReadsRow Rr d.sz W A m ys) (hKM : ∀ G, All pre G W → ∀ q cs, Rr q cs → d.M W 0 G q cs) (hl : (xs.length + m) * bytes ≤ 140737488355328) :
    Does P o a W fun v1 w1 => Hp F w0 w1 (row d e v1 (xs ++ ys) :: r) := by
  intro Q K hK
  obtain ⟨FA, ⟨F1, F2, h1, h2, hd, ha, hpre⟩, hlt, h⟩ := H.split hp
  have ha' : d.R e W 0 F1 v xs := ha
  have hst := Kd.R_append_rows_step (P := P) (ops := #[]) (Q := Q) (Kc := K) (o := { o with guard := none }) (a := a) (w0 := W) (W := W) d 0 rfl s x t e z bytes ho ht hinfo hz hs0 hb0 v xs ys A m c (fun k => FA k ∨ W.heap.size ≤ k) F2 hs hx
    (Kd.R_mono ha' fun k q => .inl (h1 k q)) HR (fun q cs hq => hKM F2 hpre q cs hq) (fun k q => ⟨.inl (h2 k q), fun he => hd k (ha'.1 k he.symm) q⟩) (fun k q => .inr q) (Below.refl _ _) (Nat.zero_le _) hl
    (fun v1 w1 hr1 hb1 hg1 hat => hK v1 w1 (h w1 [row d e v1 (xs ++ ys)] ⟨hg1.os, hg1.tape, hg1.output, hg1.size, fun k hk hn => hg1.block k hk fun he => hn (h1 k (ha'.1 k he.symm))⟩ (Hp.rowAt hr1)))
  rw [if_pos (show Region.wanted { o with guard := none } (yielded #[] a.tmps) = true from rfl)] at hst
  exact hst
/-- .. of numbers, bools, strings. -/
theorem Hp.appendS {α : Type} {enc : α → Value} {h1 : ∀ x : α, (enc x).oneCell' = true} (H : Hp F w0 W l) {e : TypeId} {v : Value} {xs : List α} (s x : Operand) (t : TypeId) (z : Value) (bytes : Nat)
    (ho : o.op = .call { callee := .builtin .append, args := #[s, x], argTypes := #[t, t] }) (hs : a.eval s = v) (hp : Pick (row (Kd.scalar enc h1) e v xs) l r)
    (ht : P.underlying t = some (.slice e)) (hinfo : (P.info? e).map (fun i => (i.zero, i.size, i.bytes)) = some (some z, 1, bytes)) (hz : z.cells.size = 1) (hb0 : 0 < bytes)
    {ys : List α} {A : Option Addr} {m c : Nat} (hx : a.eval x = .slice A m c) (HR : (Kd.scalar enc h1).C W A m ys) (hl : (xs.length + m) * bytes ≤ 140737488355328) :
    Does P o a W fun v1 w1 => Hp F w0 w1 (row (Kd.scalar enc h1) e v1 (xs ++ ys) :: r) :=
  H.append s x t z bytes ho hs (.cons hp (.nil _)) ht hinfo hz Nat.one_pos hb0 hx HR (fun _ _ _ _ h => h) hl
/-- A literal's block is a row. -/
theorem Hp.blk_row {α : Type} {d : Kd α} {g : Nat} {cs : Array Value} {e : TypeId} {pre : List SP} {n : Nat} (xs : List α) (H : Hp F w0 W l) (hp : Takes (blk g cs e :: pre) l r) (hrep : ∀ G, All pre G W → Reps (d.M W 0 G) d.sz xs cs.toList) (hn : xs.length = n) (hm : n ≤ 9223372036854775807) :
    Hp F w0 W (row d e (.slice (some ⟨g, 0, none⟩) n n) xs :: r) := by
  subst hn
  refine H.imp (bs := [row d e (.slice (some ⟨g, 0, none⟩) xs.length xs.length) xs]) hp fun G ⟨F1, F2, h1, h2, hd, ha, hpre⟩ => ⟨G, fun _ => False, fun _ q => q, fun _ q => q.elim, fun _ _ q => q, ?_, trivial⟩
  have hr := hrep F2 hpre
  refine ⟨fun k hk => ?_, cs.toList, ⟨by simpa using hr.1, .inr ⟨g, _, cs, rfl, Nat.zero_le _, ha.2, Nat.le_refl _, by simpa [maxLen] using hm, by simpa using hr.1, ?_⟩⟩, hr.imp_ fun p c hp => d.M_mono (fun k q => ⟨h2 k q, fun he => ?_⟩) hp⟩
  · have : g = k := by simpa [Value.ownBlock] using hk
    subst this
    exact h1 _ ha.1
  · rw [List.take_of_length_le]; rw [hr.1]; exact Nat.le_refl _
  · have : k = g := by simpa [Value.ownBlock] using he
    subst this
    exact hd _ ha.1 q
theorem Hp.nil_row {α : Type} (d : Kd α) (e : Nat) (H : Hp F w0 W l) : Hp F w0 W (row d e (.slice none 0 0) [] :: l) :=
  H.imp (bs := [row d e (.slice none 0 0) []]) (.nil _) fun G _ => ⟨G, fun _ => False, fun _ q => q, fun _ q => q.elim, fun _ _ q => q, Kd.R_nil _ _ _ _ _, trivial⟩
/-- make([]T, n). -/
theorem Hp.make {α : Type} {d : Kd α} (H : Hp F w0 W l) {N : Tmp} (hd : o.dst = some N) (t e : TypeId) (x y : Operand) (ho : o.op = .makeSlice t x y) {n : Int} (hx : a.eval x = .int .i64 n) (hy : a.eval y = .int .i64 n)
    (ht : P.underlying t = some (.slice e)) (z : Value) (bytes : Nat) (hinfo : (P.info? e).map (fun i => (i.zero, i.size, i.bytes)) = some (some z, d.sz, bytes)) (hz : z.cells.size = d.sz) (hs0 : 0 < d.sz) (hb0 : 0 < bytes)
    (z0 : α) (hzero : ∀ w, d.M w 0 (fun _ => False) z0 z.cells.toList) (h0 : 0 ≤ n) (hl : n.toNat * bytes ≤ 281474976710656) :
    Does P o a W fun v1 w1 => Hp F w0 w1 (row d e v1 (List.replicate n.toNat z0) :: l) := by
  intro Q K hK
  obtain ⟨FA, _, hlt, h⟩ := H.split (Takes.nil l)
  have hst := Kd.R_make_step (P := P) (ops := #[]) (Q := Q) (Kc := K) (o := { o with guard := none }) (a := a) (w0 := W) (W := W) d 0 e rfl (N := N) hd t x y ho n hx hy ht z bytes hinfo hz hs0 hb0 z0 (ok := fun k => FA k ∨ W.heap.size ≤ k) (hzero W) (fun _ q => q.elim) (.inr (Nat.le_refl _)) h0 hl (Below.refl _ _) (Nat.zero_le _)
    (fun v1 w1 hr1 hb1 hg1 _ => hK v1 w1 (h w1 [row d e v1 _] ⟨hg1.os, hg1.tape, hg1.output, hg1.size, fun k hk hn => hg1.block k hk (by simp)⟩ (Hp.rowAt hr1)))
  rw [if_pos (show Region.wanted { o with guard := none } (yielded #[] a.tmps) = true from rfl)] at hst
  exact hst
/-- copy(dst, src): dst a row of one's own, whole; src at least as long. -/
theorem Hp.copyS {α : Type} {enc : α → Value} {h1 : ∀ x : α, (enc x).oneCell' = true} (H : Hp F w0 W l) {e : TypeId} {v : Value} {xs ys : List α} (s x : Operand) (dT sT : TypeId)
    (ho : o.op = .call { callee := .builtin .copy, args := #[s, x], argTypes := #[dT, sT] }) (hs : a.eval s = v) (hp : Pick (row (Kd.scalar enc h1) e v xs) l r)
    (ht : P.underlying dT = some (.slice e)) (hsz : (P.info? e).map (·.size) = some 1) {A : Option Addr} {m c : Nat} (hx : a.eval x = .slice A m c) (HR : (Kd.scalar enc h1).C W A m ys) (hle : xs.length ≤ m) :
    Does P o a W fun u w1 => u = goInt xs.length ∧ Hp F w0 w1 (row (Kd.scalar enc h1) e v (ys.take xs.length) :: r) := by
  obtain ⟨FA, ⟨F1, F2, h1', h2, hd, ha, _⟩, hlt, h⟩ := H.split (.cons hp (.nil _))
  have ha' : (Kd.scalar enc h1).R e W 0 F1 v xs := ha
  have hm : ys.length = m := HR.1
  by_cases h0 : xs.length = 0
  · obtain rfl : xs = [] := List.eq_nil_of_length_eq_zero h0
    obtain ⟨A', c', rfl, _⟩ := Kd.R_reads ha'
    have hrun := run_copy_none (P := P) W dT sT o.type e A' A 0 c' m c ht hsz (Nat.min_eq_right (Nat.zero_le _))
    refine .value (v := goInt 0) (w1 := W) ?_ ⟨rfl, ?_⟩
    · unfold execOp
      simp [ho, resolve, invoke, builtin, hs, hx, hrun, Result.andThen]
    · simpa using H.imp (bs := [row (Kd.scalar enc h1) e (.slice A' 0 c') []]) (.cons hp (.nil _)) (fun G q => q)
  · obtain ⟨g, cap, rfl, _, _, cells, hcells⟩ := Kd.R_form ha' (by omega)
    obtain ⟨ad, rfl, hcell⟩ := HR.2.2 (by omega)
    have hown := Kd.own_of_R ha'
    rcases hown.2 with ⟨hbad, _⟩ | ⟨g', cap', cur, hv, _, hh, hnc, hcm, hcs, htake⟩
    · cases hbad
    obtain ⟨rfl, rfl⟩ : g = g' ∧ cap = cap' := by
      injection hv with e1 _ e3
      injection e1 with e1
      injection e1 with e1
      exact ⟨e1, e3⟩
    have hlen : (encs enc (ys.take xs.length)).length = Nat.min m xs.length := by
      simp only [encs, List.length_map, List.length_take, hm]
      show min xs.length m = min m xs.length
      omega
    have hrun := run_copy_row (P := P) W dT sT o.type e g 0 xs.length cap ad m c cur e (encs enc (ys.take xs.length)) ht hsz hh hlen
      (fun j u hj => by
        simp only [encs, List.getElem?_map, Option.map_eq_some_iff] at hj
        obtain ⟨q, hq, rfl⟩ := hj
        have hjl : j < xs.length := by
          have := (List.getElem?_eq_some_iff.1 hq).1
          simp at this; omega
        have hq' : ys[j]? = some q := by rw [List.getElem?_take, if_pos hjl] at hq; exact hq
        obtain ⟨cc, hc1, hc2, hc3⟩ := hcell j q hq'
        have hc2' : cc = [enc q] := hc2
        have h3 := hc3 0 (enc q) (by rw [hc2']; rfl)
        have hz : (Kd.scalar enc h1).sz = 1 := rfl
        rw [hz] at h3
        simpa using h3)
      (by rw [hlen, hcs]; show 0 + min m xs.length ≤ cap * 1; omega) (by
        intro u hu
        simp only [encs, List.mem_map] at hu
        obtain ⟨q, _, rfl⟩ := hu
        exact h1 q)
    have hl' : (encs enc (ys.take xs.length)).length = xs.length := by rw [hlen]; show min m xs.length = _; omega
    rw [hl'] at hrun
    refine .value (v := goInt xs.length) (w1 := _) ?_ ⟨rfl, h (W.setRow g (cur.toList.take 0 ++ encs enc (ys.take xs.length) ++ cur.toList.drop (0 + xs.length)).toArray) [row (Kd.scalar enc h1) e (.slice (some ⟨g, 0, none⟩) xs.length cap) (ys.take xs.length)] ?_ ?_⟩
    · unfold execOp
      simp [ho, resolve, invoke, builtin, hs, hx, hrun, Result.andThen]
    · exact ⟨rfl, rfl, rfl, by simp [World.setRow], fun k hk hn => setRow_other W g k _ (fun he => hn (he ▸ h1' g (ha'.1 g rfl)))⟩
    · have hrow := setRow_heap W g cur (cur.toList.take 0 ++ encs enc (ys.take xs.length) ++ cur.toList.drop (0 + xs.length)).toArray e _ hh
      have hmin : (ys.take xs.length).length = xs.length := by simp; omega
      refine Hp.rowAt (Kd.R_of_own (h1 := h1) ⟨by simp [encs], .inr ⟨g, cap, _, by rw [hmin], Nat.zero_le _, hrow, by rw [hmin]; exact hnc, hcm, ?_, ?_⟩⟩ fun k hk => ?_)
      · simp [encs, hm, hcs]; omega
      · simp [encs, hm]
      · have : g = k := by simpa [Value.ownBlock] using hk
        subst this
        exact .inl (h1' _ (ha'.1 _ rfl))
end
section
variable {P : Program} {o : Oper} {a : Act} {F : Nat → Prop} {w0 W : World} {l r : List SP}
/-- A slice's literal. -/
theorem Hp.lit (H : Hp F w0 W l) {cs : Array Value} {e : TypeId} {n : Nat} (hrun : (execOp a.eval o).run P W = .ok (.value (.slice (some ⟨W.heap.size, 0, none⟩) n n)) (W.alloc (.cells cs e (0, 0)))) :
    Does P o a W fun v w1 => ∃ g, v = .slice (some ⟨g, 0, none⟩) n n ∧ Hp F w0 w1 (blk g cs e :: l) :=
  .value hrun ⟨_, rfl, H.alloc⟩
theorem reps_nil {α : Type} (R : α → List Value → Prop) (size : Nat) {xs : List α} {cs : Array Value} (hx : xs = []) (hc : cs = #[]) : Reps R size xs cs.toList := by
  subst hx; subst hc
  exact Reps.none _ _
end
/-- Data that is read, cut. -/
theorem C_cut {α : Type} {d : Kd α} {w : World} {A : Option Addr} {n c : Nat} {xs : List α} (h : d.C w A n xs) (i : Nat) (hi : i ≤ n) (hc : n ≤ c) : d.C w (if c = i then A else A.map (·.add (i * d.sz))) (n - i) (xs.drop i) := by
  refine ⟨by rw [List.length_drop, h.1], by have := h.2.1; omega, fun hp => ?_⟩
  obtain ⟨ad, rfl, hcell⟩ := h.2.2 (by omega)
  rw [if_neg (by omega)]
  refine ⟨ad.add (i * d.sz), rfl, fun j p hj => ?_⟩
  rw [List.getElem?_drop] at hj
  obtain ⟨cs, h1, h2, h3⟩ := hcell (i + j) p hj
  refine ⟨cs, h1, h2, fun q u hu => ?_⟩
  have ha : ∀ x y : Nat, (ad.add x).add y = ad.add (x + y) := by
    intro x y
    unfold Addr.add
    by_cases h1 : x = 0 <;> by_cases h2 : y = 0 <;> simp [h1, h2, Nat.add_assoc]
  rw [ha, ← h3 q u hu]
  congr 2
  rw [Nat.add_mul, Nat.add_assoc]
theorem C_front {α : Type} {d : Kd α} {w : World} {A : Option Addr} {n : Nat} {xs : List α} (h : d.C w A n xs) (i : Nat) (hi : i ≤ n) : d.C w A i (xs.take i) := by
  refine ⟨by rw [List.length_take, h.1]; omega, by have := h.2.1; omega, fun hp => ?_⟩
  obtain ⟨ad, rfl, hcell⟩ := h.2.2 (by omega)
  exact ⟨ad, rfl, fun j p hj => hcell j p (by rw [List.getElem?_take] at hj; split at hj <;> simp_all)⟩
/-- Where an element of what is read lies. -/
theorem C_at {α : Type} {enc : α → Value} {h1 : ∀ x : α, (enc x).oneCell' = true} {w : World} {A : Option Addr} {n : Nat} {xs : List α} (h : (Kd.scalar enc h1).C w A n xs) (i : Nat) (x : α) (hx : xs[i]? = some x) : ∃ ad, A = some ad ∧ w.cell? (ad.add i) = some (enc x) := by
  have hi : i < n := by have := (List.getElem?_eq_some_iff.1 hx).1; have := h.1; omega
  obtain ⟨ad, rfl, hcell⟩ := h.2.2 (by omega)
  obtain ⟨cs, h1, h2, h3⟩ := hcell i x hx
  have h2' : cs = [enc x] := h2
  have hz : (Kd.scalar enc ‹_›).sz = 1 := rfl
  refine ⟨ad, rfl, ?_⟩
  have := h3 0 (enc x) (by rw [h2']; rfl)
  rw [hz] at this
  simpa using this
/-- A region that draws its order, begun: what is known of memory holds behind each of its operations but those of ds. -/
theorem startH {P : Program} {ops : Array Oper} {Q : Exit → Act → World → Prop} {F : Nat → Prop} {w0 W : World} {l : List SP} (H : Hp F w0 W l) (ds : List Nat) {id n : Nat} {a : Act} (lits : Array Bool) (hm : P.follows .mixedOrders = true) (hn : ops.size = n) (hl : Array.replicate n false = lits)
    (h : Hp F w0 W.drew l → wpAnyLast P .any ops Q (fun w' => Hp F w0 w' l) ds n lits a W.drew) : (Code.region id ops true).wp P Q a W :=
  start_ (S := fun w' => Hp F w0 w' l) (ds := ds) lits hm hn hl H.drew h
/-- Where a cut begins. -/
def cutA (A : Option Addr) (c i : Nat) : Option Addr := if c = i then A else A.map (·.add i)
theorem run_cut {P : Program} {o : Oper} {a : Act} {t e : TypeId} {x lo : Operand} (ho : o.op = .slice t x (some lo) none none) {A : Option Addr} {n c : Nat} (hx : a.eval x = .slice A n c) {kl : IntKind} {j : Nat} (hl : a.eval lo = .int kl (j : Int)) (ht : P.underlying t = some (.slice e)) (hi : (P.info? e).map (·.size) = some 1) (hm : j ≤ n) :
    ∀ W : World, (execOp a.eval o).run P W = .ok (.value (.slice (cutA A c j) (n - j) (c - j))) W := by
  intro W
  obtain ⟨i, hi, hsz⟩ := Option.map_eq_some_iff.1 hi
  have hr := cut_from (P := P) t e kl ht hi 1 hsz A n c (j : Int) (Int.natCast_nonneg _) (by omega) W
  simp only [Int.toNat_natCast, Nat.mul_one] at hr
  unfold execOp
  simp [ho, hx, hl, Instr.sliceAt, Sem.run_bind, run_underlying ht, Result.andThen]
  rw [hr]
  rfl
theorem C_cutS {α : Type} {enc : α → Value} {h1 : ∀ x : α, (enc x).oneCell' = true} {w : World} {A : Option Addr} {n c : Nat} {xs : List α} (h : (Kd.scalar enc h1).C w A n xs) (i : Nat) (hi : i ≤ n) (hc : n ≤ c) : (Kd.scalar enc h1).C w (cutA A c i) (n - i) (xs.drop i) := by
  have := C_cut h i hi hc
  have hz : (Kd.scalar enc h1).sz = 1 := rfl
  rw [hz] at this
  simpa [cutA] using this
theorem run_cut2 {P : Program} {o : Oper} {a : Act} {t e : TypeId} {x lo hi' : Operand} (ho : o.op = .slice t x (some lo) (some hi') none) {A : Option Addr} {n c : Nat} (hx : a.eval x = .slice A n c) {kl kh : IntKind} {i j : Nat} (hl : a.eval lo = .int kl (i : Int)) (hh : a.eval hi' = .int kh (j : Int)) (ht : P.underlying t = some (.slice e)) (hi : (P.info? e).map (·.size) = some 1) (hij : i ≤ j) (hm : j ≤ n) (hc : n ≤ c) :
    ∀ W : World, (execOp a.eval o).run P W = .ok (.value (.slice (cutA A c i) (j - i) (c - i))) W := by
  intro W
  obtain ⟨q, hi, hsz⟩ := Option.map_eq_some_iff.1 hi
  have hr := cut_mid (P := P) t e kl kh ht hi 1 hsz A n c (i : Int) (j : Int) (Int.natCast_nonneg _) (by omega) (by omega) hc W
  simp only [Int.toNat_natCast, Nat.mul_one] at hr
  unfold execOp
  simp [ho, hx, hl, hh, Instr.sliceAt, Sem.run_bind, run_underlying ht, Result.andThen]
  rw [hr]
  rfl
theorem run_cut3 {P : Program} {o : Oper} {a : Act} {t e : TypeId} {x hi' : Operand} (ho : o.op = .slice t x none (some hi') none) {A : Option Addr} {n c : Nat} (hx : a.eval x = .slice A n c) {kh : IntKind} {j : Nat} (hh : a.eval hi' = .int kh (j : Int)) (ht : P.underlying t = some (.slice e)) (hi : (P.info? e).map (·.size) = some 1) (hm : j ≤ n) (hc : n ≤ c) :
    ∀ W : World, (execOp a.eval o).run P W = .ok (.value (.slice A j c)) W := by
  intro W
  obtain ⟨q, hi, hsz⟩ := Option.map_eq_some_iff.1 hi
  have hr := cut_to (P := P) t e kh ht hi A n c (j : Int) (Int.natCast_nonneg _) (by omega) hc W
  simp only [Int.toNat_natCast] at hr
  unfold execOp
  simp [ho, hx, hh, Instr.sliceAt, Sem.run_bind, run_underlying ht, Result.andThen]
  rw [hr]
/-- string(b). -/
theorem run_str {P : Program} {o : Oper} {a : Act} {W : World} {src dst e : TypeId} {x : Operand} (ho : o.op = .convert src dst x) {A : Option Addr} {n c : Nat} (hx : a.eval x = .slice A n c) (hs : P.underlying src = some (.slice e)) (he : P.underlying e = some (.int .u8)) (hd : P.underlying dst = some .string) {xs : List Int} (h : (Kd.int .u8).C W A n xs) :
    (execOp a.eval o).run P W = .ok (.value (.string (strOfNums xs))) W := by
  have hr := Kd.C_string (P := P) (c := c) hs he hd h
  unfold execOp
  simp [ho, hx, hr]
theorem Hp.only {F : Nat → Prop} {w0 W : World} {l : List SP} (H : Hp F w0 W l) : Hp F w0 W [] := ⟨H.kept, trivial⟩
section
variable {P : Program} {o : Oper} {a : Act} {F : Nat → Prop} {w0 W : World} {l r : List SP}
theorem Hp.form {α : Type} {d : Kd α} {e : Nat} {A : Option Addr} {n c : Nat} {xs : List α} (H : Hp F w0 W l) (hp : Pick (row d e (.slice A n c) xs) l r) (h : 0 < xs.length) : ∃ g, A = some ⟨g, 0, none⟩ := by
  obtain ⟨FA, ⟨F1, F2, h1, h2, hd, ha, _⟩, _, _⟩ := H.split (.cons hp (.nil _))
  obtain ⟨g, cap, he, _⟩ := Kd.R_form (show d.R e W 0 F1 _ xs from ha) h
  injection he with he
  exact ⟨g, he⟩
theorem Hp.rowCell {α : Type} {enc : α → Value} {h1 : ∀ x : α, (enc x).oneCell' = true} {e g n c : Nat} {xs : List α} (H : Hp F w0 W l) (hp : Pick (row (Kd.scalar enc h1) e (.slice (some ⟨g, 0, none⟩) n c) xs) l r) (i : Nat) (x : α) (hx : xs[i]? = some x) : W.cell? ⟨g, i, none⟩ = some (enc x) := by
  obtain ⟨he, _, hC⟩ := H.reads' hp
  obtain ⟨ad, ha, hc⟩ := C_at hC i x hx
  injection ha with ha
  subst ha
  rwa [add_plain] at hc
/-- An element of a row of one's own is written. -/
theorem Hp.storeRow {α : Type} {enc : α → Value} {h1 : ∀ x : α, (enc x).oneCell' = true} {e g n c : Nat} {xs : List α} (H : Hp F w0 W l) (ty : TypeId) (x y : Operand) (ho : o.op = .store ty x y) {i : Nat} (hx : a.eval x = .pointer (some ⟨g, i, none⟩))
    (hp : Pick (row (Kd.scalar enc h1) e (.slice (some ⟨g, 0, none⟩) n c) xs) l r) (u : α) (hy : a.eval y = enc u) (hcs : (enc u).cells = #[enc u]) (hi : (P.info? ty).map (·.size) = some 1) (hlt : i < xs.length) :
    Does P o a W fun v w1 => v = undef ∧ Hp F w0 w1 (row (Kd.scalar enc h1) e (.slice (some ⟨g, 0, none⟩) n c) (xs.set i u) :: r) := by
  obtain ⟨he, hnc, hC⟩ := H.reads' hp
  obtain ⟨FA, ⟨F1, F2, f1, f2, hd, ha, _⟩, hlt2, h⟩ := H.split (.cons hp (.nil _))
  have ha' : (Kd.scalar enc h1).R e W 0 F1 _ xs := ha
  have hg1 : FA g := f1 g (ha'.1 g rfl)
  have hcell := Kd.R_celln (xs[i]) ha' (i : Int) (by omega) (by omega)
  simp only [Int.toNat_natCast] at hcell
  have ht : W.there g i (#[enc u] : Array Value).size := fun j hj => by
    have : j = 0 := by simpa using hj
    subst this
    exact ⟨by rw [Nat.add_zero, hcell.1]; rfl, hcell.2⟩
  have hrun := run_storeAt_mid (P := P) W g i ty #[enc u] ht (by simpa using hi) (by simp [h1 u])
  have hrun' : (Instr.storeAt ty (.pointer (some ⟨g, i, none⟩)) (enc u)).run P W = .ok () (W.setCell ⟨g, i, none⟩ (enc u)) := by
    refine Eq.trans ?_ hrun
    simp only [Instr.storeAt, Instr.sureAddr, Sem.run_bind, Sem.run_pure, Result.andThen_ok, storeVar]
    rw [hcs]
    rfl
  have hp2 := Kd.R_putn ha' (i : Int) u
  simp only [Int.toNat_natCast] at hp2
  refine .skip (w1 := W.setCell ⟨g, i, none⟩ (enc u)) ?_ ⟨rfl, h _ [row (Kd.scalar enc h1) e (.slice (some ⟨g, 0, none⟩) n c) (xs.set i u)] ⟨rfl, rfl, rfl, by simp [World.setCell], fun k hk hn => Below.heap_setCell W ⟨g, i, none⟩ (enc u) k fun hkg => hn (hkg ▸ hg1)⟩ (Hp.rowAt (Kd.R_mono hp2 fun k q => .inl (f1 k q)))⟩
  unfold execOp
  simp only [ho, hx, hy, hrun', Sem.run_bind, Sem.run_pure, Result.andThen_ok]
end
theorem run_loadCell {P : Program} {o : Oper} {a : Act} {W : World} {ty : TypeId} {x : Operand} (ho : o.op = .load ty x) {p : Addr} (hx : a.eval x = .pointer (some p)) {d : TypeDesc} (hu : P.underlying ty = some d) (hd : d.isRow = false) {u : Value} (hc : W.cell? p = some u) :
    (execOp a.eval o).run P W = .ok (.value u) W := by
  have hagg : (isAgg ty).run P W = .ok false W := by
    unfold isAgg
    rw [Sem.run_bind, run_underlying hu W]
    cases d <;> simp_all [TypeDesc.isRow]
  unfold execOp
  simp [ho, hx, Instr.loadAt, Instr.sureAddr, loadVar, hagg, hc]
theorem C_cell {α : Type} {enc : α → Value} {h1 : ∀ x : α, (enc x).oneCell' = true} {w : World} {ad : Addr} {n : Nat} {xs : List α} (h : (Kd.scalar enc h1).C w (some ad) n xs) (i : Nat) (x : α) (hx : xs[i]? = some x) : w.cell? (ad.add i) = some (enc x) := by
  obtain ⟨ad', ha, hc⟩ := C_at h i x hx
  injection ha with ha
  subst ha
  exact hc
theorem C_some {α : Type} {d : Kd α} {w : World} {A : Option Addr} {n : Nat} {xs : List α} (h : d.C w A n xs) (hn : 0 < n) : ∃ ad, A = some ad := by
  obtain ⟨ad, rfl, _⟩ := h.2.2 hn
  exact ⟨ad, rfl⟩
theorem Hp.readsN {F : Nat → Prop} {w0 W : World} {l r : List SP} {α : Type} {d : Kd α} {e : Nat} {A : Option Addr} {n c : Nat} {xs : List α} (H : Hp F w0 W l) (hp : Pick (row d e (.slice A n c) xs) l r) : d.C W A n xs := by
  obtain ⟨rfl, _, h⟩ := H.reads' hp
  exact h
theorem run_box {P : Program} {o : Oper} {a : Act} {W : World} {t : TypeId} {x : Operand} (ho : o.op = .box t x) {v : Value} (hx : a.eval x = v) {cs : Array Value} (hv : v.cells = cs) : (execOp a.eval o).run P W = .ok (.value (.pointer (some ⟨W.heap.size, 0, none⟩))) (W.alloc (.cells cs t (0, 0))) := by
  subst hv; subst hx
  unfold execOp
  simp [ho, Instr.box, newVar, newRow, run_newObj]
theorem Hp.box {P : Program} {o : Oper} {a : Act} {F : Nat → Prop} {w0 W : World} {l : List SP} (H : Hp F w0 W l) {t : TypeId} {x : Operand} (ho : o.op = .box t x) {v : Value} (hx : a.eval x = v) {cs : Array Value} (hv : v.cells = cs) :
    Does P o a W fun v w1 => ∃ g, v = .pointer (some ⟨g, 0, none⟩) ∧ Hp F w0 w1 (blk g cs t :: l) :=
  H.new (run_box ho hx hv)
theorem Hp.ret_ct {P : Program} {F : Nat → Prop} {w0 W : World} {l r : List SP} (H : Hp F w0 W l) {fn : Func} {p u : Tmp} {ty : TypeId} (h : fn.results = #[.cell p ty, .tmp u]) {tmps : Array Value} {g : Nat} {cs : Array Value} {d : TypeDesc} (hp : Pick (blk g cs ty) l r)
    (hx : tmps.getD p undef = .pointer (some ⟨g, 0, none⟩)) (hu : P.underlying ty = some d) (hd : d.isRow = true) (hi : (P.info? ty).map (·.size) = some cs.size) : (results fn tmps).run P W = .ok (.tuple #[.agg cs, tmps.getD u undef]) W :=
  results_ct h tmps W g ty cs (0, 0) d hx (H.block hp) hu (by cases d <;> simp_all [TypeDesc.isRow]) hi
theorem R_raise {α : Type} {enc : α → Value} {h1 : ∀ x : α, (enc x).oneCell' = true} {e : Nat} {w : World} {ok : Nat → Prop} {v : Value} {xs : List α} {base : Nat} (h : (Kd.scalar enc h1).R e w 0 ok v xs) (hb : ∀ k, ok k → base ≤ k) : (Kd.scalar enc h1).R e w base (fun _ => True) v xs := by
  have own := Kd.own_of_R h
  refine Kd.R_of_own ⟨own.1, ?_⟩ (fun _ _ => trivial)
  rcases own.2 with hn | ⟨g, cap, cur, rfl, hg, r⟩
  · exact .inl hn
  · exact .inr ⟨g, cap, cur, rfl, hb g (h.1 g (by simp [Value.ownBlock])), r⟩
/-- What a walk over 'Hp' tells of a row that is answered, as the print tells it. -/
theorem row_out {α : Type} {enc : α → Value} {h1 : ∀ x : α, (enc x).oneCell' = true} {t : Nat} {xs : List α} {w w' : World} {e : Ending} (h : Ret (fun _ => False) w (fun v l => l = [row (Kd.scalar enc h1) t v xs]) e w') :
    ∃ v : Value, e = .returned v ∧ (Kd.scalar enc h1).R t w' w.heap.size (fun _ => True) v xs ∧ Below w.heap.size w w' := by
  obtain ⟨v, l, rfl, rfl, H⟩ := h
  obtain ⟨F1, F2, f1, f2, hd, ha, _⟩ := H.all
  exact ⟨v, rfl, R_raise ha (fun k hk => by rcases f1 k hk with ⟨q, _⟩ | ⟨q, _⟩; exact q.elim; exact q), H.below⟩
attribute [irreducible] ob blk row All ex star val
end Go.Proofs.YtiikllgppmmiaaaDoor.Sep
