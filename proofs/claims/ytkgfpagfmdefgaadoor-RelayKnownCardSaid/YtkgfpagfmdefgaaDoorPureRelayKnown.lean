/- What ports a frame goes on by, as the law puts it. -/
import Derived.Test.YtkgfpagfmdefgaaDoorORelayKnownx2
import Derived.Test.YtkgfpagfmdefgaaDoorAr
namespace Go.Proofs.YtkgfpagfmdefgaaDoor.Pure
open Go.RowKit Go.Proofs.YtkgfpagfmdefgaaDoor.ORelayKnown Go.Proofs.YtkgfpagfmdefgaaDoorW.PrintWords Go.Proofs.YtkgfpagfmdefgaaDoorW.PrintLast Go.Proofs.YtkgfpagfmdefgaaDoorW.PrintMore Go.Proofs.YtkgfpagfmdefgaaDoor.Ar
set_option linter.unusedVariables false
set_option linter.unusedSimpArgs false
theorem aw : treelinelaw18_awake.f = some true := by kernel_rfl
theorem mem_thru {inn : Int} {st : List Int} {x : Int} : ∀ {k : Nat}, x ∈ Llc.thru inn st k → ∃ i : Nat, i < k ∧ x = (i : Int) ∧ (i : Int) ≠ inn ∧ st.getD i 0 = 4
  | 0, h => by simp [Llc.thru] at h
  | k + 1, h => by
    rw [Llc.thru] at h
    split at h
    · rename_i hk
      rcases List.mem_append.1 h with h | h
      · obtain ⟨i, hi, r⟩ := mem_thru h
        exact ⟨i, by omega, r⟩
      · simp at h
        exact ⟨k, by omega, h, hk.1, hk.2⟩
    · obtain ⟨i, hi, r⟩ := mem_thru h
      exact ⟨i, by omega, r⟩
theorem thru_sorted (inn : Int) (st : List Int) : ∀ k, (Llc.thru inn st k).Pairwise (· < ·)
  | 0 => by simp [Llc.thru]
  | k + 1 => by
    have ih := thru_sorted inn st k
    rw [Llc.thru]
    split
    · rw [List.pairwise_append]
      refine ⟨ih, by simp, ?_⟩
      intro x hx y hy
      simp at hy
      obtain ⟨i, hi, rfl, -, -⟩ := mem_thru hx
      omega
    · exact ih
theorem getD_mem {xs : List Int} {i : Nat} (h : i < xs.length) : xs.getD i 0 ∈ xs := by
  rw [List.getD_eq_getElem?_getD, List.getElem?_eq_getElem h]
  exact List.getElem_mem h
theorem mem_sel {a wh : Int} {kn : Bool} {xs : List Int} {x : Int} (h : x ∈ Llc.sel a wh kn xs) : x ∈ xs := by
  unfold Llc.sel at h
  exact (List.mem_filter.1 h).1
theorem mem_ports {a q : Int} {d : List Int} {inn : Int} {st : List Int} {wh : Int} {kn : Bool} {x : Int} (h : x ∈ Llc.portsOf a q d inn st wh kn) :
    x ≠ inn ∧ 0 ≤ x ∧ x < (st.length : Int) ∧ st.getD x.toNat 0 = 4 ∧ 0 ≤ inn ∧ inn < (st.length : Int) ∧ st.getD inn.toNat 0 = 4 ∧ Llc.clsOf a q d = 2 := by
  unfold Llc.portsOf at h
  split at h
  · rename_i hc
    obtain ⟨i, hi, rfl, h1, h2⟩ := mem_thru (mem_sel h)
    exact ⟨h1, by omega, by omega, by simpa using h2, hc.1, hc.2.1, hc.2.2.1, hc.2.2.2⟩
  · simp at h
theorem ports_sorted (a q : Int) (d : List Int) (inn : Int) (st : List Int) (wh : Int) (kn : Bool) : (Llc.portsOf a q d inn st wh kn).Pairwise (· < ·) := by
  unfold Llc.portsOf
  split
  · exact (thru_sorted _ _ _).filter _
  · simp
theorem ports_len (a q : Int) (d : List Int) (inn : Int) (st : List Int) (wh : Int) (kn : Bool) : (Llc.portsOf a q d inn st wh kn).length ≤ st.length := by
  unfold Llc.portsOf
  split
  · exact Nat.le_trans (List.length_filter_le _ _) (Llc.thru_length _ _ _)
  · simp

theorem len_thru_step (inn : Int) (st : List Int) (k : Nat) : (Llc.thru inn st (k + 1)).length = (Llc.thru inn st k).length + (if (k : Int) ≠ inn ∧ st.getD k 0 = 4 then 1 else 0) := by
  rw [Llc.thru]; split <;> simp
theorem known_l0 (st k_ u : List Int) (x9 x10 : Int) (a b q : Int) (d : List Int) (hl : st.length ≤ 1000) (r : Option Bool)
    (hend : ∀ k, treelinelaw18_RelayKnown.l0 (k + 1 + 1) st x9 x10 k_ u ((Llc.thru x9 st st.length).length : Int) (st.length : Int) a b q d = r) :
    ∀ m (i : Nat), i + m = st.length → treelinelaw18_RelayKnown.l0 (m + 1 + 1) st x9 x10 k_ u ((Llc.thru x9 st i).length : Int) (i : Int) a b q d = r
  | 0, i, hi => by
    obtain rfl : i = st.length := by omega
    exact hend 0
  | m + 1, i, hi => by
    have ih := known_l0 st k_ u x9 x10 a b q d hl r hend m (i + 1) (by omega)
    have hle := Llc.thru_length x9 st i
    have hw : wrap64 ((i : Int) + 1) = ((i + 1 : Nat) : Int) := by rw [w64 (by omega) (by omega)]; omega
    have hn : wrap64 (((Llc.thru x9 st i).length : Int) + 1) = (((Llc.thru x9 st i).length + 1 : Nat) : Int) := by rw [w64 (by omega) (by omega)]; omega
    have hst := len_thru_step x9 st i
    have q1 : (i : Int) < (st.length : Int) := by omega
    have q2 : 0 ≤ (i : Int) := by omega
    have hr : rd st (i : Int) = st.getD i 0 := by unfold rd; simp
    clear hl hle hi hend
    rw [treelinelaw18_RelayKnown.l0, if_pos q1]
    by_cases e : (i : Int) = x9
    · rw [if_neg (fun h => h.1 e)] at hst
      rw [if_pos e, hw]
      rw [hst] at ih
      exact ih
    · rw [if_neg e, if_pos q2, hr]
      by_cases e4 : st.getD i 0 = 4
      · rw [if_pos ⟨e, e4⟩] at hst
        rw [if_pos e4, hw, hn, ← hst]
        exact ih
      · rw [if_neg (fun h => e4 h.2)] at hst
        rw [if_neg e4, hw]
        rw [hst] at ih
        exact ih
theorem mem_thru_of {inn : Int} {st : List Int} {i : Nat} (h1 : (i : Int) ≠ inn) (h2 : st.getD i 0 = 4) : ∀ {k : Nat}, i < k → (i : Int) ∈ Llc.thru inn st k
  | 0, h => by omega
  | k + 1, h => by
    rw [Llc.thru]
    by_cases e : i = k
    · subst e
      rw [if_pos ⟨h1, h2⟩]
      simp
    · have ih := mem_thru_of h1 h2 (k := k) (by omega)
      split
      · exact List.mem_append_left _ ih
      · exact ih
theorem one_of (p : Int) : ∀ (xs : List Int), xs.Pairwise (· < ·) → (xs.filter fun x => x == p).length = if p ∈ xs then 1 else 0
  | [], _ => by simp
  | x :: xs, h => by
    have ih := one_of p xs (List.pairwise_cons.1 h).2
    by_cases e : x = p
    · subst e
      have hn : x ∉ xs := fun hm => by have := (List.pairwise_cons.1 h).1 x hm; omega
      rw [if_neg hn] at ih
      simp [ih]
    · have e2 : ¬ p = x := fun h => e h.symm
      rw [List.filter_cons_of_neg (by simpa using e), ih]
      by_cases hm : p ∈ xs
      · rw [if_pos hm, if_pos (List.mem_cons_of_mem _ hm)]
      · rw [if_neg hm, if_neg (by simp [hm, e2])]
theorem sel_all {a wh : Int} {kn : Bool} (xs : List Int) (h : (Llc.grp a || !kn) = true) : Llc.sel a wh kn xs = xs := by
  unfold Llc.sel
  rw [List.filter_eq_self]
  intro x _
  cases hg : Llc.grp a <;> cases kn <;> simp_all
theorem known_j2 (st : List Int) (x9 x10 : Int) (a b q : Int) (d : List Int) (h9 : 0 ≤ x9) (h9l : x9 < (st.length : Int)) (h10 : 0 ≤ x10) (h10l : x10 < (st.length : Int)) (n : Nat) (b1 : Bool) (hb : b1 = !decide (Llc.clsOf a q d = 2 ∧ st.getD x9.toNat 0 = 4)) (hn : n = (Llc.thru x9 st st.length).length) (k : Nat) :
    treelinelaw18_RelayKnown.j2 (k + 1) st x9 x10 (Llc.portsOf a q d x9 st x10 true) (Llc.portsOf a q d x9 st x10 false) (n : Int) b1 a b q d = some true := by
  subst hn
  rw [treelinelaw18_RelayKnown.j2]
  by_cases hc : Llc.clsOf a q d = 2 ∧ st.getD x9.toNat 0 = 4
  · rw [decide_eq_true hc] at hb
    subst hb
    have hcc : 0 ≤ x9 ∧ x9 < (st.length : Int) ∧ st.getD x9.toNat 0 = 4 ∧ Llc.clsOf a q d = 2 := ⟨h9, h9l, hc.2, hc.1⟩
    have pu : Llc.portsOf a q d x9 st x10 false = Llc.thru x9 st st.length := by
      unfold Llc.portsOf
      rw [if_pos hcc, sel_all _ (by simp)]
    have pk : Llc.portsOf a q d x9 st x10 true = Llc.sel a x10 true (Llc.thru x9 st st.length) := by
      unfold Llc.portsOf
      rw [if_pos hcc]
    rw [pu, pk, if_neg (by simp)]
    by_cases hg : bits .and .u64 (a / 1099511627776) 1 = 1
    · have hg2 : Llc.grp a = true := by unfold Llc.grp; rw [hg]; rfl
      rw [if_pos hg, sel_all _ (by rw [hg2]; rfl), if_pos rfl]
      simp
    · have hg2 : Llc.grp a = false := by unfold Llc.grp; exact beq_eq_false_iff_ne.2 hg
      have hs : Llc.sel a x10 true (Llc.thru x9 st st.length) = (Llc.thru x9 st st.length).filter fun x => x == x10 := by
        unfold Llc.sel
        rw [hg2]
        rfl
      rw [if_neg hg, if_pos rfl, hs]
      have h1 := one_of x10 _ (thru_sorted x9 st st.length)
      by_cases e : x9 = x10
      · have hm : x10 ∉ Llc.thru x9 st st.length := fun hm => by
          obtain ⟨i, _, hi, hne, _⟩ := mem_thru hm
          exact hne (hi.symm.trans e.symm)
        rw [if_neg hm] at h1
        rw [if_pos e, h1]
        rfl
      · rw [if_neg e, if_pos h10, if_pos h10l]
        have hx : ((x10.toNat : Nat) : Int) = x10 := Int.toNat_of_nonneg h10
        by_cases h4 : rd st x10 = 4
        · have hm : x10 ∈ Llc.thru x9 st st.length := by
            have := mem_thru_of (inn := x9) (st := st) (i := x10.toNat) (by rw [hx]; exact fun h => e h.symm) h4 (k := st.length) (by omega)
            rwa [hx] at this
          rw [if_pos hm] at h1
          rw [h1, h4]
          rfl
        · have hm : x10 ∉ Llc.thru x9 st st.length := fun hm => by
            obtain ⟨i, _, hi, _, hv⟩ := mem_thru hm
            apply h4
            unfold rd
            rw [hi]
            simpa using hv
          rw [if_neg hm] at h1
          have h4b : (rd st x10 == 4) = false := beq_eq_false_iff_ne.2 h4
          rw [h1, h4b]
          rfl
  · rw [decide_eq_false hc] at hb
    subst hb
    have p0 : ∀ kn, Llc.portsOf a q d x9 st x10 kn = [] := fun kn => by
      unfold Llc.portsOf
      rw [if_neg (fun h => hc ⟨h.2.2.2, h.2.2.1⟩)]
    rw [p0, p0, if_pos (by rfl)]
    rfl
theorem known (st : List Int) (inn wh : Int) (a b q : Int) (d : List Int) (a0 : 0 ≤ a) (a1 : a < 18446744073709551616) (i0 : 0 ≤ inn) (i1 : inn < 256) (w0 : 0 ≤ wh) (w1 : wh < 256) : ∃ k, treelinelaw18_RelayKnown.f k a b q d inn st wh = some true := by
  have hopen : ∀ b0 : Bool, b0 = true → treelinelaw18_RelayKnown.j0 1 inn st wh b0 a b q d = some true := by
    intro b0 h
    rw [treelinelaw18_RelayKnown.j0, if_pos h, aw]; rfl
  by_cases hd : d.length ≤ 2000
  · by_cases hz : (st.length : Int) = 0
    · refine ⟨1, ?_⟩
      unfold treelinelaw18_RelayKnown.f
      rw [aw, Option.bind_some, if_pos rfl, if_neg (by omega), if_pos hz]
      exact hopen _ rfl
    · by_cases hs : st.length ≤ 200
      · obtain ⟨x9, e9⟩ : ∃ x, Int.tmod (wrap64 inn) (st.length : Int) = x := ⟨_, rfl⟩
        obtain ⟨x10, e10⟩ : ∃ x, Int.tmod (wrap64 wh) (st.length : Int) = x := ⟨_, rfl⟩
        have r9 : 0 ≤ x9 ∧ x9 < (st.length : Int) := by
          rw [← e9, w64 (by omega) (by omega), tmod_nn i0]
          exact ⟨Int.emod_nonneg _ hz, Int.emod_lt_of_pos _ (by omega)⟩
        have r10 : 0 ≤ x10 ∧ x10 < (st.length : Int) := by
          rw [← e10, w64 (by omega) (by omega), tmod_nn w0]
          exact ⟨Int.emod_nonneg _ hz, Int.emod_lt_of_pos _ (by omega)⟩
        have hp : ∀ kn, relay_Ports.f a b q d x9 st x10 kn = some (Llc.portsOf a q d x9 st x10 kn) := fun kn => by
          unfold relay_Ports.f
          rw [if_pos ⟨by omega, a0, a1, by omega⟩]
        have hcl : relay_Class.f a b q d = some (Llc.clsOf a q d) := by unfold relay_Class.f; rw [if_pos ⟨by omega, a0, a1⟩]
        refine ⟨st.length + 1 + 1 + 1, ?_⟩
        unfold treelinelaw18_RelayKnown.f
        rw [aw, Option.bind_some, if_pos rfl, if_neg (by omega), if_neg hz, decide_eq_false (by omega), treelinelaw18_RelayKnown.j0, if_neg (by simp), if_neg hz, e9, e10, hp, Option.bind_some, hp, Option.bind_some]
        refine known_l0 st _ _ x9 x10 a b q d (by omega) (some true) ?_ st.length 0 (by omega)
        intro k
        have hj := fun b1 hb => known_j2 st x9 x10 a b q d r9.1 r9.2 r10.1 r10.2 _ b1 hb rfl k
        rw [treelinelaw18_RelayKnown.l0, if_neg (by omega), hcl, Option.bind_some]
        by_cases hc : Llc.clsOf a q d = 2
        · rw [if_pos hc, if_pos r9.1, if_pos r9.2]
          refine hj _ ?_
          by_cases h4 : rd st x9 = 4
          · rw [decide_eq_true ⟨hc, h4⟩, h4]; rfl
          · rw [decide_eq_false (fun h => h4 h.2)]
            exact bne_iff_ne.2 h4
        · rw [if_neg hc]
          refine hj _ ?_
          rw [decide_eq_false (fun h => hc h.1)]; rfl
      · refine ⟨1, ?_⟩
        unfold treelinelaw18_RelayKnown.f
        rw [aw, Option.bind_some, if_pos rfl, if_neg (by omega), if_neg hz]
        exact hopen _ (decide_eq_true (by omega))
  · refine ⟨1, ?_⟩
    unfold treelinelaw18_RelayKnown.f
    rw [aw, Option.bind_some, if_pos rfl, if_pos (by omega)]
    exact hopen _ rfl
theorem RelayKnown (W : World) (x : Int × Int × Int × List Int) (inn : Int) (st : List Int) (wh : Int) (w0 : (Lit.int .u64 x.1).wf = true ∧ (Lit.int .u64 x.2.1).wf = true ∧ (Lit.int .u16 x.2.2.1).wf = true ∧ (∀ y ∈ x.2.2.2, (Lit.int .u8 y).wf = true)) (w1 : (Lit.int .u8 inn).wf = true) (w2 : ∀ y ∈ st, (Lit.int .i64 y).wf = true) (w3 : (Lit.int .u8 wh).wf = true) (hG : Llc.Glob W)
    {A : Option Addr} {c : Nat} (hC : (Kd.int .u8).C W A x.2.2.2.length x.2.2.2) (hc : x.2.2.2.length ≤ c) {A2 : Option Addr} {c2 : Nat} (hC2 : (Kd.int .i64).C W A2 st.length st) (hc2 : st.length ≤ c2) :
    Calls Tryd.prog 4 #[.agg #[.int .u64 x.1, .int .u64 x.2.1, .int .u16 x.2.2.1, .slice A x.2.2.2.length c], .int .u8 inn, .slice A2 st.length c2, .int .u8 wh] W fun e w' => e = .returned (.bool true) ∧ Below W.heap.size W w' := by
  obtain ⟨a, b, q, d⟩ := x
  obtain ⟨a0, a1⟩ := wf_u64 w0.1
  obtain ⟨i0, i1⟩ := wf_u8 w1
  obtain ⟨h0, h1⟩ := wf_u8 w3
  obtain ⟨k, hk⟩ := known st inn wh a b q d a0 a1 i0 i1 h0 h1
  exact treelinelaw18_RelayKnown.calls k a b q A c d inn A2 c2 st wh true W hC hc hC2 hc2 hk ⟨hG⟩

end Go.Proofs.YtkgfpagfmdefgaaDoor.Pure
