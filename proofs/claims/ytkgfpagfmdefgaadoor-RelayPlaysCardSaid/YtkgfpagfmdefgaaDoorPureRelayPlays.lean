/- What ports a frame goes on by, as the document has it. -/
import Derived.Test.YtkgfpagfmdefgaaDoorORelayPlaysx7
import Derived.Test.YtkgfpagfmdefgaaDoorAr
namespace Go.Proofs.YtkgfpagfmdefgaaDoor.Pure
open Go.RowKit Go.Proofs.YtkgfpagfmdefgaaDoor.ORelayPlays Go.Proofs.YtkgfpagfmdefgaaDoorW.PrintWords Go.Proofs.YtkgfpagfmdefgaaDoorW.PrintLast Go.Proofs.YtkgfpagfmdefgaaDoorW.PrintMore Go.Proofs.YtkgfpagfmdefgaaDoor.Ar
set_option linter.unusedVariables false
set_option linter.unusedSimpArgs false
theorem aw : treelinelaw18_awake.f = some true := by kernel_rfl
theorem mem_thru {inn : Int} {st : List Int} {x : Int} : ∀ {k : Nat}, x ∈ Llc.thru inn st k → ∃ i : Nat, i < k ∧ x = (i : Int) ∧ (i : Int) ≠ inn ∧ st.getD i 0 = 4
  | 0, h => by simp [Llc.thru] at h
  | k + 1, h => by
    rw [Llc.thru] at h
    split at h
    · rename_i hk
      rcases List.mem_append.1 h with h | h
      · obtain ⟨i, hi, r⟩ := mem_thru h
        exact ⟨i, by omega, r⟩
      · simp at h
        exact ⟨k, by omega, h, hk.1, hk.2⟩
    · obtain ⟨i, hi, r⟩ := mem_thru h
      exact ⟨i, by omega, r⟩
theorem thru_sorted (inn : Int) (st : List Int) : ∀ k, (Llc.thru inn st k).Pairwise (· < ·)
  | 0 => by simp [Llc.thru]
  | k + 1 => by
    have ih := thru_sorted inn st k
    rw [Llc.thru]
    split
    · rw [List.pairwise_append]
      refine ⟨ih, by simp, ?_⟩
      intro x hx y hy
      simp at hy
      obtain ⟨i, hi, rfl, -, -⟩ := mem_thru hx
      omega
    · exact ih
theorem getD_mem {xs : List Int} {i : Nat} (h : i < xs.length) : xs.getD i 0 ∈ xs := by
  rw [List.getD_eq_getElem?_getD, List.getElem?_eq_getElem h]
  exact List.getElem_mem h
theorem mem_sel {a wh : Int} {kn : Bool} {xs : List Int} {x : Int} (h : x ∈ Llc.sel a wh kn xs) : x ∈ xs := by
  unfold Llc.sel at h
  exact (List.mem_filter.1 h).1
theorem mem_ports {a q : Int} {d : List Int} {inn : Int} {st : List Int} {wh : Int} {kn : Bool} {x : Int} (h : x ∈ Llc.portsOf a q d inn st wh kn) :
    x ≠ inn ∧ 0 ≤ x ∧ x < (st.length : Int) ∧ st.getD x.toNat 0 = 4 ∧ 0 ≤ inn ∧ inn < (st.length : Int) ∧ st.getD inn.toNat 0 = 4 ∧ Llc.clsOf a q d = 2 := by
  unfold Llc.portsOf at h
  split at h
  · rename_i hc
    obtain ⟨i, hi, rfl, h1, h2⟩ := mem_thru (mem_sel h)
    exact ⟨h1, by omega, by omega, by simpa using h2, hc.1, hc.2.1, hc.2.2.1, hc.2.2.2⟩
  · simp at h
theorem ports_sorted (a q : Int) (d : List Int) (inn : Int) (st : List Int) (wh : Int) (kn : Bool) : (Llc.portsOf a q d inn st wh kn).Pairwise (· < ·) := by
  unfold Llc.portsOf
  split
  · exact (thru_sorted _ _ _).filter _
  · simp
theorem ports_len (a q : Int) (d : List Int) (inn : Int) (st : List Int) (wh : Int) (kn : Bool) : (Llc.portsOf a q d inn st wh kn).length ≤ st.length := by
  unfold Llc.portsOf
  split
  · exact Nat.le_trans (List.length_filter_le _ _) (Llc.thru_length _ _ _)
  · simp

def Pk (a q : Int) (d : List Int) (inn : Int) (st : List Int) (wh : Int) (kn : Bool) (k : Nat) : List Int :=
  if 0 ≤ inn ∧ inn < (st.length : Int) ∧ st.getD inn.toNat 0 = 4 ∧ Llc.clsOf a q d = 2 then Llc.sel a wh kn (Llc.thru inn st k) else []
theorem Pk_shut {a q : Int} {d : List Int} {inn : Int} {st : List Int} {wh : Int} {kn : Bool} (k : Nat) (h : ¬ (0 ≤ inn ∧ inn < (st.length : Int) ∧ st.getD inn.toNat 0 = 4 ∧ Llc.clsOf a q d = 2)) : Pk a q d inn st wh kn (k + 1) = Pk a q d inn st wh kn k := by
  unfold Pk; rw [if_neg h, if_neg h]
theorem Pk_miss {a q : Int} {d : List Int} {inn : Int} {st : List Int} {wh : Int} {kn : Bool} {k : Nat} (h : ¬ ((k : Int) ≠ inn ∧ st.getD k 0 = 4)) : Pk a q d inn st wh kn (k + 1) = Pk a q d inn st wh kn k := by
  unfold Pk; rw [Llc.thru_miss h]
theorem Pk_hit {a q : Int} {d : List Int} {inn : Int} {st : List Int} {wh : Int} {kn : Bool} {k : Nat} (h : 0 ≤ inn ∧ inn < (st.length : Int) ∧ st.getD inn.toNat 0 = 4 ∧ Llc.clsOf a q d = 2) (h1 : (k : Int) ≠ inn) (h4 : st.getD k 0 = 4) (hs : (Llc.grp a || (!kn || (k : Int) == wh)) = true) : Pk a q d inn st wh kn (k + 1) = Pk a q d inn st wh kn k ++ [(k : Int)] := by
  unfold Pk; rw [if_pos h, if_pos h, Llc.thru_hit h1 h4, Llc.sel_hit _ hs]
theorem Pk_not {a q : Int} {d : List Int} {inn : Int} {st : List Int} {wh : Int} {kn : Bool} {k : Nat} (hs : (Llc.grp a || (!kn || (k : Int) == wh)) = false) : Pk a q d inn st wh kn (k + 1) = Pk a q d inn st wh kn k := by
  by_cases h : (k : Int) ≠ inn ∧ st.getD k 0 = 4
  · unfold Pk; rw [Llc.thru_hit h.1 h.2, Llc.sel_miss _ hs]
  · exact Pk_miss h
theorem Pk_len (a q : Int) (d : List Int) (inn : Int) (st : List Int) (wh : Int) (kn : Bool) (k : Nat) : (Pk a q d inn st wh kn k).length ≤ k := by
  unfold Pk
  split
  · exact Nat.le_trans (Llc.sel_length _ _ _ _) (Llc.thru_length _ _ _)
  · simp
theorem b_eq {a : Int} (a0 : 0 ≤ a) (a1 : a < 18446744073709551616) : bits .and .u64 (a / 1099511627776) 1 = a / 1099511627776 % 2 :=
  mask_u64 1 (by omega) (by omega) (by omega) (by decide) (by decide)
theorem t_eq {a : Int} (a0 : 0 ≤ a) (a1 : a < 18446744073709551616) : Int.tmod (IntKind.u64.wrap (Int.tdiv a 1099511627776)) 2 = a / 1099511627776 % 2 := by
  rw [tdiv_nn a0, wu64 (by omega) (by omega), tmod_nn (by omega)]
theorem grp_eq {a : Int} (a0 : 0 ≤ a) (a1 : a < 18446744073709551616) : Llc.grp a = decide (Int.tmod (IntKind.u64.wrap (Int.tdiv a 1099511627776)) 2 = 1) := by
  unfold Llc.grp
  rw [t_eq a0 a1, b_eq a0 a1]
  by_cases h : a / 1099511627776 % 2 = 1
  · rw [decide_eq_true h, h]; rfl
  · rw [decide_eq_false h]; exact beq_eq_false_iff_ne.2 h
theorem ref_l0 (inn : Int) (st : List Int) (wh : Int) (kn : Bool) (a b q : Int) (d : List Int) (hst : st.length ≤ 100000) (hd : d.length ≤ 100000) (a0 : 0 ≤ a) (a1 : a < 18446744073709551616) (e : Nat) :
    ∀ m (i : Nat), i + m = st.length → treelineref18_Ports.l0 (2 * m + 1 + e) inn st wh kn (Pk a q d inn st wh kn i) (i : Int) a b q d = some (Pk a q d inn st wh kn st.length)
  | 0, i, hi => by
    obtain rfl : i = st.length := by omega
    rw [show 2 * 0 + 1 + e = e + 1 by omega, treelineref18_Ports.l0, if_neg (by omega)]
  | m + 1, i, hi => by
    have ih := ref_l0 inn st wh kn a b q d hst hd a0 a1 e m (i + 1) (by omega)
    have hcl : treelineref18_Class.f a b q d = some (Llc.clsOf a q d) := by unfold treelineref18_Class.f; rw [if_pos ⟨hd, a0, a1⟩]
    have hw : wrap64 ((i : Int) + 1) = ((i + 1 : Nat) : Int) := by rw [w64 (by omega) (by omega)]; omega
    have hlen := Pk_len a q d inn st wh kn i
    have q0 : (Pk a q d inn st wh kn i).length < 17592186044416 := by omega
    have q1 : (i : Int) < (st.length : Int) := by omega
    have q2 : 0 ≤ (i : Int) := by omega
    have hr : rd st (i : Int) = st.getD i 0 := by unfold rd; simp
    have hg := grp_eq a0 a1
    have ek : 2 * (m + 1) + 1 + e = (2 * m + 1 + e) + 1 + 1 := by omega
    clear hlen hst hd a0 a1 hi
    rw [ek]
    have stay : Pk a q d inn st wh kn (i + 1) = Pk a q d inn st wh kn i → treelineref18_Ports.l0 (2 * m + 1 + e) inn st wh kn (Pk a q d inn st wh kn i) ((i + 1 : Nat) : Int) a b q d = some (Pk a q d inn st wh kn st.length) := fun h => by rw [← h]; exact ih
    have add : Pk a q d inn st wh kn (i + 1) = Pk a q d inn st wh kn i ++ [(i : Int)] → treelineref18_Ports.l0 (2 * m + 1 + e) inn st wh kn (Pk a q d inn st wh kn i ++ [(i : Int)]) ((i + 1 : Nat) : Int) a b q d = some (Pk a q d inn st wh kn st.length) := fun h => by rw [← h]; exact ih
    have jf : Pk a q d inn st wh kn (i + 1) = Pk a q d inn st wh kn i → treelineref18_Ports.j1 (2 * m + 1 + e + 1) inn st wh kn (Pk a q d inn st wh kn i) (i : Int) false a b q d = some (Pk a q d inn st wh kn st.length) := fun h => by
      rw [treelineref18_Ports.j1, if_neg (by simp), hw]; exact stay h
    rw [treelineref18_Ports.l0, if_pos q1]
    by_cases h0 : inn ≥ 0
    · rw [if_pos h0]
      by_cases h1 : inn < (st.length : Int)
      · rw [if_pos h1]
        by_cases e1 : (i : Int) = inn
        · rw [if_pos e1]; exact jf (Pk_miss fun h => h.1 e1)
        · rw [if_neg e1, if_pos q2, hr]
          by_cases e4 : st.getD i 0 = 4
          · rw [if_pos e4, hcl, Option.bind_some]
            by_cases c2 : Llc.clsOf a q d = 2
            · rw [show (Llc.clsOf a q d == 2) = true from beq_iff_eq.2 c2, treelineref18_Ports.j1, if_pos rfl, if_pos h0, if_pos h1, hw]
              by_cases s4 : rd st inn = 4
              · have hc : 0 ≤ inn ∧ inn < (st.length : Int) ∧ st.getD inn.toNat 0 = 4 ∧ Llc.clsOf a q d = 2 := ⟨h0, h1, s4, c2⟩
                rw [if_pos s4]
                by_cases g : Int.tmod (IntKind.u64.wrap (Int.tdiv a 1099511627776)) 2 = 1
                · rw [decide_eq_true g] at hg
                  rw [if_pos g, if_pos q0]
                  exact add (Pk_hit hc e1 e4 (by rw [hg]; rfl))
                · rw [decide_eq_false g] at hg
                  rw [if_neg g]
                  cases kn
                  · rw [if_neg (by simp), if_pos q0]
                    exact add (Pk_hit hc e1 e4 (by rw [hg]; rfl))
                  · rw [if_pos rfl]
                    by_cases ew : wh = (i : Int)
                    · rw [if_pos ew, if_pos q0]
                      exact add (Pk_hit hc e1 e4 (by rw [hg, ew]; simp))
                    · rw [if_neg ew]
                      exact stay (Pk_not (by rw [hg, show ((i : Int) == wh) = false from beq_eq_false_iff_ne.2 fun h => ew h.symm]; rfl))
              · rw [if_neg s4]
                exact stay (Pk_shut _ fun h => s4 h.2.2.1)
            · rw [show (Llc.clsOf a q d == 2) = false from beq_eq_false_iff_ne.2 c2]
              exact jf (Pk_shut _ fun h => c2 h.2.2.2)
          · rw [if_neg e4]; exact jf (Pk_miss fun h => e4 h.2)
      · rw [if_neg h1]; exact jf (Pk_shut _ fun h => h1 h.2.1)
    · rw [if_neg h0]; exact jf (Pk_shut _ fun h => h0 h.1)
theorem ref_ports (inn : Int) (st : List Int) (wh : Int) (kn : Bool) (a b q : Int) (d : List Int) (hst : st.length ≤ 100000) (hd : d.length ≤ 100000) (a0 : 0 ≤ a) (a1 : a < 18446744073709551616) (e : Nat) :
    treelineref18_Ports.f (2 * st.length + 1 + e) a b q d inn st wh kn = some (Llc.portsOf a q d inn st wh kn) := by
  have := ref_l0 inn st wh kn a b q d hst hd a0 a1 e st.length 0 (Nat.zero_add _)
  have hz : Pk a q d inn st wh kn 0 = [] := by unfold Pk Llc.thru Llc.sel; split <;> rfl
  rw [hz] at this
  exact this
theorem rights {b : Int} (b0 : 0 ≤ b) (b1 : b < 18446744073709551616) : ∃ v, ids_Right.f b = some v ∧ treelineref01_Right.f b = some v := by
  unfold ids_Right.f treelineref01_Right.f
  by_cases h : b > 0
  · rw [if_pos h, if_pos h]
    by_cases h1 : b ≤ 281474976710655
    · rw [if_pos h1, if_pos (by omega)]
      refine ⟨_, rfl, ?_⟩
      rw [t_eq b0 b1, b_eq b0 b1]
      have : b / 1099511627776 % 2 = 0 ∨ b / 1099511627776 % 2 = 1 := by omega
      rcases this with h | h <;> rw [h] <;> rfl
    · rw [if_neg h1, if_neg (by omega)]
      exact ⟨_, rfl, rfl⟩
  · rw [if_neg h, if_neg h]
    exact ⟨_, rfl, rfl⟩
theorem learns (a b q : Int) (d : List Int) (x : Int) (hd : d.length ≤ 100000) (a0 : 0 ≤ a) (a1 : a < 18446744073709551616) (b0 : 0 ≤ b) (b1 : b < 18446744073709551616) : ∃ v, relay_Learns.f a b q d x = some v ∧ treelineref18_Learns.f a b q d x = some v := by
  have hcl : treelineref18_Class.f a b q d = some (Llc.clsOf a q d) := by unfold treelineref18_Class.f; rw [if_pos ⟨hd, a0, a1⟩]
  have hcr : relay_Class.f a b q d = some (Llc.clsOf a q d) := by unfold relay_Class.f; rw [if_pos ⟨hd, a0, a1⟩]
  obtain ⟨v, h1, h2⟩ := rights b0 b1
  unfold relay_Learns.f treelineref18_Learns.f port_Learns.f
  rw [hcl, hcr, Option.bind_some, Option.bind_some, h1, h2]
  by_cases c2 : Llc.clsOf a q d = 2
  · rw [if_pos c2, if_pos c2]
    by_cases e3 : x = 3
    · rw [if_pos e3, if_pos e3]; exact ⟨v, rfl, rfl⟩
    · rw [if_neg e3, if_neg e3]
      by_cases e4 : x = 4
      · rw [if_pos e4, e4]; exact ⟨v, rfl, rfl⟩
      · rw [if_neg e4, show (x == 4) = false from beq_eq_false_iff_ne.2 e4]; exact ⟨false, rfl, rfl⟩
  · rw [if_neg c2, if_neg c2]; exact ⟨false, rfl, rfl⟩
theorem same_l0 (xs : List Int) (hl : xs.length ≤ 100000) (e : Nat) : ∀ m (i : Nat), i + m = xs.length → treelinelaw18_RelayPlays.l0 (m + 1 + e) xs xs (i : Int) = some true
  | 0, i, hi => by rw [show 0 + 1 + e = e + 1 by omega, treelinelaw18_RelayPlays.l0, if_neg (by omega)]
  | m + 1, i, hi => by
    have hw : wrap64 ((i : Int) + 1) = ((i + 1 : Nat) : Int) := by rw [w64 (by omega) (by omega)]; omega
    rw [show m + 1 + 1 + e = m + 1 + e + 1 by omega, treelinelaw18_RelayPlays.l0, if_pos (by omega), if_pos (by omega), if_pos (by omega), if_pos rfl, hw]
    exact same_l0 xs hl e m (i + 1) (by omega)
theorem plays (inn : Int) (st : List Int) (wh : Int) (kn : Bool) (a b q : Int) (d : List Int) (a0 : 0 ≤ a) (a1 : a < 18446744073709551616) (b0 : 0 ≤ b) (b1 : b < 18446744073709551616) : ∃ k, treelinelaw18_RelayPlays.f k a b q d inn st wh kn = some true := by
  have hopen : ∀ b0 : Bool, b0 = true → treelinelaw18_RelayPlays.j0 1 inn st wh kn b0 a b q d = some true := by
    intro b0 h
    rw [treelinelaw18_RelayPlays.j0, if_pos h, aw]; rfl
  by_cases hd : d.length ≤ 2000
  · by_cases hs : st.length ≤ 2000
    · have hp : relay_Ports.f a b q d inn st wh kn = some (Llc.portsOf a q d inn st wh kn) := by
        unfold relay_Ports.f
        rw [if_pos ⟨by omega, a0, a1, by omega⟩]
      have hcl : treelineref18_Class.f a b q d = some (Llc.clsOf a q d) := by unfold treelineref18_Class.f; rw [if_pos ⟨by omega, a0, a1⟩]
      have hcr : relay_Class.f a b q d = some (Llc.clsOf a q d) := by unfold relay_Class.f; rw [if_pos ⟨by omega, a0, a1⟩]
      obtain ⟨v, l1, l2⟩ := learns a b q d inn (by omega) a0 a1 b0 b1
      have hl := ports_len a q d inn st wh kn
      have hr := ref_ports inn st wh kn a b q d (by omega) (by omega) a0 a1 ((Llc.portsOf a q d inn st wh kn).length + 1)
      have hsame := same_l0 (Llc.portsOf a q d inn st wh kn) (by omega) (2 * st.length) _ 0 (Nat.zero_add _)
      rw [show (Llc.portsOf a q d inn st wh kn).length + 1 + 2 * st.length = 2 * st.length + 1 + (Llc.portsOf a q d inn st wh kn).length by omega] at hsame
      refine ⟨2 * st.length + 1 + ((Llc.portsOf a q d inn st wh kn).length + 1) + 1, ?_⟩
      unfold treelinelaw18_RelayPlays.f
      rw [aw, Option.bind_some, if_pos rfl, if_neg (by omega), decide_eq_false (by omega), treelinelaw18_RelayPlays.j0, if_neg (by simp), hp, Option.bind_some, hr, Option.bind_some, hcr, Option.bind_some, hcl, Option.bind_some,
        if_pos rfl, if_pos rfl, l1, Option.bind_some, l2, Option.bind_some, show (v != v) = false by cases v <;> rfl, ← Nat.add_assoc, treelinelaw18_RelayPlays.j1, if_neg (by simp)]
      exact hsame
    · refine ⟨1, ?_⟩
      unfold treelinelaw18_RelayPlays.f
      rw [aw, Option.bind_some, if_pos rfl, if_neg (by omega)]
      exact hopen _ (decide_eq_true (by omega))
  · refine ⟨1, ?_⟩
    unfold treelinelaw18_RelayPlays.f
    rw [aw, Option.bind_some, if_pos rfl, if_pos (by omega)]
    exact hopen _ rfl
theorem RelayPlays (W : World) (x : Int × Int × Int × List Int) (inn : Int) (st : List Int) (wh : Int) (kn : Bool) (w0 : (Lit.int .u64 x.1).wf = true ∧ (Lit.int .u64 x.2.1).wf = true ∧ (Lit.int .u16 x.2.2.1).wf = true ∧ (∀ y ∈ x.2.2.2, (Lit.int .u8 y).wf = true)) (w1 : (Lit.int .i64 inn).wf = true) (w2 : ∀ y ∈ st, (Lit.int .i64 y).wf = true) (w3 : (Lit.int .i64 wh).wf = true) (hG : Llc.Glob W)
    {A : Option Addr} {c : Nat} (hC : (Kd.int .u8).C W A x.2.2.2.length x.2.2.2) (hc : x.2.2.2.length ≤ c) {A2 : Option Addr} {c2 : Nat} (hC2 : (Kd.int .i64).C W A2 st.length st) (hc2 : st.length ≤ c2) :
    Calls Tryd.prog 6 #[.agg #[.int .u64 x.1, .int .u64 x.2.1, .int .u16 x.2.2.1, .slice A x.2.2.2.length c], .int .i64 inn, .slice A2 st.length c2, .int .i64 wh, .bool kn] W fun e w' => e = .returned (.bool true) ∧ Below W.heap.size W w' := by
  obtain ⟨a, b, q, d⟩ := x
  obtain ⟨a0, a1⟩ := wf_u64 w0.1
  obtain ⟨b0, b1⟩ := wf_u64 w0.2.1
  obtain ⟨k, hk⟩ := plays inn st wh kn a b q d a0 a1 b0 b1
  exact treelinelaw18_RelayPlays.calls k a b q A c d inn A2 c2 st wh kn true W hC hc hC2 hc2 hk ⟨hG⟩

end Go.Proofs.YtkgfpagfmdefgaaDoor.Pure
