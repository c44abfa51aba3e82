/- What ports a frame goes on by, as the law puts it. -/
import Derived.Test.YtkgfpagfmdefgaaDoorORelayTurnedx2
import Derived.Test.YtkgfpagfmdefgaaDoorAr
namespace Go.Proofs.YtkgfpagfmdefgaaDoor.Pure
open Go.RowKit Go.Proofs.YtkgfpagfmdefgaaDoor.ORelayTurned Go.Proofs.YtkgfpagfmdefgaaDoorW.PrintWords Go.Proofs.YtkgfpagfmdefgaaDoorW.PrintLast Go.Proofs.YtkgfpagfmdefgaaDoorW.PrintMore Go.Proofs.YtkgfpagfmdefgaaDoor.Ar
set_option linter.unusedVariables false
set_option linter.unusedSimpArgs false
theorem aw : treelinelaw18_awake.f = some true := by kernel_rfl
theorem mem_thru {inn : Int} {st : List Int} {x : Int} : ∀ {k : Nat}, x ∈ Llc.thru inn st k → ∃ i : Nat, i < k ∧ x = (i : Int) ∧ (i : Int) ≠ inn ∧ st.getD i 0 = 4
  | 0, h => by simp [Llc.thru] at h
  | k + 1, h => by
    rw [Llc.thru] at h
    split at h
    · rename_i hk
      rcases List.mem_append.1 h with h | h
      · obtain ⟨i, hi, r⟩ := mem_thru h
        exact ⟨i, by omega, r⟩
      · simp at h
        exact ⟨k, by omega, h, hk.1, hk.2⟩
    · obtain ⟨i, hi, r⟩ := mem_thru h
      exact ⟨i, by omega, r⟩
theorem thru_sorted (inn : Int) (st : List Int) : ∀ k, (Llc.thru inn st k).Pairwise (· < ·)
  | 0 => by simp [Llc.thru]
  | k + 1 => by
    have ih := thru_sorted inn st k
    rw [Llc.thru]
    split
    · rw [List.pairwise_append]
      refine ⟨ih, by simp, ?_⟩
      intro x hx y hy
      simp at hy
      obtain ⟨i, hi, rfl, -, -⟩ := mem_thru hx
      omega
    · exact ih
theorem getD_mem {xs : List Int} {i : Nat} (h : i < xs.length) : xs.getD i 0 ∈ xs := by
  rw [List.getD_eq_getElem?_getD, List.getElem?_eq_getElem h]
  exact List.getElem_mem h
theorem mem_sel {a wh : Int} {kn : Bool} {xs : List Int} {x : Int} (h : x ∈ Llc.sel a wh kn xs) : x ∈ xs := by
  unfold Llc.sel at h
  exact (List.mem_filter.1 h).1
theorem mem_ports {a q : Int} {d : List Int} {inn : Int} {st : List Int} {wh : Int} {kn : Bool} {x : Int} (h : x ∈ Llc.portsOf a q d inn st wh kn) :
    x ≠ inn ∧ 0 ≤ x ∧ x < (st.length : Int) ∧ st.getD x.toNat 0 = 4 ∧ 0 ≤ inn ∧ inn < (st.length : Int) ∧ st.getD inn.toNat 0 = 4 ∧ Llc.clsOf a q d = 2 := by
  unfold Llc.portsOf at h
  split at h
  · rename_i hc
    obtain ⟨i, hi, rfl, h1, h2⟩ := mem_thru (mem_sel h)
    exact ⟨h1, by omega, by omega, by simpa using h2, hc.1, hc.2.1, hc.2.2.1, hc.2.2.2⟩
  · simp at h
theorem ports_sorted (a q : Int) (d : List Int) (inn : Int) (st : List Int) (wh : Int) (kn : Bool) : (Llc.portsOf a q d inn st wh kn).Pairwise (· < ·) := by
  unfold Llc.portsOf
  split
  · exact (thru_sorted _ _ _).filter _
  · simp
theorem ports_len (a q : Int) (d : List Int) (inn : Int) (st : List Int) (wh : Int) (kn : Bool) : (Llc.portsOf a q d inn st wh kn).length ≤ st.length := by
  unfold Llc.portsOf
  split
  · exact Nat.le_trans (List.length_filter_le _ _) (Llc.thru_length _ _ _)
  · simp

theorem same_l0 (xs : List Int) (hl : xs.length ≤ 100000) : ∀ m (i : Nat), i + m = xs.length → treelinelaw18_RelayTurned.l0 (m + 1) xs xs (i : Int) = some true
  | 0, i, hi => by rw [treelinelaw18_RelayTurned.l0, if_neg (by omega)]
  | m + 1, i, hi => by
    have hw : wrap64 ((i : Int) + 1) = ((i + 1 : Nat) : Int) := by rw [w64 (by omega) (by omega)]; omega
    rw [treelinelaw18_RelayTurned.l0, if_pos (by omega), if_pos (by omega), if_pos (by omega), if_pos rfl, hw]
    exact same_l0 xs hl m (i + 1) (by omega)
theorem thru_app (inn : Int) (st : List Int) (s : Int) : ∀ k, k ≤ st.length → Llc.thru inn (st ++ [s]) k = Llc.thru inn st k
  | 0, _ => rfl
  | k + 1, h => by
    have hg : (st ++ [s]).getD k 0 = st.getD k 0 := by simp [List.getD_eq_getElem?_getD, List.getElem?_append_left (show k < st.length by omega)]
    rw [Llc.thru, Llc.thru, thru_app inn st s k (by omega), hg]
theorem ports_app (a q : Int) (d : List Int) (inn : Int) (st : List Int) (wh : Int) (kn : Bool) (s : Int) (hs : s ≠ 4) (hi : inn < (st.length : Int)) : Llc.portsOf a q d inn (st ++ [s]) wh kn = Llc.portsOf a q d inn st wh kn := by
  have ht : Llc.thru inn (st ++ [s]) (st ++ [s]).length = Llc.thru inn st st.length := by
    rw [List.length_append, List.length_singleton, Llc.thru_miss, thru_app _ _ _ _ (Nat.le_refl _)]
    rintro ⟨-, h4⟩
    simp at h4
    exact hs h4
  unfold Llc.portsOf
  rw [ht]
  by_cases h0 : 0 ≤ inn
  · have hg : (st ++ [s]).getD inn.toNat 0 = st.getD inn.toNat 0 := by simp [List.getD_eq_getElem?_getD, List.getElem?_append_left (show inn.toNat < st.length by omega)]
    rw [hg]
    have hl : inn < ((st ++ [s]).length : Int) := by simp; omega
    by_cases hc : st.getD inn.toNat 0 = 4 ∧ Llc.clsOf a q d = 2
    · rw [if_pos ⟨h0, hl, hc⟩, if_pos ⟨h0, hi, hc⟩]
    · rw [if_neg (fun h => hc h.2.2), if_neg (fun h => hc h.2.2)]
  · rw [if_neg (fun h => h0 h.1), if_neg (fun h => h0 h.1)]
theorem turned (inn : Int) (st : List Int) (wh : Int) (kn : Bool) (more : Int) (a b q : Int) (d : List Int) (a0 : 0 ≤ a) (a1 : a < 18446744073709551616) (m0 : 0 ≤ more) (m1 : more < 256) : ∃ k, treelinelaw18_RelayTurned.f k a b q d inn st wh kn more = some true := by
  have hopen : ∀ b0 : Bool, b0 = true → treelinelaw18_RelayTurned.j0 1 inn st wh kn more b0 a b q d = some true := by
    intro b0 h
    rw [treelinelaw18_RelayTurned.j0, if_pos h, aw]; rfl
  by_cases hd : d.length ≤ 2000
  · by_cases hs : st.length ≤ 2000
    · by_cases hw : wh < (st.length : Int)
      · by_cases hi : inn < (st.length : Int)
        · have hp : relay_Ports.f a b q d inn st wh kn = some (Llc.portsOf a q d inn st wh kn) := by
            unfold relay_Ports.f
            rw [if_pos ⟨by omega, a0, a1, by omega⟩]
          have hq : relay_Ports.f a b q d inn (([] ++ st) ++ [Int.tmod (wrap64 more) 4]) wh kn = some (Llc.portsOf a q d inn st wh kn) := by
            unfold relay_Ports.f
            rw [if_pos ⟨by omega, a0, a1, by simp; omega⟩, List.nil_append, ports_app _ _ _ _ _ _ _ _ (by rw [w64 (by omega) (by omega), tmod_nn m0]; omega) hi]
          have hl := ports_len a q d inn st wh kn
          refine ⟨(Llc.portsOf a q d inn st wh kn).length + 1 + 1, ?_⟩
          unfold treelinelaw18_RelayTurned.f
          rw [aw, Option.bind_some, if_pos rfl, if_neg (by omega), if_neg (by omega), if_neg (by omega), decide_eq_false (by omega), treelinelaw18_RelayTurned.j0, if_neg (by simp), hp, Option.bind_some, Option.bind_some,
            if_pos (by simp; omega), Option.bind_some, Option.bind_some, if_pos (by simp; omega), hq, Option.bind_some, if_pos rfl]
          exact same_l0 _ (by omega) _ 0 (Nat.zero_add _)
        · refine ⟨1, ?_⟩
          unfold treelinelaw18_RelayTurned.f
          rw [aw, Option.bind_some, if_pos rfl, if_neg (by omega), if_neg (by omega), if_neg (by omega)]
          exact hopen _ (decide_eq_true (by omega))
      · refine ⟨1, ?_⟩
        unfold treelinelaw18_RelayTurned.f
        rw [aw, Option.bind_some, if_pos rfl, if_neg (by omega), if_neg (by omega), if_pos (by omega)]
        exact hopen _ rfl
    · refine ⟨1, ?_⟩
      unfold treelinelaw18_RelayTurned.f
      rw [aw, Option.bind_some, if_pos rfl, if_neg (by omega), if_pos (by omega)]
      exact hopen _ rfl
  · refine ⟨1, ?_⟩
    unfold treelinelaw18_RelayTurned.f
    rw [aw, Option.bind_some, if_pos rfl, if_pos (by omega)]
    exact hopen _ rfl

theorem RelayTurned (W : World) (x : Int × Int × Int × List Int) (inn : Int) (st : List Int) (wh : Int) (kn : Bool) (more : Int) (w0 : (Lit.int .u64 x.1).wf = true ∧ (Lit.int .u64 x.2.1).wf = true ∧ (Lit.int .u16 x.2.2.1).wf = true ∧ (∀ y ∈ x.2.2.2, (Lit.int .u8 y).wf = true)) (w1 : (Lit.int .i64 inn).wf = true) (w2 : ∀ y ∈ st, (Lit.int .i64 y).wf = true) (w3 : (Lit.int .i64 wh).wf = true) (w5 : (Lit.int .u8 more).wf = true) (hG : Llc.Glob W)
    {A : Option Addr} {c : Nat} (hC : (Kd.int .u8).C W A x.2.2.2.length x.2.2.2) (hc : x.2.2.2.length ≤ c) {A2 : Option Addr} {c2 : Nat} (hC2 : (Kd.int .i64).C W A2 st.length st) (hc2 : st.length ≤ c2) :
    Calls Tryd.prog 5 #[.agg #[.int .u64 x.1, .int .u64 x.2.1, .int .u16 x.2.2.1, .slice A x.2.2.2.length c], .int .i64 inn, .slice A2 st.length c2, .int .i64 wh, .bool kn, .int .u8 more] W fun e w' => e = .returned (.bool true) ∧ Below W.heap.size W w' := by
  obtain ⟨a, b, q, d⟩ := x
  obtain ⟨a0, a1⟩ := wf_u64 w0.1
  obtain ⟨m0, m1⟩ := wf_u8 w5
  obtain ⟨k, hk⟩ := turned inn st wh kn more a b q d a0 a1 m0 m1
  exact treelinelaw18_RelayTurned.calls k a b q A c d inn A2 c2 st wh kn more true W hC hc hC2 hc2 hk ⟨hG⟩

end Go.Proofs.YtkgfpagfmdefgaaDoor.Pure
