/- What ports a frame goes on by, as the law puts it. -/
import Derived.Test.YtkgfpagfmdefgaaDoorORelayNeverx2
import Derived.Test.YtkgfpagfmdefgaaDoorAr
namespace Go.Proofs.YtkgfpagfmdefgaaDoor.Pure
open Go.RowKit Go.Proofs.YtkgfpagfmdefgaaDoor.ORelayNever Go.Proofs.YtkgfpagfmdefgaaDoorW.PrintWords Go.Proofs.YtkgfpagfmdefgaaDoorW.PrintLast Go.Proofs.YtkgfpagfmdefgaaDoorW.PrintMore Go.Proofs.YtkgfpagfmdefgaaDoor.Ar
set_option linter.unusedVariables false
set_option linter.unusedSimpArgs false
theorem aw : treelinelaw18_awake.f = some true := by kernel_rfl
theorem mem_thru {inn : Int} {st : List Int} {x : Int} : ∀ {k : Nat}, x ∈ Llc.thru inn st k → ∃ i : Nat, i < k ∧ x = (i : Int) ∧ (i : Int) ≠ inn ∧ st.getD i 0 = 4
  | 0, h => by simp [Llc.thru] at h
  | k + 1, h => by
    rw [Llc.thru] at h
    split at h
    · rename_i hk
      rcases List.mem_append.1 h with h | h
      · obtain ⟨i, hi, r⟩ := mem_thru h
        exact ⟨i, by omega, r⟩
      · simp at h
        exact ⟨k, by omega, h, hk.1, hk.2⟩
    · obtain ⟨i, hi, r⟩ := mem_thru h
      exact ⟨i, by omega, r⟩
theorem thru_sorted (inn : Int) (st : List Int) : ∀ k, (Llc.thru inn st k).Pairwise (· < ·)
  | 0 => by simp [Llc.thru]
  | k + 1 => by
    have ih := thru_sorted inn st k
    rw [Llc.thru]
    split
    · rw [List.pairwise_append]
      refine ⟨ih, by simp, ?_⟩
      intro x hx y hy
      simp at hy
      obtain ⟨i, hi, rfl, -, -⟩ := mem_thru hx
      omega
    · exact ih
theorem getD_mem {xs : List Int} {i : Nat} (h : i < xs.length) : xs.getD i 0 ∈ xs := by
  rw [List.getD_eq_getElem?_getD, List.getElem?_eq_getElem h]
  exact List.getElem_mem h
theorem mem_sel {a wh : Int} {kn : Bool} {xs : List Int} {x : Int} (h : x ∈ Llc.sel a wh kn xs) : x ∈ xs := by
  unfold Llc.sel at h
  exact (List.mem_filter.1 h).1
theorem mem_ports {a q : Int} {d : List Int} {inn : Int} {st : List Int} {wh : Int} {kn : Bool} {x : Int} (h : x ∈ Llc.portsOf a q d inn st wh kn) :
    x ≠ inn ∧ 0 ≤ x ∧ x < (st.length : Int) ∧ st.getD x.toNat 0 = 4 ∧ 0 ≤ inn ∧ inn < (st.length : Int) ∧ st.getD inn.toNat 0 = 4 ∧ Llc.clsOf a q d = 2 := by
  unfold Llc.portsOf at h
  split at h
  · rename_i hc
    obtain ⟨i, hi, rfl, h1, h2⟩ := mem_thru (mem_sel h)
    exact ⟨h1, by omega, by omega, by simpa using h2, hc.1, hc.2.1, hc.2.2.1, hc.2.2.2⟩
  · simp at h
theorem ports_sorted (a q : Int) (d : List Int) (inn : Int) (st : List Int) (wh : Int) (kn : Bool) : (Llc.portsOf a q d inn st wh kn).Pairwise (· < ·) := by
  unfold Llc.portsOf
  split
  · exact (thru_sorted _ _ _).filter _
  · simp
theorem ports_len (a q : Int) (d : List Int) (inn : Int) (st : List Int) (wh : Int) (kn : Bool) : (Llc.portsOf a q d inn st wh kn).length ≤ st.length := by
  unfold Llc.portsOf
  split
  · exact Nat.le_trans (List.length_filter_le _ _) (Llc.thru_length _ _ _)
  · simp

theorem never_l0 (inn : Int) (st L : List Int) (a b q : Int) (d : List Int) (hL : L.length ≤ 100000) (hd : d.length ≤ 100000) (a0 : 0 ≤ a) (a1 : a < 18446744073709551616)
    (hm : ∀ x ∈ L, x ≠ inn ∧ 0 ≤ x ∧ x < (st.length : Int) ∧ st.getD x.toNat 0 = 4 ∧ 0 ≤ inn ∧ inn < (st.length : Int) ∧ st.getD inn.toNat 0 = 4 ∧ Llc.clsOf a q d = 2)
    (hs : L.Pairwise (· < ·)) : ∀ m (i : Nat), i + m = L.length → treelinelaw18_RelayNever.l0 (m + 1) inn st L (i : Int) a b q d = some true
  | 0, i, hi => by
    rw [treelinelaw18_RelayNever.l0, if_neg (by omega)]
    by_cases h0 : (L.length : Int) = 0
    · rw [if_pos h0]
    · rw [if_neg h0]
      obtain ⟨-, -, -, -, h5, h6, h7, h8⟩ := hm _ (getD_mem (xs := L) (i := 0) (by omega))
      have hcl : relay_Class.f a b q d = some 2 := by unfold relay_Class.f; rw [if_pos ⟨hd, a0, a1⟩, h8]
      rw [hcl]
      have hr : rd st inn = 4 := h7
      rw [Option.bind_some, if_pos rfl, if_pos h5, if_pos h6, hr]
      rfl
  | m + 1, i, hi => by
    have hlt : i < L.length := by omega
    have hx := hm _ (getD_mem hlt)
    have hr : rd L (i : Int) = L.getD i 0 := by unfold rd; simp
    have hw : wrap64 ((i : Int) + 1) = ((i + 1 : Nat) : Int) := by rw [w64 (by omega) (by omega)]; omega
    have ih := never_l0 inn st L a b q d hL hd a0 a1 hm hs m (i + 1) (by omega)
    have hprev : (i : Int) > 0 → 0 ≤ wrap64 ((i : Int) - 1) ∧ wrap64 ((i : Int) - 1) < (L.length : Int) ∧ rd L (wrap64 ((i : Int) - 1)) < L.getD i 0 := by
      clear hx hr hw ih
      intro hp
      have hw2 : wrap64 ((i : Int) - 1) = ((i - 1 : Nat) : Int) := by rw [w64 (by omega) (by omega)]; omega
      have hr2 : rd L (((i - 1 : Nat) : Int)) = L.getD (i - 1) 0 := by unfold rd; simp
      have hlt2 : L.getD (i - 1) 0 < L.getD i 0 := by
        have := List.pairwise_iff_getElem.1 hs (i - 1) i (by omega) hlt (by omega)
        simpa [List.getD_eq_getElem?_getD, List.getElem?_eq_getElem hlt, List.getElem?_eq_getElem (show i - 1 < L.length by omega)] using this
      rw [hw2, hr2]
      clear hw2 hr2
      exact ⟨by clear hlt2; omega, by clear hlt2; omega, hlt2⟩
    have q1 : (i : Int) < (L.length : Int) := by clear hx hr hw ih hprev; omega
    have q2 : 0 ≤ (i : Int) := by clear hx hr hw ih hprev; omega
    clear hm hs hL hd
    generalize hxx : L.getD i 0 = x at hx hr hprev
    obtain ⟨h1, h2, h3, h4, -, -, -, -⟩ := hx
    have hr4 : rd st x = 4 := h4
    rw [treelinelaw18_RelayNever.l0, if_pos q1, if_pos q2, hr, if_neg h1, if_neg (Int.not_lt.2 h2), if_neg (Int.not_le.2 h3), if_pos h2, if_pos h3, if_pos hr4]
    by_cases hp : (i : Int) > 0
    · obtain ⟨p1, p2, p3⟩ := hprev hp
      rw [if_pos hp, if_pos p1, if_pos p2, if_neg (Int.not_le.2 p3), hw, ih]
    · rw [if_neg hp, hw, ih]
theorem never (inn : Int) (st : List Int) (wh : Int) (kn : Bool) (a b q : Int) (d : List Int) (a0 : 0 ≤ a) (a1 : a < 18446744073709551616) : ∃ k, treelinelaw18_RelayNever.f k a b q d inn st wh kn = some true := by
  by_cases hd : d.length ≤ 2000
  · by_cases hs : st.length ≤ 2000
    · have hp : relay_Ports.f a b q d inn st wh kn = some (Llc.portsOf a q d inn st wh kn) := by
        unfold relay_Ports.f
        rw [if_pos ⟨by omega, a0, a1, by omega⟩]
      have hl := ports_len a q d inn st wh kn
      have := never_l0 inn st (Llc.portsOf a q d inn st wh kn) a b q d (by omega) (by omega) a0 a1 (fun x hx => mem_ports hx) (ports_sorted ..) _ 0 (Nat.zero_add _)
      refine ⟨(Llc.portsOf a q d inn st wh kn).length + 1 + 1, ?_⟩
      unfold treelinelaw18_RelayNever.f
      rw [aw, Option.bind_some, if_pos rfl, if_neg (by omega), decide_eq_false (by omega), treelinelaw18_RelayNever.j0, if_neg (by simp), hp, Option.bind_some]
      exact this
    · refine ⟨1, ?_⟩
      unfold treelinelaw18_RelayNever.f
      rw [aw, Option.bind_some, if_pos rfl, if_neg (by omega), decide_eq_true (by omega), treelinelaw18_RelayNever.j0, if_pos rfl, aw]; rfl
  · refine ⟨1, ?_⟩
    unfold treelinelaw18_RelayNever.f
    rw [aw, Option.bind_some, if_pos rfl, if_pos (by omega), treelinelaw18_RelayNever.j0, if_pos rfl, aw]; rfl

theorem RelayNever (W : World) (x : Int × Int × Int × List Int) (inn : Int) (st : List Int) (wh : Int) (kn : Bool) (w0 : (Lit.int .u64 x.1).wf = true ∧ (Lit.int .u64 x.2.1).wf = true ∧ (Lit.int .u16 x.2.2.1).wf = true ∧ (∀ y ∈ x.2.2.2, (Lit.int .u8 y).wf = true)) (w1 : (Lit.int .i64 inn).wf = true) (w2 : ∀ y ∈ st, (Lit.int .i64 y).wf = true) (w3 : (Lit.int .i64 wh).wf = true) (hG : Llc.Glob W)
    {A : Option Addr} {c : Nat} (hC : (Kd.int .u8).C W A x.2.2.2.length x.2.2.2) (hc : x.2.2.2.length ≤ c) {A2 : Option Addr} {c2 : Nat} (hC2 : (Kd.int .i64).C W A2 st.length st) (hc2 : st.length ≤ c2) :
    Calls Tryd.prog 3 #[.agg #[.int .u64 x.1, .int .u64 x.2.1, .int .u16 x.2.2.1, .slice A x.2.2.2.length c], .int .i64 inn, .slice A2 st.length c2, .int .i64 wh, .bool kn] W fun e w' => e = .returned (.bool true) ∧ Below W.heap.size W w' := by
  obtain ⟨a, b, q, d⟩ := x
  obtain ⟨a0, a1⟩ := wf_u64 w0.1
  obtain ⟨k, hk⟩ := never inn st wh kn a b q d a0 a1
  exact treelinelaw18_RelayNever.calls k a b q A c d inn A2 c2 st wh kn true W hC hc hC2 hc2 hk ⟨hG⟩

end Go.Proofs.YtkgfpagfmdefgaaDoor.Pure
