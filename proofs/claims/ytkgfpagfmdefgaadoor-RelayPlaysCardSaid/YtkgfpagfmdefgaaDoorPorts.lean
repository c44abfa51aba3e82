/- relay.Ports: by which ports a frame goes on. Walked by hand. -/
import Derived.Test.YtkgfpagfmdefgaaDoorLlcC
import Derived.Test.YtkgfpagfmdefgaaDoorIt
namespace Go.Proofs.YtkgfpagfmdefgaaDoor.Llc
open Go.RowKit Go.Shelf Go.Proofs.YtkgfpagfmdefgaaDoorW.PrintWords Go.Proofs.YtkgfpagfmdefgaaDoor.Sep
attribute [local go_sem] Oper.semAt_some
set_option linter.unusedVariables false
set_option linter.unusedSimpArgs false
set_option maxHeartbeats 1000000 in
theorem others_in (F : Fence) (n : Nat) (h15 : F.fn 15) (hro : F.round = none) (inn : Int) (ad : Addr) (len c : Nat) (w : World) :
    CallsIn F n Tryd.prog 15 #[.int .i64 inn, .slice (some ad) len c] w fun e w' => e = .returned (.func (.func 23) #[] #[.pointer (some ⟨w.heap.size + 1, 0, none⟩), .pointer (some ⟨w.heap.size, 0, none⟩)]) ∧ w' = (w.alloc (.cells #[.int .i64 inn] 3)).alloc (.cells #[.slice (some ad) len c] 28) := by
  refine callsIn_of_wp Tryd.func15 rfl h15 ?_ hro
  simp only [Tryd.ntmps15, List.size_toArray, List.length_cons, List.length_nil, Nat.reduceAdd, Nat.reduceSub, Array.replicate_succ, Array.replicate_zero, List.push_toArray, List.append_toArray, List.nil_append, List.cons_append]
  gi_wp2
  go_ret
  exact ⟨rfl, rfl⟩
theorem it_stops (F : Fence) (n : Nat) (h23 : F.fn 23) (h14 : F.fn 14) (hro : F.round = none) (hn : 2 ≤ n) (Bs Bi n₀ : Nat) (ad : Addr) (c : Nat) (inn : Int) (st : List Int) (hlen : st.length ≤ 1000000) (had : ad.block < n₀) (w : World) (hn₀ : n₀ ≤ w.heap.size)
    (hBs : w.cell? ⟨Bs, 0, none⟩ = some (.slice (some ad) st.length c)) (hBi : w.cell? ⟨Bi, 0, none⟩ = some (.int .i64 inn)) (hc : ∀ j x, st[j]? = some x → w.cell? (ad.add j) = some (.int .i64 x)) :
    SeqStopsK F n Tryd.prog 23 #[.pointer (some ⟨Bs, 0, none⟩), .pointer (some ⟨Bi, 0, none⟩)] (fun x : Int => #[Value.int .i64 x]) (Kp n₀ Bi) (fun ys => ys = thru inn st st.length) (fun pre => pre <+: thru inn st st.length) st.length w := fun l J Jx W hW _ _ hY h0 =>
  it_in F n h23 h14 hro hn l Bs Bi n₀ ad c inn st hlen had J Jx hY W (pw_cell_below hW hBs) (pw_cell_below hW hBi) (fun j x hj => pw_cell_below hW (hc j x hj)) h0
set_option maxHeartbeats 1000000 in
theorem Group_in (F : Fence) (n : Nat) (h16 : F.fn 16) (hro : F.round = none) (a : Int) (w : World) : CallsIn F n Tryd.prog 16 #[.int .u64 a] w fun e w' => e = .returned (.bool (bits .and .u64 (a / 1099511627776) 1 == 1)) ∧ w = w' := by
  refine callsIn_of_wp Tryd.func16 rfl h16 ?_ hro
  simp only [Tryd.ntmps16, List.size_toArray, List.length_cons, List.length_nil, Nat.reduceAdd, Nat.reduceSub, Array.replicate_succ, Array.replicate_zero, List.push_toArray, List.append_toArray, List.nil_append, List.cons_append]
  gi_wp2
  go_ret
  exact ⟨rfl, rfl⟩
/-- A frame to several ones. -/
def grp (a : Int) : Bool := bits .and .u64 (a / 1099511627776) 1 == 1
/-- Those of some ports by which it goes on. -/
def sel (a wh : Int) (kn : Bool) (xs : List Int) : List Int := xs.filter fun x => grp a || (!kn || x == wh)
theorem sel_hit {a wh : Int} {kn : Bool} (pre : List Int) {x : Int} (h : (grp a || (!kn || x == wh)) = true) : sel a wh kn (pre ++ [x]) = sel a wh kn pre ++ [x] := by simp [sel, List.filter_append, h]
theorem sel_miss {a wh : Int} {kn : Bool} (pre : List Int) {x : Int} (h : (grp a || (!kn || x == wh)) = false) : sel a wh kn (pre ++ [x]) = sel a wh kn pre := by simp [sel, List.filter_append, h]
theorem sel_length (a wh : Int) (kn : Bool) (xs : List Int) : (sel a wh kn xs).length ≤ xs.length := List.length_filter_le _ _
/-- A cell beside the row and the box that were written. -/
theorem cell_app {W w1 : World} {n1 B k o m : Nat} {v v' u : Value} {tmp : Obj} {xs : List Value} (hg : (W.alloc tmp).grownBy w1 v.ownBlock) (hrow : W.ownsRow n1 3 1 v m xs) (hk : k < n1) (hB : k ≠ B) (h : W.cell? ⟨k, o, none⟩ = some u) : (w1.setCell ⟨B, 0, none⟩ v').cell? ⟨k, o, none⟩ = some u := by
  have hlt : k < W.heap.size := World.block_lt_of_cell? W ⟨k, o, none⟩ h
  have e1 : (W.alloc tmp).heap[k]? = W.heap[k]? := Below.heap_alloc W tmp k hlt
  have e2 : w1.heap[k]? = (W.alloc tmp).heap[k]? := hg.block k (by simp; omega) (fun e => by have := own_base hrow k e.symm; omega)
  have e3 : (w1.setCell ⟨B, 0, none⟩ v').heap[k]? = w1.heap[k]? := Below.heap_setCell w1 ⟨B, 0, none⟩ v' k hB
  have : (w1.setCell ⟨B, 0, none⟩ v').heap[k]? = W.heap[k]? := e3.trans (e2.trans e1)
  simp only [World.cell?] at h ⊢
  rw [this]
  exact h
theorem own_cell (k o : Nat) (u : Value) : Own (fun (_ : List Int) W => W.cell? ⟨k, o, none⟩ = some u) := fun s A B row hs hg hr => cell_kept hs hg hr
theorem infoI : (Tryd.prog.info? 3).map (fun i => (i.zero, i.size, i.bytes)) = some (some (.int .i64 0), 1, 8) := by kernel_rfl
theorem bc {W W1 : World} (hb : Below W.heap.size W W1) : (∀ b o, b < W.heap.size → W1.cell? ⟨b, o, none⟩ = W.cell? ⟨b, o, none⟩) ∧ (∀ b o, b < W.heap.size → W1.frozen? ⟨b, o, none⟩ = W.frozen? ⟨b, o, none⟩) :=
  ⟨fun b o h => hb.cell (p := ⟨b, o, none⟩) h, fun b o h => hb.frozen (p := ⟨b, o, none⟩) h⟩
set_option maxRecDepth 100000 in
set_option maxHeartbeats 2000000 in
theorem Ports_go (w : World) (a b q : Int) (A : Option Addr) (n c : Nat) (inn wh : Int) (kn : Bool) (ad : Addr) (c2 : Nat) (st : List Int) (hlen : st.length ≤ 1000000) (had : ad.block < w.heap.size)
    (hst : ∀ j x, st[j]? = some x → w.cell? (ad.add j) = some (.int .i64 x)) (i : Nat) (hi : inn = (i : Int)) (hil : i < st.length) (h4 : st[i]? = some 4)
    (hCl : ∀ W, Below w.heap.size w W → Calls Tryd.prog 9 #[.agg #[.int .u64 a, .int .u64 b, .int .u16 q, .slice A n c]] W fun e w' => e = .returned (.int .i64 2) ∧ Below W.heap.size W w') :
    Calls Tryd.prog 8 #[.agg #[.int .u64 a, .int .u64 b, .int .u16 q, .slice A n c], .int .i64 inn, .slice (some ad) st.length c2, .int .i64 wh, .bool kn] w fun e w' => ∃ v, e = .returned v ∧ w'.ownsRow w.heap.size 3 1 v (sel a wh kn (thru inn st st.length)).length ((sel a wh kn (thru inn st st.length)).map (Value.int .i64)) ∧ Below w.heap.size w w' := by
  subst hi
  refine (callsIn_wide (n := 8)).1 ?_
  have h1 : (1 : Nat) ≤ 8 := by decide
  obtain ⟨i0, hi0, hz0, hz1, hz2⟩ := info_parts infoI
  have hB3 : Below w.heap.size w (((w.alloc (.cells #[.int .u64 a, .int .u64 b, .int .u16 q, .slice A n c] 27)).alloc (.cells #[.int .i64 wh] 3)).alloc (.cells #[.bool kn] 4)) := (((Below.refl _ w).alloc (Nat.le_refl _) _).alloc (by simp) _).alloc (by simp; omega) _
  have hcl := hCl _ hB3
  have hsi : (((w.alloc (.cells #[.int .u64 a, .int .u64 b, .int .u16 q, .slice A n c] 27)).alloc (.cells #[.int .i64 wh] 3)).alloc (.cells #[.bool kn] 4)).cell? (ad.add i) = some (.int .i64 4) := (hB3.cell (p := ad.add i) (by unfold Addr.add; split <;> exact had)).trans (hst i 4 h4)
  have k0 : (0 : Int) ≤ (i : Int) := by omega
  have k1 : (i : Int) < (st.length : Int) := by omega
  have d1 : decide ((i : Int) < 0) = false := decide_eq_false (by omega)
  have d2 : decide (st.length ≤ i) = false := decide_eq_false (by omega)
  have d3 : decide ((st.length : Int) ≤ (i : Int)) = false := decide_eq_false (by omega)
  refine callsIn_of_wp_marks Tryd.func8 rfl trivial ?_ rfl
  simp only [Tryd.ntmps8, List.size_toArray, List.length_cons, List.length_nil, Nat.reduceAdd, Nat.reduceSub, Array.replicate_succ, Array.replicate_zero, List.push_toArray, List.append_toArray, List.nil_append, List.cons_append]
  gi_wp2_with (first | (refine ⟨trivial, ?_⟩; gi_at_call 14; refine (Forwards_in Fence.wide _ trivial rfl _ _).mono ?_; rintro e w' ⟨rfl, rfl⟩) | (refine ⟨trivial, ?_⟩; gi_at_call 9; refine (callsIn_wide.2 hcl).mono ?_; rintro e w1 ⟨rfl, hb1⟩) | (refine ⟨trivial, ?_⟩; gi_at_call 15; refine (others_in Fence.wide _ trivial rfl _ _ _ _ _).mono ?_; rintro e w' ⟨rfl, rfl⟩))
  have hs1 := hb1.size
  simp at hs1
  obtain ⟨WL, hWL⟩ : ∃ WL, ((w1.alloc (.cells #[.slice none 0 0] 28)).alloc (.cells #[.int .i64 (i : Int)] 3)).alloc (.cells #[.slice (some ad) st.length c2] 28) = WL := ⟨_, rfl⟩
  have hB1 : Below w.heap.size w w1 := hB3.trans (hb1.mono (by simp; omega))
  have hBL1 : Below w1.heap.size w1 WL := by rw [← hWL]; exact (((Below.refl _ w1).alloc (Nat.le_refl _) _).alloc (by simp) _).alloc (by simp; omega) _
  have hBL : Below w.heap.size w WL := hB1.trans (hBL1.mono (by omega))
  have hsz : WL.heap.size = w1.heap.size + 3 := by rw [← hWL]; simp
  have bO : Boxed WL w1.heap.size 28 (.slice none 0 0) := by rw [← hWL]; exact ((Boxed.new w1 28 (.slice none 0 0)).alloc _).alloc _
  have cI : WL.cell? ⟨w1.heap.size + 1, 0, none⟩ = some (.int .i64 (i : Int)) := by
    have := ((Boxed.new (w1.alloc (.cells #[.slice none 0 0] 28)) 3 (.int .i64 (i : Int))).alloc (.cells #[.slice (some ad) st.length c2] 28)).cell
    rw [World.size_alloc, hWL] at this
    exact this
  have cS : WL.cell? ⟨w1.heap.size + 1 + 1, 0, none⟩ = some (.slice (some ad) st.length c2) := by
    have := (Boxed.new ((w1.alloc (.cells #[.slice none 0 0] 28)).alloc (.cells #[.int .i64 (i : Int)] 3)) 28 (.slice (some ad) st.length c2)).cell
    rw [World.size_alloc, World.size_alloc, hWL] at this
    exact this
  have cF : WL.cell? ⟨w.heap.size, 0, none⟩ = some (.int .u64 a) := pw_cell_below hBL1 (pw_cell_below hb1 ((blk_cell (blk_alloc (blk_alloc (blk_new w _) _) _) 0).trans rfl))
  have cW : WL.cell? ⟨w.heap.size + 1, 0, none⟩ = some (.int .i64 wh) := pw_cell_below hBL1 (pw_cell_below hb1 (by
    have := ((Boxed.new (w.alloc (.cells #[.int .u64 a, .int .u64 b, .int .u16 q, .slice A n c] 27)) 3 (.int .i64 wh)).alloc (.cells #[.bool kn] 4)).cell
    rw [World.size_alloc] at this
    exact this))
  have cK : WL.cell? ⟨w.heap.size + 1 + 1, 0, none⟩ = some (.bool kn) := pw_cell_below hBL1 (pw_cell_below hb1 (by
    have := (Boxed.new ((w.alloc (.cells #[.int .u64 a, .int .u64 b, .int .u16 q, .slice A n c] 27)).alloc (.cells #[.int .i64 wh] 3)) 4 (.bool kn)).cell
    rw [World.size_alloc, World.size_alloc] at this
    exact this))
  have hstL : ∀ j x, st[j]? = some x → WL.cell? (ad.add j) = some (.int .i64 x) := fun j x hj => pw_cell_below hBL (hst j x hj)
  have hle1 : w.heap.size ≤ w1.heap.size := by omega
  rw [hWL]
  clear hcl hCl hsi hst hb1 h4
  refine wpIn_rangeFunc_ownG rfl h1 (gf := 23) (lb := #[.pointer (some ⟨w1.heap.size + 1 + 1, 0, none⟩), .pointer (some ⟨w1.heap.size + 1, 0, none⟩)]) rfl trivial (enters_of Tryd.func23 (by kernel_rfl) rfl)
    (it_stops Fence.wide (8 - 1) trivial trivial rfl (by decide) (w1.heap.size + 1 + 1) (w1.heap.size + 1) w.heap.size ad c2 (i : Int) st hlen had WL (by omega) cS cI hstL) kp_t (kp_b (by omega)) (Below.refl _ _) (fun _ => rfl)
    (fun pre W => W.cell? ⟨w.heap.size, 0, none⟩ = some (.int .u64 a) ∧ W.cell? ⟨w.heap.size + 1, 0, none⟩ = some (.int .i64 wh) ∧ W.cell? ⟨w.heap.size + 1 + 1, 0, none⟩ = some (.bool kn) ∧ W.cell? ⟨w1.heap.size + 1, 0, none⟩ = some (.int .i64 (i : Int)) ∧ W.cell? ⟨w1.heap.size + 1 + 1, 0, none⟩ = some (.slice (some ad) st.length c2) ∧ (∃ v, Boxed W w1.heap.size 28 v ∧ W.ownsRow (w1.heap.size + 3) 3 1 v (sel a wh kn pre).length ((sel a wh kn pre).map (Value.int .i64)) ∧ True) ∧ Below w.heap.size w W)
    (fun _ _ _ => False)
    (OwnFrom.and (Own.from (own_cell _ _ _) _) (OwnFrom.and (Own.from (own_cell _ _ _) _) (OwnFrom.and (Own.from (own_cell _ _ _) _) (OwnFrom.and (Own.from (own_cell _ _ _) _) (OwnFrom.and (Own.from (own_cell _ _ _) _) (OwnFrom.and (Own.from (holdsRow_own (w1.heap.size + 3) w1.heap.size 28 3 1 (fun pre => (sel a wh kn pre).length) (fun pre => (sel a wh kn pre).map (Value.int .i64)) (fun _ _ => True)) _) (ownFrom_below (Nat.le_refl _) (by omega))))))))
    (fun _ _ _ _ _ hs _ _ => hs)
    ⟨cF, cW, cK, cI, cS, ⟨_, bO, World.ownsRow_nil _ _ _ _, trivial⟩, hBL⟩
    (fun x => { tmps := #[.agg #[.int .u64 a, .int .u64 b, .int .u16 q, .slice A n c], .int .i64 (i : Int), .slice (some ad) st.length c2, .int .i64 wh, .bool kn, .pointer (some ⟨w.heap.size, 0, none⟩), undef, undef, .pointer (some ⟨w.heap.size + 1, 0, none⟩), .pointer (some ⟨w.heap.size + 1 + 1, 0, none⟩), .slice none 0 0, .pointer (some ⟨w1.heap.size, 0, none⟩), .int .i64 x, .int .i64 (i : Int), .bool false, .bool false, .int .i64 (i : Int), .slice (some ad) st.length c2, .int .i64 (st.length : Int), .bool false, .bool false, .bool false, .slice (some ad) st.length c2, .int .i64 (i : Int), .pointer (some (ad.add i)), .int .i64 4, .bool true, .bool false, .bool false, .bool false, .agg #[.int .u64 a, .int .u64 b, .int .u16 q, .slice A n c], .int .i64 2, .bool false, .bool false, .int .i64 (i : Int), .slice (some ad) st.length c2, .func (.func 23) #[] #[.pointer (some ⟨w1.heap.size + 1 + 1, 0, none⟩), .pointer (some ⟨w1.heap.size + 1, 0, none⟩)], .int .i64 x, undef, undef, undef, undef, undef, undef, undef, undef, undef, undef, undef, undef, undef, undef, undef, undef, undef], defers := [] }) ?assign ?body ?done ?stop
  case assign =>
    intro l x W K hK
    gi_wp2
    exact hK
  case body =>
    rintro l pre x W ⟨cF, cW, cK, cI, cS, ⟨v, hv, hrow, -⟩, hB⟩ hlt
    have hc := hv.cell
    have hpl : (sel a wh kn pre).length ≤ pre.length := sel_length _ _ _ _
    have hW3 : w1.heap.size + 3 ≤ W.heap.size := World.block_lt_of_cell? W _ cS
    obtain ⟨g, hg⟩ : ∃ g, (bits .and .u64 (a / 1099511627776) 1 == 1) = g := ⟨_, rfl⟩
    have hgr : grp a = g := hg
    clear hstL hsz bO hBL hBL1 hB1 hB3
    by_cases hx : (g || (!kn || x == wh)) = true
    · have hh := sel_hit (a := a) (wh := wh) (kn := kn) pre (x := x) (by rw [hgr]; exact hx)
      replace hh := Lib.hid hh
      clear hgr
      cases g
      · cases kn
        · clear hx
          gi_wp2_with (first | (refine ⟨trivial, ?_⟩; gi_at_call 16; refine (CallsIn.inRound l (Group_in Fence.wide _ trivial rfl _ _)).mono ?_; rintro e w' ⟨rfl, rfl⟩) | (gi_at_builtin; refine wpListIn_append_own _ rfl _ _ 28 rfl (w1.heap.size + 3) 3 i0 (.int .i64 0) 1 8 Tryd.underlying28 hi0 hz0 hz1 hz2 rfl (by decide) _ _ _ rfl (hrow.alloc _) ⟨W.heap.size, 0, none⟩ 1 1 [.int .i64 x] rfl rfl (cell_one_new _ _ _) (by simp [Value.oneCell']) (by unfold maxLen; omega) (by omega) (by simp; omega) ?_; intro v' w2 hown' hgrow _; obtain ⟨hv1, hv2, -, hk2, hb2⟩ := hv.appended (n₀ := w.heap.size) (by decide) (own_weaken hrow (by omega)) hB.size hle1 (own_weaken hown' (by omega)) hgrow; have hr3 := hown'.kept (grownBy_setCell' w2 w1.heap.size v') (.inr (hv1.not_row (by decide) hown').symm); obtain ⟨g', cap', rfl⟩ := ownsRow_succ hown'; have hc1 := hv1.cell; have hf1 := hv1.frozen))
          exact ⟨hk2.from _, ⟨hb2, fun u hu => cell_app hgrow hrow (by omega) (by omega) hu⟩, cell_app hgrow hrow (by omega) (by omega) cF, cell_app hgrow hrow (by omega) (by omega) cW, cell_app hgrow hrow (by omega) (by omega) cK, cell_app hgrow hrow (by omega) (by omega) cI, cell_app hgrow hrow (by omega) (by omega) cS, ⟨_, hv2, by rw [hh.out]; simpa using hr3, trivial⟩, hB.trans hb2⟩
        · have hxw : x = wh := by simpa using hx
          subst hxw
          clear hx
          gi_wp2_with (first | (refine ⟨trivial, ?_⟩; gi_at_call 16; refine (CallsIn.inRound l (Group_in Fence.wide _ trivial rfl _ _)).mono ?_; rintro e w' ⟨rfl, rfl⟩) | (gi_at_builtin; refine wpListIn_append_own _ rfl _ _ 28 rfl (w1.heap.size + 3) 3 i0 (.int .i64 0) 1 8 Tryd.underlying28 hi0 hz0 hz1 hz2 rfl (by decide) _ _ _ rfl (hrow.alloc _) ⟨W.heap.size, 0, none⟩ 1 1 [.int .i64 x] rfl rfl (cell_one_new _ _ _) (by simp [Value.oneCell']) (by unfold maxLen; omega) (by omega) (by simp; omega) ?_; intro v' w2 hown' hgrow _; obtain ⟨hv1, hv2, -, hk2, hb2⟩ := hv.appended (n₀ := w.heap.size) (by decide) (own_weaken hrow (by omega)) hB.size hle1 (own_weaken hown' (by omega)) hgrow; have hr3 := hown'.kept (grownBy_setCell' w2 w1.heap.size v') (.inr (hv1.not_row (by decide) hown').symm); obtain ⟨g', cap', rfl⟩ := ownsRow_succ hown'; have hc1 := hv1.cell; have hf1 := hv1.frozen))
          exact ⟨hk2.from _, ⟨hb2, fun u hu => cell_app hgrow hrow (by omega) (by omega) hu⟩, cell_app hgrow hrow (by omega) (by omega) cF, cell_app hgrow hrow (by omega) (by omega) cW, cell_app hgrow hrow (by omega) (by omega) cK, cell_app hgrow hrow (by omega) (by omega) cI, cell_app hgrow hrow (by omega) (by omega) cS, ⟨_, hv2, by rw [hh.out]; simpa using hr3, trivial⟩, hB.trans hb2⟩
      · clear hx
        gi_wp2_with (first | (refine ⟨trivial, ?_⟩; gi_at_call 16; refine (CallsIn.inRound l (Group_in Fence.wide _ trivial rfl _ _)).mono ?_; rintro e w' ⟨rfl, rfl⟩) | (gi_at_builtin; refine wpListIn_append_own _ rfl _ _ 28 rfl (w1.heap.size + 3) 3 i0 (.int .i64 0) 1 8 Tryd.underlying28 hi0 hz0 hz1 hz2 rfl (by decide) _ _ _ rfl (hrow.alloc _) ⟨W.heap.size, 0, none⟩ 1 1 [.int .i64 x] rfl rfl (cell_one_new _ _ _) (by simp [Value.oneCell']) (by unfold maxLen; omega) (by omega) (by simp; omega) ?_; intro v' w2 hown' hgrow _; obtain ⟨hv1, hv2, -, hk2, hb2⟩ := hv.appended (n₀ := w.heap.size) (by decide) (own_weaken hrow (by omega)) hB.size hle1 (own_weaken hown' (by omega)) hgrow; have hr3 := hown'.kept (grownBy_setCell' w2 w1.heap.size v') (.inr (hv1.not_row (by decide) hown').symm); obtain ⟨g', cap', rfl⟩ := ownsRow_succ hown'; have hc1 := hv1.cell; have hf1 := hv1.frozen))
        exact ⟨hk2.from _, ⟨hb2, fun u hu => cell_app hgrow hrow (by omega) (by omega) hu⟩, cell_app hgrow hrow (by omega) (by omega) cF, cell_app hgrow hrow (by omega) (by omega) cW, cell_app hgrow hrow (by omega) (by omega) cK, cell_app hgrow hrow (by omega) (by omega) cI, cell_app hgrow hrow (by omega) (by omega) cS, ⟨_, hv2, by rw [hh.out]; simpa using hr3, trivial⟩, hB.trans hb2⟩
    · have hxf : (g || (!kn || x == wh)) = false := by simpa using hx
      have hh := sel_miss (a := a) (wh := wh) (kn := kn) pre (x := x) (by rw [hgr]; exact hxf)
      replace hh := Lib.hid hh
      clear hgr hx
      cases g
      · cases kn
        · simp at hxf
        · have hxw : (x == wh) = false := by simpa using hxf
          clear hxf
          gi_wp2_with (refine ⟨trivial, ?_⟩; gi_at_call 16; refine (CallsIn.inRound l (Group_in Fence.wide _ trivial rfl _ _)).mono ?_; rintro e w' ⟨rfl, rfl⟩)
          exact ⟨KeepsFrom.refl _ _, ⟨Below.refl _ _, fun _ h => h⟩, cF, cW, cK, cI, cS, ⟨v, hv, by rw [hh.out]; exact hrow, trivial⟩, hB⟩
      · simp at hxf
  case done =>
    rintro D ys W hD rfl ⟨cF, cW, cK, cI, cS, ⟨v, hv, hrow, -⟩, hB⟩ hK
    have hc := hv.cell
    gi_wp2
    refine ⟨by simp, .inl ⟨_, _, rfl, run_takeDeferred hK, ?_⟩⟩
    exact ⟨_, results_tmp rfl _ _ _, v, rfl, ownsRow_putObj (own_weaken hrow (by omega)) _ hK rfl, hB.trans (belowK_b (w := w) (Nat.le_refl _) W D _ _ (by omega) hK rfl rfl)⟩
  case stop =>
    rintro D c' pre W _ _ h _
    exact h.elim
end Go.Proofs.YtkgfpagfmdefgaaDoor.Llc
