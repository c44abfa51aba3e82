/- What Go functions that the law ScriptReads uses come to, and why: part 18. Made out of the kit's print by a program of this session (wip/tools/stub.py, splice.py), functions that it does not take told by hand. -/
import Derived.Test.YtiikllgppmmiaaaDoorRd1
namespace Go.Proofs.YtiikllgppmmiaaaDoor.OScriptReads
open Go.RowKit Go.Proofs.YtiikllgppmmiaaaDoorW.PrintWords Go.Proofs.YtiikllgppmmiaaaDoorW.PrintLast Go.Proofs.YtiikllgppmmiaaaDoorW.PrintMore
attribute [local go_sem] max2_int min2_int max_two min_two max_three min_three max_four min_four   -- for this text's walks alone
set_option linter.unusedVariables false
set_option linter.unusedSimpArgs false
set_option maxHeartbeats 8000000 in
set_option maxRecDepth 100000 in
noncomputable def treelineref24_Read.calls.p2 : Part (treelineref24_Read.calls.p1.A) := ⟨_, fun hPart_ => by
 delta treelineref24_Read.calls.p1
 intro k A0 c0 l0 r1 r2 r3 r4 r5 w hu28 hu51 hu63 hu66 hu39 hu43 HR0 HC0 t353 t354 A2 t357 t358 A3 t359 t360 A4 zc1_1 gb352 GW352 GE352 g355 NB355_352 NB352_355 gb356 GW356 GE356 NB352_356 NB356_352 NB355_356 NB356_355 hnb8 hnc8 hnb9 hnc9 zc1_2 u8 u9 u10 u11 u12 u13 u14 u40 u41 u42 u43 u44 u45 u46 u47 u48 u49 u50 u51 u52 u53 u54 u55 u56 u57 u58 u59 u60 u61 u62 u63 u64 u65 u66 u67 u68 u69 u70 u71 u72 u73 u74 u75 u76 u77 u78 u79 u80 u81 u82 u83 u84 u85 u86 u87 u88 u89 u90 u91 u92 u93 u94 u95 u96 u97 u98 u99 u100 u101 u102 u103 u104 u105 u106 u107 u108 u109 u110 u111 u112 u113 u114 u115 u116 u117 u118 u119 u120 u121 u122 u123 u124 u125 u126 u127 zc1_3 zc1_4 zc1_5 x7_1 x356001_1 x357001_1 x357002_1 u357001 u357002 k1 zc1_6 HK1 t392 t393 A82 zc1_7 zc1_8 zc1_9 zc1_10 u133 u134 u135 u136 u137 u138 u139 u140 u141 u142 u143 u144 u145 u146 u147 zc1_11 zc1_12 zc1_13 x16_2 x356001_2 x357003_2 u357003 HO_357001 HO_357002 HO_357003 BK352 BK356 HI355 HB k2 zc1_14 HK2 c84b0 H' zc1_15 zc1_16 zc1_17 zc1_18 gk wr u17 u18 u19 u20 u21 u22 u23 u24 u25 u148 u149 u150 u151 u152 u153 u154 u155 u156 u157 u158 u159 u160 u161 u162 u163 u164 u165 u166 u167 u168 u169 u170 u171 u172 u173 u174 u175 u176 u177 u178 u179 u180 u181 u182 u183 u184 u185 u186 u187 u188 u189 u190 u191 u192 u193 u194 u195 u196 u197 u198 u199 u200 u201 u202 u203 u204 u205 u206 u207 u208 u209 u210 u211 u212 u213 u214 u215 u216 u217 u218 u219 u220 u221 u222 u223 u224 u225 u226 u227 u228 u229 u230 u231 u232 u233 u234 u235 u236 u237 u238 u239 u240 u241 u242 u243 u244 u245 u246 u247 u248 u249 u250 u251 u252 u253 u254 u255 u256 u257 u258 u259 u260 u261 u262 u263 u264 u265 u266 u267 u268 u269 u270 u271 u272 u273 u274 u275 u276 u277 u278 u279 hrel zc1_19 zc1_20 zc1_21 zc1_22
 clear H'
 try clear p2
 try clear p6
 try clear c14
 try clear c14b0
 try clear c43b0
 try clear c54b0
 try clear p64
 try clear c84
 try clear c84b0
 try clear c86
 try clear p2
 try clear p6
 try clear p64
 obtain ⟨x17_3, x356001_3, HA, HK3, HO_17, HO_357001, HO_357002, HO_357003, BK352, BK356, HI355, HB⟩ := hrel
 cases gk with
 | zero => exact absurd HA.out (by simp [treelineref24_Read.l4])
 | succ k3 => ?_
 have H := HA.out
 clear HA
 simp only [treelineref24_Read.l4] at H
 have HC92 := Aside0.mk H
 clear H
 go_upto_region 35 with (fail)
 go_cut [159] (fun v159 wc => ∃ (kq : Nat) (x159_91 : Bool), v159 = .bool x159_91 ∧ Aside0 (treelineref24_Read.j5 kq l0 (wrap64 (1 + t359)) x17_3 x159_91 t353 x356001_3 (wrap64 (1 + t357)) x357001_1 x357002_1 x357003_2 = some (r1, r2, r3, r4, r5)) ∧ Aside0 (kq ≤ k3) ∧ Aside0 (Kd.S k39 39 wc w.heap.size (fun _ => True) u17 x17_3) ∧ Aside0 (Kd.S k51 51 wc w.heap.size (fun _ => True) u357001 x357001_1) ∧ Aside0 (Kd.S (Kd.slice 3 (Kd.int .i64)) 64 wc w.heap.size (fun _ => True) u357002 x357002_1) ∧ Aside0 (Kd.R k66 66 wc w.heap.size (fun _ => True) u357003 x357003_2) ∧ Aside0 (wc.heap[gb352]? = some (.cells #[.int .i64 0, (.slice none 0 0), (.slice none 0 0), (.slice none 0 0)] 28 (0, 0))) ∧ Aside0 (wc.heap[gb356]? = some (.cells #[.int .i64 (wrap64 (1 + t357)), u357001, u357002, u357003] 28 (0, 0))) ∧ Aside0 (IsS59 w wc g355 t353 x356001_3) ∧ Aside0 (Below w.heap.size w wc))
 case first =>
  have H := HC92.out
  clear HC92
  by_cases c93 : x356001_3 < (l0.length : Int)
  rotate_left
  ·rw [if_neg c93] at H
   have c93b0 : decide (x356001_3 < (l0.length : Int)) = false := decide_eq_false c93
   clear c93
   (first | rw [c93b0] | (simp only [i64_w, i32_w]; rw [c93b0]) | skip)
   have H' := Aside0.mk H
   clear H
   obtain ⟨ASz96_0, cSz96_0, HGz96, hgz96, HSz96_0⟩ := HI355.out
   have hcz96_0 := cellS59_0 HGz96
   have hcz96_1 := cellS59_1 HGz96
   have hfz96_1 := blk_frozen HGz96 1
   clear HGz96 hgz96
   go_wp2
   go_meet
   case rel => exact ⟨_, (false), (by first | rfl | (simp; done) | (simp [*]; done)), H', ⟨by have := HK1.out; have := HK2.out; have := HK3.out; first | omega | exact Nat.le_refl _⟩, ⟨bN HO_17.out⟩, ⟨bN HO_357001.out⟩, ⟨bN HO_357002.out⟩, ⟨bN HO_357003.out⟩, ⟨bw BK352.out⟩, ⟨bw BK356.out⟩, ⟨bI HI355.out⟩, ⟨bB⟩⟩
  rw [if_pos c93] at H
  have c93b0 : decide (x356001_3 < (l0.length : Int)) = true := decide_eq_true c93
  clear c93
  (first | rw [c93b0] | (simp only [i64_w, i32_w]; rw [c93b0]) | skip)
  have H' := Aside0.mk H
  clear H
  obtain ⟨ASz94_0, cSz94_0, HGz94, hgz94, HSz94_0⟩ := HI355.out
  have hcz94_0 := cellS59_0 HGz94
  have hcz94_1 := cellS59_1 HGz94
  have hfz94_1 := blk_frozen HGz94 1
  clear HGz94 hgz94
  obtain ⟨Ao95, co95, eo95⟩ := Kd.S_slice HO_17.out
  subst eo95
  go_wp2
  go_meet
  case rel => exact ⟨_, (decide ((x17_3.length : Int) < 8000)), (by first | rfl | (simp; done) | (simp [*]; done)), H', ⟨by have := HK1.out; have := HK2.out; have := HK3.out; first | omega | exact Nat.le_refl _⟩, ⟨bN HO_17.out⟩, ⟨bN HO_357001.out⟩, ⟨bN HO_357002.out⟩, ⟨bN HO_357003.out⟩, ⟨bw BK352.out⟩, ⟨bw BK356.out⟩, ⟨bI HI355.out⟩, ⟨bB⟩⟩
 clear HC92
 try clear p2
 try clear p6
 try clear c14b0
 try clear c43b0
 try clear c54b0
 try clear p64
 try clear c84b0
 try clear c93
 try clear c93b0
 try clear p2
 try clear p6
 try clear p64
 obtain ⟨kq, x159_91, rfl, HA, HJ91, HO_17, HO_357001, HO_357002, HO_357003, BK352, BK356, HI355, HB⟩ := hcut
 cases kq with
 | zero => exact absurd HA.out (by simp [treelineref24_Read.j5])
 | succ kj91 => ?_
 have H := HA.out
 clear HA
 simp only [treelineref24_Read.j5] at H
 by_cases c97 : x159_91 = true
 rotate_left
 ·replace c97 := Bool.eq_false_iff.mpr c97
  subst c97
  rw [if_neg (show ¬ (false = true) by decide)] at H
  simp only [Option.some.injEq, Prod.mk.injEq] at H
  obtain ⟨rfl, rfl, rfl, rfl, rfl⟩ := H
  have hnb251 := NB356_352.out
  have hnc251 := NB352_356.out
  have hnb252 := NB356_355.out
  have hnc252 := NB355_356.out
  obtain ⟨hcz253_0, hcz253_1, hcz253_2, hcz253_3⟩ := cZ4 BK356.out
  obtain ⟨hfz253_0, hfz253_1, hfz253_2, hfz253_3⟩ := fZ4 BK356.out
  have hnb254 := NB352_355.out
  have hnc254 := NB355_352.out
  obtain ⟨hcz255_0, hcz255_1, hcz255_2, hcz255_3⟩ := cZ4 BK352.out
  obtain ⟨hfz255_0, hfz255_1, hfz255_2, hfz255_3⟩ := fZ4 BK352.out
  obtain ⟨Ao256, co256, eo256⟩ := Kd.S_slice HO_357001.out
  subst eo256
  obtain ⟨Ao257, co257, eo257⟩ := Kd.S_slice HO_357002.out
  subst eo257
  obtain ⟨Ao258, co258, eo258⟩ := Kd.R_slice HO_357003.out
  subst eo258
  go_wp2
  refine bodyPost_ret (results_ct rfl _ _ gb352 28 #[.int .i64 (wrap64 (1 + t357)), .slice Ao256 x357001_1.length co256, .slice Ao257 x357002_1.length co257, .slice Ao258 x357003_2.length co258] (0, 0) _ rfl (by exact put4 (bw BK352.out)) Tryd.underlying28 rfl (by kernel_rfl)) rfl ?_
  exact ⟨_, _, _, _, by first | rfl | (simp [errW_none, errW_some] <;> rfl) | (simp [*, errW_none, errW_some] <;> rfl), by refine bN ?_; exact Kd.S_mono (Sfar4 (Kd.S_types HO_357001.out BK352.out (by decide)) (fun _ hk => hk.2)) (fun _ hk => trivial), by refine bN ?_; exact Kd.S_mono (Sfar4 (Kd.S_types HO_357002.out BK352.out (by decide)) (fun _ hk => hk.2)) (fun _ hk => trivial), by refine bN ?_; exact Kd.R_mono (Rfar4 (Kd.R_types HO_357003.out BK352.out (by decide)) (fun _ hk => hk.2)) (fun _ hk => trivial), by refine bN ?_; exact Kd.S_mono (Sfar4 (Kd.S_types HO_17.out BK352.out (by decide)) (fun _ hk => hk.2)) (fun _ hk => trivial), by exact bB⟩
 subst c97
 rw [if_pos rfl] at H
 replace H := Option.bind_eq_some_iff.mp H
 obtain ⟨⟨t399, t400⟩, A980, H⟩ := H
 (try dsimp only at H)
 have A98 := Aside0.mk A980
 clear A980
 have HC99 := Aside0.mk H
 clear H
 go_upto_region 38 with (first | ((with_reducible refine gate_callee (f := 18) rfl ?_); refine gL (some 161) Tryd.func18 #[.pointer (some ⟨g355, 0, none⟩), .int .i64 256] ?_; (with_reducible refine (treelineref24_At_by.calls g355 t353 x356001_3 256 t399 t400 w _ ?side1 ?side2 A98.out).mono ?_); (case side1 => exact bI HI355.out); (case side2 => exact bB); rintro e w100 ⟨rfl, hi, hb, hk⟩; refine ⟨_, rfl, ?_⟩; replace HO_17 := Aside0.mk (Kd.S_mono (Kd.S_keep (IsS59.apartS (show IsS59 w _ g355 t353 x356001_3 from by exact bI HI355.out) (bN HO_17.out) (by decide)) hk (fun _ h => h.2)) (fun _ h => h.1)); replace HO_357001 := Aside0.mk (Kd.S_mono (Kd.S_keep (IsS59.apartS (show IsS59 w _ g355 t353 x356001_3 from by exact bI HI355.out) (bN HO_357001.out) (by decide)) hk (fun _ h => h.2)) (fun _ h => h.1)); replace HO_357002 := Aside0.mk (Kd.S_mono (Kd.S_keep (IsS59.apartS (show IsS59 w _ g355 t353 x356001_3 from by exact bI HI355.out) (bN HO_357002.out) (by decide)) hk (fun _ h => h.2)) (fun _ h => h.1)); replace HO_357003 := Aside0.mk (Kd.R_mono (Kd.R_keep (IsS59.apart (show IsS59 w _ g355 t353 x356001_3 from by exact bI HI355.out) (bN HO_357003.out) (by decide)) hk (fun _ h => h.2)) (fun _ h => h.1)); replace BK352 := Aside0.mk (KeepBut.blk hk (g' := gb352) (o := .cells #[.int .i64 0, .slice none 0 0, .slice none 0 0, .slice none 0 0] 28 (0, 0)) (bw BK352.out) NB352_355.out (by simp)); replace BK356 := Aside0.mk (KeepBut.blk hk (g' := gb356) (o := .cells #[.int .i64 (wrap64 (1 + t357)), u357001, u357002, u357003] 28 (0, 0)) (bw BK356.out) NB356_355.out (by simp)); replace HB := Aside0.mk (hb); replace HI355 := Aside0.mk (hi); (try clear hb); (try clear hb2); (try clear hk); (try clear hi)) | ((with_reducible refine gate_dst (N := 19) rfl ?_); (try (refine gate_guard (by rfl) ?_; dsimp only)); refine box_event ?hg (N := 19) ?hd (cs := #[.int .i64 0, .int .i64 0, .int .i64 0, .bool false, .int .u64 0, .slice none 0 0]) (t := 39) ?hr ?_; (case hd => rfl); (case hg => rfl); (case hr => first | (go_simp; done) | (go_simp; rfl)); intro gb401 hg w101 hbox hb; replace HO_17 := Aside0.mk (Kd.S_below (Kd.S_elderB (bN HO_17.out) gb401 (Nat.le_of_eq hg.symm)) hb); replace HO_357001 := Aside0.mk (Kd.S_below (bN HO_357001.out) hb); replace HO_357002 := Aside0.mk (Kd.S_below (bN HO_357002.out) hb); replace HO_357003 := Aside0.mk (Kd.R_below (bN HO_357003.out) hb); have BK401 := Aside0.mk (hbox); have GW401 := Aside0.mk ((by rw [hg]; exact (below_size bB) : w.heap.size ≤ gb401)); have GE401 := Aside0.mk ((by rw [hg]; exact (below_size bB) : w.heap.size ≤ gb401)); replace HB := Aside0.mk (below_step bB hb); have NB352_401 := Aside0.mk (nbL (bw BK352.out) hg : gb352 ≠ gb401); have NB401_352 := Aside0.mk (nbL (bw BK352.out) hg : gb352 ≠ gb401).symm; replace BK352 := Aside0.mk (blk_below (g := gb352) (o := .cells #[.int .i64 0, .slice none 0 0, .slice none 0 0, .slice none 0 0] 28 (0, 0)) (bw BK352.out) hb); have NB356_401 := Aside0.mk (nbL (bw BK356.out) hg : gb356 ≠ gb401); have NB401_356 := Aside0.mk (nbL (bw BK356.out) hg : gb356 ≠ gb401).symm; replace BK356 := Aside0.mk (blk_below (g := gb356) (o := .cells #[.int .i64 (wrap64 (1 + t357)), u357001, u357002, u357003] 28 (0, 0)) (bw BK356.out) hb); have NB355_401 := Aside0.mk ((by rw [hg]; exact Nat.ne_of_lt (IsS59.lt (show IsS59 w _ g355 t353 t400 from by exact bI HI355.out)) : g355 ≠ gb401)); have NB401_355 := Aside0.mk ((by rw [hg]; exact Nat.ne_of_gt (IsS59.lt (show IsS59 w _ g355 t353 t400 from by exact bI HI355.out)) : gb401 ≠ g355)); replace HI355 := Aside0.mk (IsS59.below (bI HI355.out) hb); clear hb hbox hg; have hnb102 := NB401_352.out; have hnc102 := NB352_401.out; have hnb103 := NB401_356.out; have hnc103 := NB356_401.out; have hnb104 := NB401_355.out; have hnc104 := NB355_401.out; obtain ⟨hcz105_0, hcz105_1, hcz105_2, hcz105_3, hcz105_4, hcz105_5⟩ := cZ6 BK401.out; obtain ⟨hfz105_0, hfz105_1, hfz105_2, hfz105_3, hfz105_4, hfz105_5⟩ := fZ6 BK401.out))
 (try simp only [Act.put, List.setIfInBounds_toArray, List.set_cons_zero, List.set_cons_succ])
 go_cut [177] (fun v177 wc => ∃ (kq : Nat) (x177_98 : Bool), v177 = .bool x177_98 ∧ Aside0 (treelineref24_Read.j6 kq l0 (wrap64 (1 + t359)) x17_3 t399 x177_98 t353 t400 (wrap64 (1 + t357)) x357001_1 x357002_1 x357003_2 (Int.tmod t399 7) 0 0 false 0 = some (r1, r2, r3, r4, r5)) ∧ Aside0 (kq ≤ kj91) ∧ Aside0 (Kd.S k39 39 wc w.heap.size (fun k_ => k_ ≠ gb401) u17 x17_3) ∧ Aside0 (Kd.S k51 51 wc w.heap.size (fun _ => True) u357001 x357001_1) ∧ Aside0 (Kd.S (Kd.slice 3 (Kd.int .i64)) 64 wc w.heap.size (fun _ => True) u357002 x357002_1) ∧ Aside0 (Kd.R k66 66 wc w.heap.size (fun _ => True) u357003 x357003_2) ∧ Aside0 (wc.heap[gb352]? = some (.cells #[.int .i64 0, (.slice none 0 0), (.slice none 0 0), (.slice none 0 0)] 28 (0, 0))) ∧ Aside0 (wc.heap[gb356]? = some (.cells #[.int .i64 (wrap64 (1 + t357)), u357001, u357002, u357003] 28 (0, 0))) ∧ Aside0 (wc.heap[gb401]? = some (.cells #[.int .i64 (Int.tmod t399 7), .int .i64 0, .int .i64 0, .bool false, .int .u64 0, (.slice none 0 0)] 39 (0, 0))) ∧ Aside0 (IsS59 w wc g355 t353 t400) ∧ Aside0 (Below w.heap.size w wc))
 case first =>
  have H := HC99.out
  clear HC99
  by_cases c106 : (Int.tmod t399 7) = 0
  ·rw [if_pos c106] at H
   have c106b0 : ((Int.tmod t399 7) == 0) = true := beq_iff_eq.mpr c106
   have c106b1 : ((Int.tmod t399 7) != 0) = false := bne_eq_false_iff_eq.mpr c106
   clear c106
   (first | rw [c106b0] | (simp only [i64_w, i32_w]; rw [c106b0]) | skip)
   have H' := Aside0.mk H
   clear H
   have hnb107 := NB401_352.out
   have hnc107 := NB352_401.out
   have hnb108 := NB401_356.out
   have hnc108 := NB356_401.out
   have hnb109 := NB401_355.out
   have hnc109 := NB355_401.out
   obtain ⟨hcz110_0, hcz110_1, hcz110_2, hcz110_3, hcz110_4, hcz110_5⟩ := cZ6 BK401.out
   obtain ⟨hfz110_0, hfz110_1, hfz110_2, hfz110_3, hfz110_4, hfz110_5⟩ := fZ6 BK401.out
   go_wp2
   go_meet
   case rel => exact ⟨_, (true), (by first | rfl | (simp; done) | (simp [*]; done)), H', ⟨by have := HK1.out; have := HK2.out; have := HK3.out; have := HJ91.out; first | omega | exact Nat.le_refl _⟩, ⟨by refine bN ?_; exact Kd.S_mono (Sfar6 (Kd.S_mono HO_17.out (fun k_ hk => (⟨hk, hk.2⟩ : _ ∧ k_ ≠ gb401))) (fun _ hk => hk.2)) (fun _ hk => hk.1.2)⟩, ⟨by refine bN ?_; exact Kd.S_mono (Sfar6 (Kd.S_types HO_357001.out BK401.out (by decide)) (fun _ hk => hk.2)) (fun _ hk => trivial)⟩, ⟨by refine bN ?_; exact Kd.S_mono (Sfar6 (Kd.S_types HO_357002.out BK401.out (by decide)) (fun _ hk => hk.2)) (fun _ hk => trivial)⟩, ⟨by refine bN ?_; exact Kd.R_mono (Rfar6 (Kd.R_types HO_357003.out BK401.out (by decide)) (fun _ hk => hk.2)) (fun _ hk => trivial)⟩, ⟨bw BK352.out⟩, ⟨bw BK356.out⟩, ⟨by exact put6 (bw BK401.out)⟩, ⟨bI HI355.out⟩, ⟨bB⟩⟩
  rw [if_neg c106] at H
  have c106b0 : ((Int.tmod t399 7) == 0) = false := beq_eq_false_iff_ne.mpr c106
  have c106b1 : ((Int.tmod t399 7) != 0) = true := bne_iff_ne.mpr c106
  (first | rw [c106b0] | (simp only [i64_w, i32_w]; rw [c106b0]) | skip)
  by_cases c111 : (Int.tmod t399 7) = 4
  ·rw [if_pos c111] at H
   have c111b0 : ((Int.tmod t399 7) == 4) = true := beq_iff_eq.mpr c111
   have c111b1 : ((Int.tmod t399 7) != 4) = false := bne_eq_false_iff_eq.mpr c111
   clear c111
   have H' := Aside0.mk H
   clear H
   have hnb112 := NB401_352.out
   have hnc112 := NB352_401.out
   have hnb113 := NB401_356.out
   have hnc113 := NB356_401.out
   have hnb114 := NB401_355.out
   have hnc114 := NB355_401.out
   obtain ⟨hcz115_0, hcz115_1, hcz115_2, hcz115_3, hcz115_4, hcz115_5⟩ := cZ6 BK401.out
   obtain ⟨hfz115_0, hfz115_1, hfz115_2, hfz115_3, hfz115_4, hfz115_5⟩ := fZ6 BK401.out
   go_wp2
   go_meet
   case rel => exact ⟨_, (true), (by first | rfl | (simp; done) | (simp [*]; done)), H', ⟨by have := HK1.out; have := HK2.out; have := HK3.out; have := HJ91.out; first | omega | exact Nat.le_refl _⟩, ⟨by refine bN ?_; exact Kd.S_mono (Sfar6 (Kd.S_mono HO_17.out (fun k_ hk => (⟨hk, hk.2⟩ : _ ∧ k_ ≠ gb401))) (fun _ hk => hk.2)) (fun _ hk => hk.1.2)⟩, ⟨by refine bN ?_; exact Kd.S_mono (Sfar6 (Kd.S_types HO_357001.out BK401.out (by decide)) (fun _ hk => hk.2)) (fun _ hk => trivial)⟩, ⟨by refine bN ?_; exact Kd.S_mono (Sfar6 (Kd.S_types HO_357002.out BK401.out (by decide)) (fun _ hk => hk.2)) (fun _ hk => trivial)⟩, ⟨by refine bN ?_; exact Kd.R_mono (Rfar6 (Kd.R_types HO_357003.out BK401.out (by decide)) (fun _ hk => hk.2)) (fun _ hk => trivial)⟩, ⟨bw BK352.out⟩, ⟨bw BK356.out⟩, ⟨by exact put6 (bw BK401.out)⟩, ⟨bI HI355.out⟩, ⟨bB⟩⟩
  rw [if_neg c111] at H
  have c111b0 : ((Int.tmod t399 7) == 4) = false := beq_eq_false_iff_ne.mpr c111
  have c111b1 : ((Int.tmod t399 7) != 4) = true := bne_iff_ne.mpr c111
  have H' := Aside0.mk H
  clear H
  have hnb116 := NB401_352.out
  have hnc116 := NB352_401.out
  have hnb117 := NB401_356.out
  have hnc117 := NB356_401.out
  have hnb118 := NB401_355.out
  have hnc118 := NB355_401.out
  obtain ⟨hcz119_0, hcz119_1, hcz119_2, hcz119_3, hcz119_4, hcz119_5⟩ := cZ6 BK401.out
  obtain ⟨hfz119_0, hfz119_1, hfz119_2, hfz119_3, hfz119_4, hfz119_5⟩ := fZ6 BK401.out
  go_wp2
  go_meet
  case rel => exact ⟨_, (((Int.tmod t399 7) == 5)), (by first | rfl | (simp; done) | (simp [*]; done)), H', ⟨by have := HK1.out; have := HK2.out; have := HK3.out; have := HJ91.out; first | omega | exact Nat.le_refl _⟩, ⟨by refine bN ?_; exact Kd.S_mono (Sfar6 (Kd.S_mono HO_17.out (fun k_ hk => (⟨hk, hk.2⟩ : _ ∧ k_ ≠ gb401))) (fun _ hk => hk.2)) (fun _ hk => hk.1.2)⟩, ⟨by refine bN ?_; exact Kd.S_mono (Sfar6 (Kd.S_types HO_357001.out BK401.out (by decide)) (fun _ hk => hk.2)) (fun _ hk => trivial)⟩, ⟨by refine bN ?_; exact Kd.S_mono (Sfar6 (Kd.S_types HO_357002.out BK401.out (by decide)) (fun _ hk => hk.2)) (fun _ hk => trivial)⟩, ⟨by refine bN ?_; exact Kd.R_mono (Rfar6 (Kd.R_types HO_357003.out BK401.out (by decide)) (fun _ hk => hk.2)) (fun _ hk => trivial)⟩, ⟨bw BK352.out⟩, ⟨bw BK356.out⟩, ⟨by exact put6 (bw BK401.out)⟩, ⟨bI HI355.out⟩, ⟨bB⟩⟩
 rename_i zd2_1 zd2_2 zd2_3 zd2_4 zd2_5 zd2_6 zd2_7 _ _ _ _ _ _ _ _ _ _ _ _ _ _ _ _ _ _ _ _ _ _ _ _ _ _ _ _ _ _ _ _ _ _ _ _ _ _ _ _ _ _ _ _ _ _ _ _ _ _ _ _ _ _ _ _ _ _ _ _ _ _ _ _ _ _ _ _ _ _ _ _ _ _ _ _ _ _ _ _ _ _ _ _ _ _ _ _ _ _ _ _ _ _ _ _ _ _ _ _ _ _ _ _ _ _ _ _ _ _ _ _ _ _ _ _ _ _ _ _ _ _ _ _ _ _ _ _ _ _ _ _ zd2_8 zd2_9 zd2_10 zd2_11 zd2_12 zd2_13 zd2_14 zd2_15 _ _ _ _ _ _ _ _ _ _ _ _ _ _ _ _ _ _ _ _ _ _ _ _ _ _ _ _ _ _ _ _ _ _ _ _ _ _ _ _ _ _ _ _ _ _ _ _ _ _ _ _ _ _ _ _ _ _ _ _ _ _ _ _ _ _ _ _ _ _ _ _ _ _ _ _ _ _ _ _ _ _ _ _ _ _ _ _ _ _ _ _ _ _ _ _ _ _ _ _ _ _ _ _ _ _ _ _ _ _ _ _ _ _ _ _ _ _ _ _ _ _ _ _ _ _ _ _ _ _ _ _ zc2_1 zc2_2 zc2_3 zc2_4
 clear zd2_1 zd2_2 zd2_3 zd2_4 zd2_5 zd2_6 zd2_7 zd2_8 zd2_9 zd2_10 zd2_11 zd2_12 zd2_13 zd2_14 zd2_15
 revert k A0 c0 l0 r1 r2 r3 r4 r5 w hu28 hu51 hu63 hu66 hu39 hu43 HR0 HC0 t353 t354 A2 t357 t358 A3 t359 t360 A4 zc1_1 gb352 GW352 GE352 g355 NB355_352 NB352_355 gb356 GW356 GE356 NB352_356 NB356_352 NB355_356 NB356_355 hnb8 hnc8 hnb9 hnc9 zc1_2 u8 u9 u10 u11 u12 u13 u14 u40 u41 u42 u43 u44 u45 u46 u47 u48 u49 u50 u51 u52 u53 u54 u55 u56 u57 u58 u59 u60 u61 u62 u63 u64 u65 u66 u67 u68 u69 u70 u71 u72 u73 u74 u75 u76 u77 u78 u79 u80 u81 u82 u83 u84 u85 u86 u87 u88 u89 u90 u91 u92 u93 u94 u95 u96 u97 u98 u99 u100 u101 u102 u103 u104 u105 u106 u107 u108 u109 u110 u111 u112 u113 u114 u115 u116 u117 u118 u119 u120 u121 u122 u123 u124 u125 u126 u127 zc1_3 zc1_4 zc1_5 x7_1 x356001_1 x357001_1 x357002_1 u357001 u357002 k1 zc1_6 HK1 t392 t393 A82 zc1_7 zc1_8 zc1_9 u133 u134 u135 u136 u137 u138 u139 u140 u141 u142 u143 u144 u145 u146 u147 zc1_11 zc1_12 zc1_13 x16_2 x357003_2 u357003 k2 zc1_14 HK2 zc1_15 zc1_16 zc1_17 zc1_18 u17 u20 u21 u22 u23 u24 u25 zc1_19 zc1_20 zc1_21 x17_3 x356001_3 k3 zc1_22 HK3 kj91 HJ91 t399 t400 A98 HC99 gb401 w101 HO_17 HO_357001 HO_357002 HO_357003 BK401 GW401 GE401 HB NB352_401 NB401_352 BK352 NB356_401 NB401_356 BK356 NB355_401 NB401_355 HI355 hnb102 hnc102 hnb103 hnc103 hnb104 hnc104 hcz105_0 hcz105_1 hcz105_2 hcz105_3 hcz105_4 hcz105_5 hfz105_0 hfz105_1 hfz105_2 hfz105_3 hfz105_4 hfz105_5 zc2_1 zc2_2 zc2_3 zc2_4 wc u148 u149 u150 u151 u152 u153 u154 u155 u156 u157 u158 u159 u160 u161 u162 u163 u164 u165 u166 u167 u168 u169 u170 u171 u172 u173 u174 u175 u176 u177 u178 u179 u180 u181 u182 u183 u184 u185 u186 u187 u188 u189 u190 u191 u192 u193 u194 u195 u196 u197 u198 u199 u200 u201 u202 u203 u204 u205 u206 u207 u208 u209 u210 u211 u212 u213 u214 u215 u216 u217 u218 u219 u220 u221 u222 u223 u224 u225 u226 u227 u228 u229 u230 u231 u232 u233 u234 u235 u236 u237 u238 u239 u240 u241 u242 u243 u244 u245 u246 u247 u248 u249 u250 u251 u252 u253 u254 u255 u256 u257 u258 u259 u260 u261 u262 u263 u264 u265 u266 u267 u268 u269 u270 u271 u272 u273 u274 u275 u276 u277 u278 u279 hcut
 exact hPart_.out⟩
end Go.Proofs.YtiikllgppmmiaaaDoor.OScriptReads
