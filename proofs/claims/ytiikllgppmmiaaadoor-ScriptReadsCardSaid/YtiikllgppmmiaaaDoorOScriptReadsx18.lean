/- What Go functions that the law ScriptReads uses come to, and why: part 18. Made out of the kit's print by a program of this session (wip/tools/stub.py, splice.py), functions that it does not take told by hand. -/
import Derived.Test.YtiikllgppmmiaaaDoorRd5
namespace Go.Proofs.YtiikllgppmmiaaaDoor.OScriptReads
open Go.RowKit Go.Proofs.YtiikllgppmmiaaaDoorW.PrintWords Go.Proofs.YtiikllgppmmiaaaDoorW.PrintLast Go.Proofs.YtiikllgppmmiaaaDoorW.PrintMore
attribute [local go_sem] max2_int min2_int max_two min_two max_three min_three max_four min_four   -- for this text's walks alone
set_option linter.unusedVariables false
set_option linter.unusedSimpArgs false
set_option maxHeartbeats 8000000 in
set_option maxRecDepth 100000 in
theorem treelineref24_Read.calls.p6 : treelineref24_Read.calls.p5.A := by
 delta treelineref24_Read.calls.p5
 intro k A0 c0 l0 r1 r2 r3 r4 r5 w hu28 hu51 hu63 hu66 hu39 hu43 HR0 HC0 t353 t354 A2 t357 t358 A3 t359 t360 A4 zc1_1 gb352 GW352 GE352 g355 NB355_352 NB352_355 gb356 GW356 GE356 NB352_356 NB356_352 NB355_356 NB356_355 hnb8 hnc8 hnb9 hnc9 zc1_2 u8 u9 u10 u11 u12 u13 u14 u40 u41 u42 u43 u44 u45 u46 u47 u48 u49 u50 u51 u52 u53 u54 u55 u56 u57 u58 u59 u60 u61 u62 u63 u64 u65 u66 u67 u68 u69 u70 u71 u72 u73 u74 u75 u76 u77 u78 u79 u80 u81 u82 u83 u84 u85 u86 u87 u88 u89 u90 u91 u92 u93 u94 u95 u96 u97 u98 u99 u100 u101 u102 u103 u104 u105 u106 u107 u108 u109 u110 u111 u112 u113 u114 u115 u116 u117 u118 u119 u120 u121 u122 u123 u124 u125 u126 u127 zc1_3 zc1_4 zc1_5 x7_1 x356001_1 x357001_1 x357002_1 u357001 u357002 k1 zc1_6 HK1 t392 t393 A82 zc1_7 zc1_8 zc1_9 u133 u134 u135 u136 u137 u138 u139 u140 u141 u142 u143 u144 u145 u146 u147 zc1_11 zc1_12 zc1_13 x16_2 x357003_2 u357003 k2 zc1_14 HK2 zc1_15 zc1_16 zc1_17 zc1_18 u17 u23 u24 u25 zc1_19 zc1_20 zc1_21 x17_3 x356001_3 k3 zc1_22 HK3 kj91 HJ91 t399 t400 A98 gb401 GW401 GE401 NB352_401 NB401_352 NB356_401 NB401_356 NB355_401 NB401_355 hnb102 hnc102 hnb103 hnc103 hnb104 hnc104 kj98 HJ98 kj119 HJ119 hnb129 hnc129 hnb130 hnc130 hnb131 hnc131 x402003_127 kj127 HJ127 kj139 HJ139 x402001_149 kj149 HJ149 kj160 HJ160 zc5_1 x356001_170 x402002_170 HO_17 HO_357001 HO_357002 HO_357003 BK352 BK356 BK401 HI355 HB kj170 HJ170 HC179 hnb180 hnc180 hnb181 hnc181 hnb182 hnc182 hcz183_0 hcz183_1 hcz183_2 hcz183_3 hcz183_4 hcz183_5 hfz183_0 hfz183_1 hfz183_2 hfz183_3 hfz183_4 hfz183_5 zc5_2 zc5_3 wc u20 u21 u22 u148 u149 u150 u151 u152 u153 u154 u155 u156 u157 u158 u159 u160 u161 u162 u163 u164 u165 u166 u167 u168 u169 u170 u171 u172 u173 u174 u175 u176 u177 u178 u179 u180 u181 u182 u183 u184 u185 u186 u187 u188 u189 u190 u191 u192 u193 u194 u195 u196 u197 u198 u199 u200 u201 u202 u203 u204 u205 u206 u207 u208 u209 u210 u211 u212 u213 u214 u215 u216 u217 u218 u219 u220 u221 u222 u223 u224 u225 u226 u227 u228 u229 u230 u231 u232 u233 u234 u235 u236 u237 u238 u239 u240 u241 u242 u243 u244 u245 u246 u247 u248 u249 u250 u251 u252 u253 u254 u255 u256 u257 u258 u259 u260 u261 u262 u263 u264 u265 u266 u267 u268 u269 u270 u271 u272 u273 u274 u275 u276 u277 u278 u279 hcut
 clear HC179
 try clear p2
 try clear p6
 try clear p64
 try clear c184
 try clear c184b0
 try clear c184b1
 try clear c187b0
 try clear c195b0
 try clear hcz183_0
 try clear hcz183_1
 try clear hcz183_2
 try clear hcz183_3
 try clear hcz183_4
 try clear hcz183_5
 try clear hfz183_0
 try clear hfz183_1
 try clear hfz183_2
 try clear hfz183_3
 try clear hfz183_4
 try clear hfz183_5
 try clear p2
 try clear p6
 try clear p64
 obtain ⟨kq, x356001_178, x402005_178, u402005, HA, HJ178, HO_17, HO_357001, HO_357002, HO_357003, HO_402005, BK352, BK356, BK401, HI355, HB⟩ := hcut
 cases kq with
 | zero => exact absurd HA.out (by simp [treelineref24_Read.j14])
 | succ kj178 => ?_
 have H := HA.out
 clear HA
 simp only [treelineref24_Read.j14] at H
 by_cases c210 : (Int.tmod t399 7) = 6
 rotate_left
 ·rw [if_neg c210] at H
  have c210b0 : ((Int.tmod t399 7) == 6) = false := beq_eq_false_iff_ne.mpr c210
  have c210b1 : ((Int.tmod t399 7) != 6) = true := bne_iff_ne.mpr c210
  by_cases c244 : x17_3.length < 2199023255552
  rotate_left
  ·rw [if_neg c244] at H
   exact absurd H (by simp)
  rw [if_pos c244] at H
  have LMc244 := Aside0.mk c244
  clear c244
  obtain ⟨y440, hy440⟩ : ∃ y_ : List (S39), y_ = (x17_3 ++ [(⟨(Int.tmod t399 7), x402001_149, x402002_170, x402003_127, 0, x402005_178⟩ : S39)]) := ⟨_, rfl⟩
  replace H : (treelineref24_Read.l4 kj178 l0 (wrap64 (1 + t359)) y440 t353 x356001_178 (wrap64 (1 + t357)) x357001_1 x357002_1 x357003_2) = some (r1, r2, r3, r4, r5) := by first | (rw [hy440]; with_reducible exact H) | (have H2_ := (Option.bind_some _ _).symm.trans H; rw [hy440]; with_reducible exact H2_) | (have H2_ := (Option.bind_some _ _).symm.trans H; with_reducible exact H2_) | with_reducible exact H | (rw [hy440]; exact H) | exact H
  have Ny440 := Aside0.mk hy440
  clear hy440
  have H' := Aside0.mk H
  clear H
  have hnb245 := NB401_352.out
  have hnc245 := NB352_401.out
  have hnb246 := NB401_356.out
  have hnc246 := NB356_401.out
  have hnb247 := NB401_355.out
  have hnc247 := NB355_401.out
  obtain ⟨hcz248_0, hcz248_1, hcz248_2, hcz248_3, hcz248_4, hcz248_5⟩ := cZ6 BK401.out
  obtain ⟨hfz248_0, hfz248_1, hfz248_2, hfz248_3, hfz248_4, hfz248_5⟩ := fZ6 BK401.out
  obtain ⟨Ao250, co250, eo250⟩ := Kd.R_slice HO_402005.out
  subst eo250
  go_wp2_with (first | ((with_reducible refine gate_builtin (b := .append) (xs := #[.tmp 276, .tmp 278]) rfl ?_); (try (refine gate_guard (by rfl) ?_; dsimp only)); at_builtin; refine Kd.S_append k39 (w0 := w) w.heap.size rfl (.tmp 276) (.tmp 278) 29 39 (.agg #[(.int .i64 0), (.int .i64 0), (.int .i64 0), (.bool false), (.int .u64 0), (.slice none 0 0)]) 64 rfl Tryd.underlying29 info39 rfl (by decide) (by omega) u17 x17_3 (⟨(Int.tmod t399 7), x402001_149, x402002_170, x402003_127, 0, x402005_178⟩ : S39) [.int .i64 (Int.tmod t399 7), .int .i64 x402001_149, .int .i64 x402002_170, .bool x402003_127, .int .u64 0, .slice Ao250 x402005_178.length co250] (fun k_ => k_ ≠ gb401) (fun k_ => some k_ = (.slice Ao250 x402005_178.length co250 : Value).ownBlock) rfl rfl ?aP (fun k_ hk_ => ((Kd.R_mono (ok' := fun k_ => ((fun k_ => k_ ≠ gb401)) k_ ∧ some k_ ≠ (u17 : Value).ownBlock) (Kd.R_types (Kd.R_apart' (HO_402005.out) (Kd.S_typed HO_17.out) (by decide)) BK401.out (by decide)) (fun k_ hk => ⟨hk.2, hk.1.2⟩))).1 k_ hk_.symm) ?aF ?aO ?aB ?aS ?aL ?_; (case aP => exact k39_mkM _ _ _ (⟨(Int.tmod t399 7), x402001_149, x402002_170, x402003_127, 0, x402005_178⟩ : S39) (Kd.R_mono (Kd.R_tight rfl (Kd.R_mono (ok' := fun k_ => ((fun k_ => k_ ≠ gb401)) k_ ∧ some k_ ≠ (u17 : Value).ownBlock) (Kd.R_types (Kd.R_apart' (HO_402005.out) (Kd.S_typed HO_17.out) (by decide)) BK401.out (by decide)) (fun k_ hk => ⟨hk.2, hk.1.2⟩))) (fun _ h_ => h_))); (case aB => exact bB); (case aF => exact (fun k_ hk => Kd.freshB (g := gb401) (o := .cells #[.int .i64 (Int.tmod t399 7), .int .i64 x402001_149, .int .i64 x402002_170, .bool x402003_127, .int .u64 0, .slice Ao250 x402005_178.length co250] 39 (0, 0)) (bw BK401.out) k_ hk)); (case aO => exact (by refine bN ?_; exact Kd.S_mono HO_17.out (fun k_ hk => ⟨hk.2, fun e_ => hk.1 e_⟩))); (case aS => exact (below_size bB)); (case aL => have := LMc244.out; omega); intro v441 w249 ho hb hg hat; rw [← Ny440.out] at ho; replace HO_357001 := Aside0.mk (Kd.S_over' (bN HO_357001.out) (Kd.S_typed (bN HO_17.out)) (by decide) hg); replace HO_357002 := Aside0.mk (Kd.S_over' (bN HO_357002.out) (Kd.S_typed (bN HO_17.out)) (by decide) hg); replace HO_357003 := Aside0.mk (Kd.R_over' (bN HO_357003.out) (Kd.S_typed (bN HO_17.out)) (by decide) hg); replace BK352 := Aside0.mk (blk_grown (g := gb352) (o := .cells #[.int .i64 0, .slice none 0 0, .slice none 0 0, .slice none 0 0] 28 (0, 0)) (bw BK352.out) hg (Kd.S_ne HO_17.out BK352.out (by decide))); replace BK356 := Aside0.mk (blk_grown (g := gb356) (o := .cells #[.int .i64 (wrap64 (1 + t357)), u357001, u357002, u357003] 28 (0, 0)) (bw BK356.out) hg (Kd.S_ne HO_17.out BK356.out (by decide))); replace BK401 := Aside0.mk (blk_grown (g := gb401) (o := .cells #[.int .i64 (Int.tmod t399 7), .int .i64 x402001_149, .int .i64 x402002_170, .bool x402003_127, .int .u64 0, .slice Ao250 x402005_178.length co250] 39 (0, 0)) (bw BK401.out) hg (Kd.S_away HO_17.out (fun _ hk => hk.2))); replace HI355 := Aside0.mk (IsS59.grown (bI HI355.out) hg (IsS59.own_neS HI355.out HO_17.out (by decide))); replace HB := Aside0.mk (hb); have HO442 := Aside0.mk (ho); clear HO_17 HO_402005; clear ho hb hg hat))
  go_roundg kj178
  case measure => have := HK1.out; have := HK2.out; have := HK3.out; have := HJ91.out; have := HJ98.out; have := HJ119.out; have := HJ127.out; have := HJ139.out; have := HJ149.out; have := HJ160.out; have := HJ170.out; have := HJ178.out; omega
  case rel => exact ⟨(y440), (x356001_178), H', ⟨by have := HK1.out; have := HK2.out; have := HK3.out; have := HJ91.out; have := HJ98.out; have := HJ119.out; have := HJ127.out; have := HJ139.out; have := HJ149.out; have := HJ160.out; have := HJ170.out; have := HJ178.out; omega⟩, ⟨by refine bN ?_; exact Kd.S_mono HO442.out (fun _ hk => trivial)⟩, ⟨bN HO_357001.out⟩, ⟨bN HO_357002.out⟩, ⟨bN HO_357003.out⟩, ⟨bw BK352.out⟩, ⟨bw BK356.out⟩, ⟨bI HI355.out⟩, ⟨bB⟩⟩
 rw [if_pos c210] at H
 have c210b0 : ((Int.tmod t399 7) == 6) = true := beq_iff_eq.mpr c210
 have c210b1 : ((Int.tmod t399 7) != 6) = false := bne_eq_false_iff_eq.mpr c210
 clear c210
 replace H := Option.bind_eq_some_iff.mp H
 obtain ⟨⟨t426, t427⟩, A2110, H⟩ := H
 (try dsimp only at H)
 have A211 := Aside0.mk A2110
 clear A2110
 replace H := Option.bind_eq_some_iff.mp H
 obtain ⟨⟨t428, t429⟩, A2120, H⟩ := H
 (try dsimp only at H)
 have A212 := Aside0.mk A2120
 clear A2120
 have HC213 := Aside0.mk H
 clear H
 have hnb214 := NB401_352.out
 have hnc214 := NB352_401.out
 have hnb215 := NB401_356.out
 have hnc215 := NB356_401.out
 have hnb216 := NB401_355.out
 have hnc216 := NB355_401.out
 obtain ⟨hcz217_0, hcz217_1, hcz217_2, hcz217_3, hcz217_4, hcz217_5⟩ := cZ6 BK401.out
 obtain ⟨hfz217_0, hfz217_1, hfz217_2, hfz217_3, hfz217_4, hfz217_5⟩ := fZ6 BK401.out
 go_upto_if 259 with (first | ((with_reducible refine gate_callee (f := 18) rfl ?_); refine gL (some 250) Tryd.func18 #[.pointer (some ⟨g355, 0, none⟩), .int .i64 4] ?_; (with_reducible refine (treelineref24_At_by.calls g355 t353 x356001_178 4 t426 t427 w _ ?side1 ?side2 A211.out).mono ?_); (case side1 => exact bI HI355.out); (case side2 => exact bB); rintro e w218 ⟨rfl, hi, hb, hk⟩; refine ⟨_, rfl, ?_⟩; replace HO_17 := Aside0.mk (Kd.S_mono (Kd.S_keep (IsS59.apartS (show IsS59 w _ g355 t353 x356001_178 from by exact bI HI355.out) (bN HO_17.out) (by decide)) hk (fun _ h => h.2)) (fun _ h => h.1)); replace HO_357001 := Aside0.mk (Kd.S_mono (Kd.S_keep (IsS59.apartS (show IsS59 w _ g355 t353 x356001_178 from by exact bI HI355.out) (bN HO_357001.out) (by decide)) hk (fun _ h => h.2)) (fun _ h => h.1)); replace HO_357002 := Aside0.mk (Kd.S_mono (Kd.S_keep (IsS59.apartS (show IsS59 w _ g355 t353 x356001_178 from by exact bI HI355.out) (bN HO_357002.out) (by decide)) hk (fun _ h => h.2)) (fun _ h => h.1)); replace HO_357003 := Aside0.mk (Kd.R_mono (Kd.R_keep (IsS59.apart (show IsS59 w _ g355 t353 x356001_178 from by exact bI HI355.out) (bN HO_357003.out) (by decide)) hk (fun _ h => h.2)) (fun _ h => h.1)); replace HO_402005 := Aside0.mk (Kd.R_mono (Kd.R_keep (IsS59.apart (show IsS59 w _ g355 t353 x356001_178 from by exact bI HI355.out) (bN HO_402005.out) (by decide)) hk (fun _ h => h.2)) (fun _ h => h.1)); replace BK352 := Aside0.mk (KeepBut.blk hk (g' := gb352) (o := .cells #[.int .i64 0, .slice none 0 0, .slice none 0 0, .slice none 0 0] 28 (0, 0)) (bw BK352.out) NB352_355.out (by simp)); replace BK356 := Aside0.mk (KeepBut.blk hk (g' := gb356) (o := .cells #[.int .i64 (wrap64 (1 + t357)), u357001, u357002, u357003] 28 (0, 0)) (bw BK356.out) NB356_355.out (by simp)); replace BK401 := Aside0.mk (KeepBut.blk hk (g' := gb401) (o := .cells #[.int .i64 (Int.tmod t399 7), .int .i64 x402001_149, .int .i64 x402002_170, .bool x402003_127, .int .u64 0, u402005] 39 (0, 0)) (bw BK401.out) NB401_355.out (by simp)); replace HB := Aside0.mk (hb); replace HI355 := Aside0.mk (hi); (try clear hb); (try clear hb2); (try clear hk); (try clear hi); obtain ⟨hcz219_0, hcz219_1, hcz219_2, hcz219_3, hcz219_4, hcz219_5⟩ := cZ6 BK401.out; obtain ⟨hfz219_0, hfz219_1, hfz219_2, hfz219_3, hfz219_4, hfz219_5⟩ := fZ6 BK401.out) | ((with_reducible refine gate_callee (f := 18) rfl ?_); refine gL (some 253) Tryd.func18 #[.pointer (some ⟨g355, 0, none⟩), .int .i64 5] ?_; (with_reducible refine (treelineref24_At_by.calls g355 t353 t427 5 t428 t429 w _ ?side1 ?side2 A212.out).mono ?_); (case side1 => exact bI HI355.out); (case side2 => exact bB); rintro e w220 ⟨rfl, hi, hb, hk⟩; refine ⟨_, rfl, ?_⟩; replace HO_17 := Aside0.mk (Kd.S_mono (Kd.S_keep (IsS59.apartS (show IsS59 w _ g355 t353 t427 from by exact bI HI355.out) (by refine bN ?_; exact (Kd.S_mono (Kd.S_far (p := ⟨gb401, 1, none⟩) (Kd.S_mono HO_17.out (fun k_ hk => (⟨hk, hk.2⟩ : _ ∧ k_ ≠ gb401))) (fun _ hk => hk.2) (.int .i64 t426)) (fun _ h_ => h_.1))) (by decide)) hk (fun _ h => h.2)) (fun _ h => h.1)); replace HO_357001 := Aside0.mk (Kd.S_mono (Kd.S_keep (IsS59.apartS (show IsS59 w _ g355 t353 t427 from by exact bI HI355.out) (by refine bN ?_; exact (Kd.S_mono (Kd.S_far (p := ⟨gb401, 1, none⟩) (Kd.S_types HO_357001.out BK401.out (by decide)) (fun _ hk => hk.2) (.int .i64 t426)) (fun _ h_ => h_.1))) (by decide)) hk (fun _ h => h.2)) (fun _ h => h.1)); replace HO_357002 := Aside0.mk (Kd.S_mono (Kd.S_keep (IsS59.apartS (show IsS59 w _ g355 t353 t427 from by exact bI HI355.out) (by refine bN ?_; exact (Kd.S_mono (Kd.S_far (p := ⟨gb401, 1, none⟩) (Kd.S_types HO_357002.out BK401.out (by decide)) (fun _ hk => hk.2) (.int .i64 t426)) (fun _ h_ => h_.1))) (by decide)) hk (fun _ h => h.2)) (fun _ h => h.1)); replace HO_357003 := Aside0.mk (Kd.R_mono (Kd.R_keep (IsS59.apart (show IsS59 w _ g355 t353 t427 from by exact bI HI355.out) (by refine bN ?_; exact (Kd.R_mono (Kd.R_far (p := ⟨gb401, 1, none⟩) (Kd.R_types HO_357003.out BK401.out (by decide)) (fun _ hk => hk.2) (.int .i64 t426)) (fun _ h_ => h_.1))) (by decide)) hk (fun _ h => h.2)) (fun _ h => h.1)); replace HO_402005 := Aside0.mk (Kd.R_mono (Kd.R_keep (IsS59.apart (show IsS59 w _ g355 t353 t427 from by exact bI HI355.out) (by refine bN ?_; exact (Kd.R_mono (Kd.R_far (p := ⟨gb401, 1, none⟩) (Kd.R_types HO_402005.out BK401.out (by decide)) (fun _ hk => hk.2) (.int .i64 t426)) (fun _ h_ => h_.1))) (by decide)) hk (fun _ h => h.2)) (fun _ h => h.1)); replace BK352 := Aside0.mk (KeepBut.blk hk (g' := gb352) (o := .cells #[.int .i64 0, .slice none 0 0, .slice none 0 0, .slice none 0 0] 28 (0, 0)) (bw BK352.out) NB352_355.out (by simp)); replace BK356 := Aside0.mk (KeepBut.blk hk (g' := gb356) (o := .cells #[.int .i64 (wrap64 (1 + t357)), u357001, u357002, u357003] 28 (0, 0)) (bw BK356.out) NB356_355.out (by simp)); replace BK401 := Aside0.mk (KeepBut.blk hk (g' := gb401) (o := .cells #[.int .i64 (Int.tmod t399 7), .int .i64 t426, .int .i64 x402002_170, .bool x402003_127, .int .u64 0, u402005] 39 (0, 0)) (by refine bW ?_; refine blk_put (cs := #[.int .i64 (Int.tmod t399 7), .int .i64 x402001_149, .int .i64 x402002_170, .bool x402003_127, .int .u64 0, u402005]) ?_ 1 _ rfl; exact bw BK401.out) NB401_355.out (by simp)); replace HB := Aside0.mk (hb); replace HI355 := Aside0.mk (hi); (try clear hb); (try clear hb2); (try clear hk); (try clear hi); obtain ⟨hcz221_0, hcz221_1, hcz221_2, hcz221_3, hcz221_4, hcz221_5⟩ := cZ6 BK401.out; obtain ⟨hfz221_0, hfz221_1, hfz221_2, hfz221_3, hfz221_4, hfz221_5⟩ := fZ6 BK401.out))
 (try simp only [Act.put, List.setIfInBounds_toArray, List.set_cons_zero, List.set_cons_succ])
 go_cut [] (fun wc => ∃ (kq : Nat) (x402004_212 : Int), Aside0 (treelineref24_Read.j15 kq l0 (wrap64 (1 + t359)) x17_3 t353 t429 (wrap64 (1 + t357)) x357001_1 x357002_1 x357003_2 (Int.tmod t399 7) t426 x402002_170 x402003_127 x402004_212 x402005_178 = some (r1, r2, r3, r4, r5)) ∧ Aside0 (kq ≤ kj178) ∧ Aside0 (Kd.S k39 39 wc w.heap.size (fun k_ => some k_ ≠ (u402005 : Value).ownBlock ∧ k_ ≠ gb401) u17 x17_3) ∧ Aside0 (Kd.S k51 51 wc w.heap.size (fun _ => True) u357001 x357001_1) ∧ Aside0 (Kd.S (Kd.slice 3 (Kd.int .i64)) 64 wc w.heap.size (fun _ => True) u357002 x357002_1) ∧ Aside0 (Kd.R k66 66 wc w.heap.size (fun _ => True) u357003 x357003_2) ∧ Aside0 (Kd.R (Kd.int .u8) 5 wc w.heap.size (fun _ => True) u402005 x402005_178) ∧ Aside0 (wc.heap[gb352]? = some (.cells #[.int .i64 0, (.slice none 0 0), (.slice none 0 0), (.slice none 0 0)] 28 (0, 0))) ∧ Aside0 (wc.heap[gb356]? = some (.cells #[.int .i64 (wrap64 (1 + t357)), u357001, u357002, u357003] 28 (0, 0))) ∧ Aside0 (wc.heap[gb401]? = some (.cells #[.int .i64 (Int.tmod t399 7), .int .i64 t426, .int .i64 x402002_170, .bool x402003_127, .int .u64 x402004_212, u402005] 39 (0, 0))) ∧ Aside0 (IsS59 w wc g355 t353 t429) ∧ Aside0 (Below w.heap.size w wc))
 case first =>
  have H := HC213.out
  clear HC213
  by_cases c222 : t428 = 4
  rotate_left
  ·rw [if_neg c222] at H
   have c222b0 : (t428 == 4) = false := beq_eq_false_iff_ne.mpr c222
   have c222b1 : (t428 != 4) = true := bne_iff_ne.mpr c222
   (first | rw [c222b0] | (simp only [i64_w, i32_w]; rw [c222b0]) | skip)
   have H' := Aside0.mk H
   clear H
   go_wp2
   go_meet
   case rel => exact ⟨_, (IntKind.u64.wrap (wrap64 (513 + t428))), H', ⟨by have := HK1.out; have := HK2.out; have := HK3.out; have := HJ91.out; have := HJ98.out; have := HJ119.out; have := HJ127.out; have := HJ139.out; have := HJ149.out; have := HJ160.out; have := HJ170.out; have := HJ178.out; first | omega | exact Nat.le_refl _⟩, ⟨by refine bN ?_; exact Kd.S_mono (Kd.S_far (p := ⟨gb401, 4, none⟩) (Kd.S_mono HO_17.out (fun k_ hk => (⟨hk, hk.2⟩ : _ ∧ k_ ≠ gb401))) (fun _ hk => hk.2) (.int .u64 (IntKind.u64.wrap (wrap64 (513 + t428))))) (fun _ hk => ⟨hk.1.1, hk.1.2⟩)⟩, ⟨by refine bN ?_; exact Kd.S_mono (Kd.S_far (p := ⟨gb401, 4, none⟩) (Kd.S_types HO_357001.out BK401.out (by decide)) (fun _ hk => hk.2) (.int .u64 (IntKind.u64.wrap (wrap64 (513 + t428))))) (fun _ hk => trivial)⟩, ⟨by refine bN ?_; exact Kd.S_mono (Kd.S_far (p := ⟨gb401, 4, none⟩) (Kd.S_types HO_357002.out BK401.out (by decide)) (fun _ hk => hk.2) (.int .u64 (IntKind.u64.wrap (wrap64 (513 + t428))))) (fun _ hk => trivial)⟩, ⟨by refine bN ?_; exact Kd.R_mono (Kd.R_far (p := ⟨gb401, 4, none⟩) (Kd.R_types HO_357003.out BK401.out (by decide)) (fun _ hk => hk.2) (.int .u64 (IntKind.u64.wrap (wrap64 (513 + t428))))) (fun _ hk => trivial)⟩, ⟨by refine bN ?_; exact Kd.R_mono (Kd.R_far (p := ⟨gb401, 4, none⟩) (Kd.R_types HO_402005.out BK401.out (by decide)) (fun _ hk => hk.2) (.int .u64 (IntKind.u64.wrap (wrap64 (513 + t428))))) (fun _ hk => trivial)⟩, ⟨bw BK352.out⟩, ⟨bw BK356.out⟩, ⟨by refine bW ?_; refine blk_put (cs := #[.int .i64 (Int.tmod t399 7), .int .i64 t426, .int .i64 x402002_170, .bool x402003_127, .int .u64 0, u402005]) ?_ 4 _ rfl; exact bw BK401.out⟩, ⟨bI HI355.out⟩, ⟨bB⟩⟩
  rw [if_pos c222] at H
  have c222b0 : (t428 == 4) = true := beq_iff_eq.mpr c222
  have c222b1 : (t428 != 4) = false := bne_eq_false_iff_eq.mpr c222
  clear c222
  (first | rw [c222b0] | (simp only [i64_w, i32_w]; rw [c222b0]) | skip)
  have H' := Aside0.mk H
  clear H
  have hnb223 := NB401_352.out
  have hnc223 := NB352_401.out
  have hnb224 := NB401_356.out
  have hnc224 := NB356_401.out
  have hnb225 := NB401_355.out
  have hnc225 := NB355_401.out
  obtain ⟨hcz226_0, hcz226_1, hcz226_2, hcz226_3, hcz226_4, hcz226_5⟩ := cZ6 BK401.out
  obtain ⟨hfz226_0, hfz226_1, hfz226_2, hfz226_3, hfz226_4, hfz226_5⟩ := fZ6 BK401.out
  go_wp2
  go_meet
  case rel => exact ⟨_, (281474976710655), H', ⟨by have := HK1.out; have := HK2.out; have := HK3.out; have := HJ91.out; have := HJ98.out; have := HJ119.out; have := HJ127.out; have := HJ139.out; have := HJ149.out; have := HJ160.out; have := HJ170.out; have := HJ178.out; first | omega | exact Nat.le_refl _⟩, ⟨by refine bN ?_; exact Kd.S_mono (Sfar2 (Kd.S_mono HO_17.out (fun k_ hk => (⟨hk, hk.2⟩ : _ ∧ k_ ≠ gb401))) (fun _ hk => hk.2)) (fun _ hk => ⟨hk.1.1, hk.1.2⟩)⟩, ⟨by refine bN ?_; exact Kd.S_mono (Sfar2 (Kd.S_types HO_357001.out BK401.out (by decide)) (fun _ hk => hk.2)) (fun _ hk => trivial)⟩, ⟨by refine bN ?_; exact Kd.S_mono (Sfar2 (Kd.S_types HO_357002.out BK401.out (by decide)) (fun _ hk => hk.2)) (fun _ hk => trivial)⟩, ⟨by refine bN ?_; exact Kd.R_mono (Rfar2 (Kd.R_types HO_357003.out BK401.out (by decide)) (fun _ hk => hk.2)) (fun _ hk => trivial)⟩, ⟨by refine bN ?_; exact Kd.R_mono (Rfar2 (Kd.R_types HO_402005.out BK401.out (by decide)) (fun _ hk => hk.2)) (fun _ hk => trivial)⟩, ⟨bw BK352.out⟩, ⟨bw BK356.out⟩, ⟨by refine bW ?_; refine blk_put (cs := #[.int .i64 (Int.tmod t399 7), .int .i64 t426, .int .i64 x402002_170, .bool x402003_127, .int .u64 (IntKind.u64.wrap (wrap64 (513 + t428))), u402005]) ?_ 4 _ rfl; refine bW ?_; refine blk_put (cs := #[.int .i64 (Int.tmod t399 7), .int .i64 t426, .int .i64 x402002_170, .bool x402003_127, .int .u64 0, u402005]) ?_ 4 _ rfl; exact bw BK401.out⟩, ⟨bI HI355.out⟩, ⟨bB⟩⟩
 clear HC213
 try clear p2
 try clear p6
 try clear p64
 try clear c184b0
 try clear c184b1
 try clear c187b0
 try clear c195b0
 try clear c210
 try clear c210b0
 try clear c210b1
 try clear c222
 try clear c222b0
 try clear c222b1
 try clear hcz217_0
 try clear hcz217_1
 try clear hcz217_2
 try clear hcz217_3
 try clear hcz217_4
 try clear hcz217_5
 try clear hcz219_0
 try clear hcz219_1
 try clear hcz219_2
 try clear hcz219_3
 try clear hcz219_4
 try clear hcz219_5
 try clear hcz221_0
 try clear hcz221_1
 try clear hcz221_2
 try clear hcz221_3
 try clear hcz221_4
 try clear hcz221_5
 try clear hfz217_0
 try clear hfz217_1
 try clear hfz217_2
 try clear hfz217_3
 try clear hfz217_4
 try clear hfz217_5
 try clear hfz219_0
 try clear hfz219_1
 try clear hfz219_2
 try clear hfz219_3
 try clear hfz219_4
 try clear hfz219_5
 try clear hfz221_0
 try clear hfz221_1
 try clear hfz221_2
 try clear hfz221_3
 try clear hfz221_4
 try clear hfz221_5
 try clear p2
 try clear p6
 try clear p64
 obtain ⟨kq, x402004_212, HA, HJ212, HO_17, HO_357001, HO_357002, HO_357003, HO_402005, BK352, BK356, BK401, HI355, HB⟩ := hcut
 cases kq with
 | zero => exact absurd HA.out (by simp [treelineref24_Read.j15])
 | succ kj212 => ?_
 have H := HA.out
 clear HA
 simp only [treelineref24_Read.j15] at H
 replace H := Option.bind_eq_some_iff.mp H
 obtain ⟨⟨t430, t431⟩, A2270, H⟩ := H
 (try dsimp only at H)
 have A227 := Aside0.mk A2270
 clear A2270
 have H' := Aside0.mk H
 clear H
 go_wp2_with (first | ((with_reducible refine gate_callee (f := 18) rfl ?_); refine gL (some 262) Tryd.func18 #[.pointer (some ⟨g355, 0, none⟩), .int .i64 3] ?_; (with_reducible refine (treelineref24_At_by.calls g355 t353 t429 3 t430 t431 w _ ?side1 ?side2 A227.out).mono ?_); (case side1 => exact bI HI355.out); (case side2 => exact bB); rintro e w228 ⟨rfl, hi, hb, hk⟩; refine ⟨_, rfl, ?_⟩; replace HO_17 := Aside0.mk (Kd.S_mono (Kd.S_keep (IsS59.apartS (show IsS59 w _ g355 t353 t429 from by exact bI HI355.out) (bN HO_17.out) (by decide)) hk (fun _ h => h.2)) (fun _ h => h.1)); replace HO_357001 := Aside0.mk (Kd.S_mono (Kd.S_keep (IsS59.apartS (show IsS59 w _ g355 t353 t429 from by exact bI HI355.out) (bN HO_357001.out) (by decide)) hk (fun _ h => h.2)) (fun _ h => h.1)); replace HO_357002 := Aside0.mk (Kd.S_mono (Kd.S_keep (IsS59.apartS (show IsS59 w _ g355 t353 t429 from by exact bI HI355.out) (bN HO_357002.out) (by decide)) hk (fun _ h => h.2)) (fun _ h => h.1)); replace HO_357003 := Aside0.mk (Kd.R_mono (Kd.R_keep (IsS59.apart (show IsS59 w _ g355 t353 t429 from by exact bI HI355.out) (bN HO_357003.out) (by decide)) hk (fun _ h => h.2)) (fun _ h => h.1)); replace HO_402005 := Aside0.mk (Kd.R_mono (Kd.R_keep (IsS59.apart (show IsS59 w _ g355 t353 t429 from by exact bI HI355.out) (bN HO_402005.out) (by decide)) hk (fun _ h => h.2)) (fun _ h => h.1)); replace BK352 := Aside0.mk (KeepBut.blk hk (g' := gb352) (o := .cells #[.int .i64 0, .slice none 0 0, .slice none 0 0, .slice none 0 0] 28 (0, 0)) (bw BK352.out) NB352_355.out (by simp)); replace BK356 := Aside0.mk (KeepBut.blk hk (g' := gb356) (o := .cells #[.int .i64 (wrap64 (1 + t357)), u357001, u357002, u357003] 28 (0, 0)) (bw BK356.out) NB356_355.out (by simp)); replace BK401 := Aside0.mk (KeepBut.blk hk (g' := gb401) (o := .cells #[.int .i64 (Int.tmod t399 7), .int .i64 t426, .int .i64 x402002_170, .bool x402003_127, .int .u64 x402004_212, u402005] 39 (0, 0)) (bw BK401.out) NB401_355.out (by simp)); replace HB := Aside0.mk (hb); replace HI355 := Aside0.mk (hi); (try clear hb); (try clear hb2); (try clear hk); (try clear hi)) | (go_at_call 18; (with_reducible refine (treelineref24_At_by.calls g355 t353 t429 3 t430 t431 w _ ?side1 ?side2 A227.out).mono ?_); (case side1 => exact bI HI355.out); (case side2 => exact bB); rintro e w228 ⟨rfl, hi, hb, hk⟩; replace HO_17 := Aside0.mk (Kd.S_mono (Kd.S_keep (IsS59.apartS (show IsS59 w _ g355 t353 t429 from by exact bI HI355.out) (bN HO_17.out) (by decide)) hk (fun _ h => h.2)) (fun _ h => h.1)); replace HO_357001 := Aside0.mk (Kd.S_mono (Kd.S_keep (IsS59.apartS (show IsS59 w _ g355 t353 t429 from by exact bI HI355.out) (bN HO_357001.out) (by decide)) hk (fun _ h => h.2)) (fun _ h => h.1)); replace HO_357002 := Aside0.mk (Kd.S_mono (Kd.S_keep (IsS59.apartS (show IsS59 w _ g355 t353 t429 from by exact bI HI355.out) (bN HO_357002.out) (by decide)) hk (fun _ h => h.2)) (fun _ h => h.1)); replace HO_357003 := Aside0.mk (Kd.R_mono (Kd.R_keep (IsS59.apart (show IsS59 w _ g355 t353 t429 from by exact bI HI355.out) (bN HO_357003.out) (by decide)) hk (fun _ h => h.2)) (fun _ h => h.1)); replace HO_402005 := Aside0.mk (Kd.R_mono (Kd.R_keep (IsS59.apart (show IsS59 w _ g355 t353 t429 from by exact bI HI355.out) (bN HO_402005.out) (by decide)) hk (fun _ h => h.2)) (fun _ h => h.1)); replace BK352 := Aside0.mk (KeepBut.blk hk (g' := gb352) (o := .cells #[.int .i64 0, .slice none 0 0, .slice none 0 0, .slice none 0 0] 28 (0, 0)) (bw BK352.out) NB352_355.out (by simp)); replace BK356 := Aside0.mk (KeepBut.blk hk (g' := gb356) (o := .cells #[.int .i64 (wrap64 (1 + t357)), u357001, u357002, u357003] 28 (0, 0)) (bw BK356.out) NB356_355.out (by simp)); replace BK401 := Aside0.mk (KeepBut.blk hk (g' := gb401) (o := .cells #[.int .i64 (Int.tmod t399 7), .int .i64 t426, .int .i64 x402002_170, .bool x402003_127, .int .u64 x402004_212, u402005] 39 (0, 0)) (bw BK401.out) NB401_355.out (by simp)); replace HB := Aside0.mk (hb); replace HI355 := Aside0.mk (hi); (try clear hb); (try clear hb2); (try clear hk); (try clear hi)))
 go_loopg [25] kj212 (fun kq v25 w' => ∃ (x25_14 : Int) (x356001_14 : Int) (x402005_14 : List Int) (u402005 : Value), v25 = .int .i64 x25_14 ∧ Aside0 (treelineref24_Read.l6 kq l0 (wrap64 (1 + t359)) x17_3 t430 x25_14 t353 x356001_14 (wrap64 (1 + t357)) x357001_1 x357002_1 x357003_2 (Int.tmod t399 7) t426 x402002_170 x402003_127 x402004_212 x402005_14 = some (r1, r2, r3, r4, r5)) ∧ Aside0 (kq ≤ kj212) ∧ Aside0 (Kd.S k39 39 w' w.heap.size (fun k_ => some k_ ≠ (u402005 : Value).ownBlock ∧ k_ ≠ gb401) u17 x17_3) ∧ Aside0 (Kd.S k51 51 w' w.heap.size (fun _ => True) u357001 x357001_1) ∧ Aside0 (Kd.S (Kd.slice 3 (Kd.int .i64)) 64 w' w.heap.size (fun _ => True) u357002 x357002_1) ∧ Aside0 (Kd.R k66 66 w' w.heap.size (fun _ => True) u357003 x357003_2) ∧ Aside0 (Kd.R (Kd.int .u8) 5 w' w.heap.size (fun _ => True) u402005 x402005_14) ∧ Aside0 (w'.heap[gb352]? = some (.cells #[.int .i64 0, (.slice none 0 0), (.slice none 0 0), (.slice none 0 0)] 28 (0, 0))) ∧ Aside0 (w'.heap[gb356]? = some (.cells #[.int .i64 (wrap64 (1 + t357)), u357001, u357002, u357003] 28 (0, 0))) ∧ Aside0 (w'.heap[gb401]? = some (.cells #[.int .i64 (Int.tmod t399 7), .int .i64 t426, .int .i64 x402002_170, .bool x402003_127, .int .u64 x402004_212, u402005] 39 (0, 0))) ∧ Aside0 (IsS59 w w' g355 t353 x356001_14) ∧ Aside0 (Below w.heap.size w w'))
 case atStart => exact ⟨(0), (t431), (x402005_178), (u402005), (by first | rfl | (simp; done) | (simp [*]; done)), H', ⟨Nat.le_refl _⟩, ⟨bN HO_17.out⟩, ⟨bN HO_357001.out⟩, ⟨bN HO_357002.out⟩, ⟨bN HO_357003.out⟩, ⟨bN HO_402005.out⟩, ⟨bw BK352.out⟩, ⟨bw BK356.out⟩, ⟨bw BK401.out⟩, ⟨bI HI355.out⟩, ⟨bB⟩⟩
 clear H'
 try clear p2
 try clear p6
 try clear p64
 try clear c184b0
 try clear c184b1
 try clear c187b0
 try clear c195b0
 try clear c210b0
 try clear c210b1
 try clear c222b0
 try clear c222b1
 try clear p2
 try clear p6
 try clear p64
 obtain ⟨x25_14, x356001_14, x402005_14, u402005, rfl, HA, HK14, HO_17, HO_357001, HO_357002, HO_357003, HO_402005, BK352, BK356, BK401, HI355, HB⟩ := hrel
 cases gk with
 | zero => exact absurd HA.out (by simp [treelineref24_Read.l6])
 | succ k14 => ?_
 have H := HA.out
 clear HA
 simp only [treelineref24_Read.l6] at H
 by_cases c229 : x25_14 < t430
 rotate_left
 ·rw [if_neg c229] at H
  have c229b0 : decide (x25_14 < t430) = false := decide_eq_false c229
  clear c229
  by_cases c237 : x17_3.length < 2199023255552
  rotate_left
  ·rw [if_neg c237] at H
   exact absurd H (by simp)
  rw [if_pos c237] at H
  have LMc237 := Aside0.mk c237
  clear c237
  obtain ⟨y437, hy437⟩ : ∃ y_ : List (S39), y_ = (x17_3 ++ [(⟨(Int.tmod t399 7), t426, x402002_170, x402003_127, x402004_212, x402005_14⟩ : S39)]) := ⟨_, rfl⟩
  replace H : (treelineref24_Read.l4 k14 l0 (wrap64 (1 + t359)) y437 t353 x356001_14 (wrap64 (1 + t357)) x357001_1 x357002_1 x357003_2) = some (r1, r2, r3, r4, r5) := by first | (rw [hy437]; with_reducible exact H) | (have H2_ := (Option.bind_some _ _).symm.trans H; rw [hy437]; with_reducible exact H2_) | (have H2_ := (Option.bind_some _ _).symm.trans H; with_reducible exact H2_) | with_reducible exact H | (rw [hy437]; exact H) | exact H
  have Ny437 := Aside0.mk hy437
  clear hy437
  have H' := Aside0.mk H
  clear H
  have hnb238 := NB401_352.out
  have hnc238 := NB352_401.out
  have hnb239 := NB401_356.out
  have hnc239 := NB356_401.out
  have hnb240 := NB401_355.out
  have hnc240 := NB355_401.out
  obtain ⟨hcz241_0, hcz241_1, hcz241_2, hcz241_3, hcz241_4, hcz241_5⟩ := cZ6 BK401.out
  obtain ⟨hfz241_0, hfz241_1, hfz241_2, hfz241_3, hfz241_4, hfz241_5⟩ := fZ6 BK401.out
  obtain ⟨Ao243, co243, eo243⟩ := Kd.R_slice HO_402005.out
  subst eo243
  go_wp2_with (first | ((with_reducible refine gate_builtin (b := .append) (xs := #[.tmp 276, .tmp 278]) rfl ?_); (try (refine gate_guard (by rfl) ?_; dsimp only)); at_builtin; refine Kd.S_append k39 (w0 := w) w.heap.size rfl (.tmp 276) (.tmp 278) 29 39 (.agg #[(.int .i64 0), (.int .i64 0), (.int .i64 0), (.bool false), (.int .u64 0), (.slice none 0 0)]) 64 rfl Tryd.underlying29 info39 rfl (by decide) (by omega) u17 x17_3 (⟨(Int.tmod t399 7), t426, x402002_170, x402003_127, x402004_212, x402005_14⟩ : S39) [.int .i64 (Int.tmod t399 7), .int .i64 t426, .int .i64 x402002_170, .bool x402003_127, .int .u64 x402004_212, .slice Ao243 x402005_14.length co243] (fun k_ => k_ ≠ gb401) (fun k_ => some k_ = (.slice Ao243 x402005_14.length co243 : Value).ownBlock) rfl rfl ?aP (fun k_ hk_ => ((Kd.R_mono (ok' := fun k_ => ((fun k_ => k_ ≠ gb401)) k_ ∧ some k_ ≠ (u17 : Value).ownBlock) (Kd.R_types (Kd.R_apart' (HO_402005.out) (Kd.S_typed HO_17.out) (by decide)) BK401.out (by decide)) (fun k_ hk => ⟨hk.2, hk.1.2⟩))).1 k_ hk_.symm) ?aF ?aO ?aB ?aS ?aL ?_; (case aP => exact k39_mkM _ _ _ (⟨(Int.tmod t399 7), t426, x402002_170, x402003_127, x402004_212, x402005_14⟩ : S39) (Kd.R_mono (Kd.R_tight rfl (Kd.R_mono (ok' := fun k_ => ((fun k_ => k_ ≠ gb401)) k_ ∧ some k_ ≠ (u17 : Value).ownBlock) (Kd.R_types (Kd.R_apart' (HO_402005.out) (Kd.S_typed HO_17.out) (by decide)) BK401.out (by decide)) (fun k_ hk => ⟨hk.2, hk.1.2⟩))) (fun _ h_ => h_))); (case aB => exact bB); (case aF => exact (fun k_ hk => Kd.freshB (g := gb401) (o := .cells #[.int .i64 (Int.tmod t399 7), .int .i64 t426, .int .i64 x402002_170, .bool x402003_127, .int .u64 x402004_212, .slice Ao243 x402005_14.length co243] 39 (0, 0)) (bw BK401.out) k_ hk)); (case aO => exact (by refine bN ?_; exact Kd.S_mono HO_17.out (fun k_ hk => ⟨hk.2, fun e_ => hk.1 e_⟩))); (case aS => exact (below_size bB)); (case aL => have := LMc237.out; omega); intro v438 w242 ho hb hg hat; rw [← Ny437.out] at ho; replace HO_357001 := Aside0.mk (Kd.S_over' (bN HO_357001.out) (Kd.S_typed (bN HO_17.out)) (by decide) hg); replace HO_357002 := Aside0.mk (Kd.S_over' (bN HO_357002.out) (Kd.S_typed (bN HO_17.out)) (by decide) hg); replace HO_357003 := Aside0.mk (Kd.R_over' (bN HO_357003.out) (Kd.S_typed (bN HO_17.out)) (by decide) hg); replace BK352 := Aside0.mk (blk_grown (g := gb352) (o := .cells #[.int .i64 0, .slice none 0 0, .slice none 0 0, .slice none 0 0] 28 (0, 0)) (bw BK352.out) hg (Kd.S_ne HO_17.out BK352.out (by decide))); replace BK356 := Aside0.mk (blk_grown (g := gb356) (o := .cells #[.int .i64 (wrap64 (1 + t357)), u357001, u357002, u357003] 28 (0, 0)) (bw BK356.out) hg (Kd.S_ne HO_17.out BK356.out (by decide))); replace BK401 := Aside0.mk (blk_grown (g := gb401) (o := .cells #[.int .i64 (Int.tmod t399 7), .int .i64 t426, .int .i64 x402002_170, .bool x402003_127, .int .u64 x402004_212, .slice Ao243 x402005_14.length co243] 39 (0, 0)) (bw BK401.out) hg (Kd.S_away HO_17.out (fun _ hk => hk.2))); replace HI355 := Aside0.mk (IsS59.grown (bI HI355.out) hg (IsS59.own_neS HI355.out HO_17.out (by decide))); replace HB := Aside0.mk (hb); have HO439 := Aside0.mk (ho); clear HO_17 HO_402005; clear ho hb hg hat))
  go_roundg k14
  case measure => have := HK1.out; have := HK2.out; have := HK3.out; have := HJ91.out; have := HJ98.out; have := HJ119.out; have := HJ127.out; have := HJ139.out; have := HJ149.out; have := HJ160.out; have := HJ170.out; have := HJ178.out; have := HJ212.out; have := HK14.out; omega
  case rel => exact ⟨(y437), (x356001_14), H', ⟨by have := HK1.out; have := HK2.out; have := HK3.out; have := HJ91.out; have := HJ98.out; have := HJ119.out; have := HJ127.out; have := HJ139.out; have := HJ149.out; have := HJ160.out; have := HJ170.out; have := HJ178.out; have := HJ212.out; have := HK14.out; omega⟩, ⟨by refine bN ?_; exact Kd.S_mono HO439.out (fun _ hk => trivial)⟩, ⟨bN HO_357001.out⟩, ⟨bN HO_357002.out⟩, ⟨bN HO_357003.out⟩, ⟨bw BK352.out⟩, ⟨bw BK356.out⟩, ⟨bI HI355.out⟩, ⟨bB⟩⟩
 rw [if_pos c229] at H
 have c229b0 : decide (x25_14 < t430) = true := decide_eq_true c229
 clear c229
 replace H := Option.bind_eq_some_iff.mp H
 obtain ⟨⟨t432, t433⟩, A2300, H⟩ := H
 (try dsimp only at H)
 have A230 := Aside0.mk A2300
 clear A2300
 by_cases c231 : x402005_14.length < 140737488355328
 rotate_left
 ·rw [if_neg c231] at H
  exact absurd H (by simp)
 rw [if_pos c231] at H
 have LMc231 := Aside0.mk c231
 clear c231
 obtain ⟨y434, hy434⟩ : ∃ y_ : List Int, y_ = (x402005_14 ++ [(t432) % 256]) := ⟨_, rfl⟩
 replace H : (treelineref24_Read.l6 k14 l0 (wrap64 (1 + t359)) x17_3 t430 (wrap64 (x25_14 + 1)) t353 t433 (wrap64 (1 + t357)) x357001_1 x357002_1 x357003_2 (Int.tmod t399 7) t426 x402002_170 x402003_127 x402004_212 y434) = some (r1, r2, r3, r4, r5) := by first | (rw [hy434]; with_reducible exact H) | (have H2_ := (Option.bind_some _ _).symm.trans H; rw [hy434]; with_reducible exact H2_) | (have H2_ := (Option.bind_some _ _).symm.trans H; with_reducible exact H2_) | with_reducible exact H | (rw [hy434]; exact H) | exact H
 have Ny434 := Aside0.mk hy434
 clear hy434
 have H' := Aside0.mk H
 clear H
 try go_wp2
 replace HO_17 := Aside0.mk (Kd.S_drew HO_17.out)
 replace HO_357001 := Aside0.mk (Kd.S_drew HO_357001.out)
 replace HO_357002 := Aside0.mk (Kd.S_drew HO_357002.out)
 replace HO_357003 := Aside0.mk (Kd.R_drew HO_357003.out)
 replace HO_402005 := Aside0.mk (Kd.R_drew HO_402005.out)
 replace BK352 := Aside0.mk (blk_drew BK352.out)
 replace BK356 := Aside0.mk (blk_drew BK356.out)
 replace BK401 := Aside0.mk (blk_drew BK401.out)
 replace HI355 := Aside0.mk (IsS59.drew HI355.out)
 replace HB := Aside0.mk (below_drew1 HB.out)
 refine start_ (n := 9) (S := fun w' => w'.cell? ⟨gb401, 0, none⟩ = some (.int .i64 (Int.tmod t399 7)) ∧ w'.cell? ⟨gb401, 1, none⟩ = some (.int .i64 t426) ∧ w'.cell? ⟨gb401, 2, none⟩ = some (.int .i64 x402002_170) ∧ w'.cell? ⟨gb401, 3, none⟩ = some (.bool x402003_127) ∧ w'.cell? ⟨gb401, 4, none⟩ = some (.int .u64 x402004_212) ∧ w'.cell? ⟨gb401, 5, none⟩ = some (u402005)) (ds := [8]) #[false, false, false, false, false, false, false, false, false] (by kernel_rfl) rfl rfl ⟨(blk_cell BK401.out 0).trans rfl, (blk_cell BK401.out 1).trans rfl, (blk_cell BK401.out 2).trans rfl, (blk_cell BK401.out 3).trans rfl, (blk_cell BK401.out 4).trans rfl, (blk_cell BK401.out 5).trans rfl⟩ (fun hHeld => ?_); refine with_tabW treelineref24_Read.tab66 treelineref24_Read.bits66 (fun HT_ HW_ => ?_)
 generalize wr.drew = w232 at HO_17 HO_357001 HO_357002 HO_357003 HO_402005 BK352 BK356 BK401 HI355 HB hHeld ⊢
 refine pS 0 268 HT_ ?_
 refine pS 2 270 HT_ ?_
 refine tS 1 269 HT_ HW_ hHeld ?_
 refine one_ (i := 3) (N := some 271) #[true, true, true, true, false, false, false, false, false] rfl rfl (one_of HT_.out (by kernel_rfl)) (by decide) (fun K hK => ?_)
 refine goes_ Tryd.func18 (by kernel_rfl) rfl #[.pointer (some ⟨g355, 0, none⟩), .int .i64 256] (by rfl) rfl rfl (by (try simp only [List.map_toArray, List.map_cons, List.map_nil]); first | done | rfl | (simp only [List.length_drop, List.length_take]; rfl)) ?_
 with_reducible refine (treelineref24_At_by.calls g355 t353 x356001_14 256 t432 t433 w _ ?side1 ?side2 A230.out).mono ?_
 (case side1 => exact bI HI355.out)
 (case side2 => exact bB)
 rintro e w233 ⟨rfl, hi, hb, hk⟩
 refine ⟨_, rfl, ?_⟩
 replace HO_17 := Aside0.mk (Kd.S_mono (Kd.S_keep (IsS59.apartS (show IsS59 w _ g355 t353 x356001_14 from by exact bI HI355.out) (bN HO_17.out) (by decide)) hk (fun _ h => h.2)) (fun _ h => h.1))
 replace HO_357001 := Aside0.mk (Kd.S_mono (Kd.S_keep (IsS59.apartS (show IsS59 w _ g355 t353 x356001_14 from by exact bI HI355.out) (bN HO_357001.out) (by decide)) hk (fun _ h => h.2)) (fun _ h => h.1))
 replace HO_357002 := Aside0.mk (Kd.S_mono (Kd.S_keep (IsS59.apartS (show IsS59 w _ g355 t353 x356001_14 from by exact bI HI355.out) (bN HO_357002.out) (by decide)) hk (fun _ h => h.2)) (fun _ h => h.1))
 replace HO_357003 := Aside0.mk (Kd.R_mono (Kd.R_keep (IsS59.apart (show IsS59 w _ g355 t353 x356001_14 from by exact bI HI355.out) (bN HO_357003.out) (by decide)) hk (fun _ h => h.2)) (fun _ h => h.1))
 replace HO_402005 := Aside0.mk (Kd.R_mono (Kd.R_keep (IsS59.apart (show IsS59 w _ g355 t353 x356001_14 from by exact bI HI355.out) (bN HO_402005.out) (by decide)) hk (fun _ h => h.2)) (fun _ h => h.1))
 replace BK352 := Aside0.mk (KeepBut.blk hk (g' := gb352) (o := .cells #[.int .i64 0, .slice none 0 0, .slice none 0 0, .slice none 0 0] 28 (0, 0)) (bw BK352.out) NB352_355.out (by simp))
 replace BK356 := Aside0.mk (KeepBut.blk hk (g' := gb356) (o := .cells #[.int .i64 (wrap64 (1 + t357)), u357001, u357002, u357003] 28 (0, 0)) (bw BK356.out) NB356_355.out (by simp))
 replace BK401 := Aside0.mk (KeepBut.blk hk (g' := gb401) (o := .cells #[.int .i64 (Int.tmod t399 7), .int .i64 t426, .int .i64 x402002_170, .bool x402003_127, .int .u64 x402004_212, u402005] 39 (0, 0)) (bw BK401.out) NB401_355.out (by simp))
 replace HB := Aside0.mk (hb)
 replace HI355 := Aside0.mk (hi)
 (try clear hb)
 (try clear hb2)
 (try clear hk)
 (try clear hi)
 refine hK.out _ _ ⟨(blk_cell BK401.out 0).trans rfl, (blk_cell BK401.out 1).trans rfl, (blk_cell BK401.out 2).trans rfl, (blk_cell BK401.out 3).trans rfl, (blk_cell BK401.out 4).trans rfl, (blk_cell BK401.out 5).trans rfl⟩ (fun hHeld => ?_)
 clear hK K
 refine nS 271 ?_
 refine pS 4 272 HT_ ?_
 refine one_ (i := 5) (N := some 273) #[true, true, true, true, true, true, false, false, false] rfl rfl (one_of HT_.out (by kernel_rfl)) (by decide) (fun K hK => ?_)
 refine value_ (w1 := ?_) (v := ?_) (by rfl) rfl ?_ ?_
 rotate_left 2
 ·go_simp
  constructor
  ·rfl
  rfl
 refine hK.out _ _ ⟨(blk_cell (blk_alloc BK401.out _) 0).trans rfl, (blk_cell (blk_alloc BK401.out _) 1).trans rfl, (blk_cell (blk_alloc BK401.out _) 2).trans rfl, (blk_cell (blk_alloc BK401.out _) 3).trans rfl, (blk_cell (blk_alloc BK401.out _) 4).trans rfl, (blk_cell (blk_alloc BK401.out _) 5).trans rfl⟩ (fun hHeld => ?_)
 clear hK K
 refine nS 273 ?_
 refine one_ (i := 6) (N := some 274) #[true, true, true, true, true, true, true, false, false] rfl rfl (one_of HT_.out (by kernel_rfl)) (by decide) (fun K hK => ?_)
 refine Kd.R_append_step (Kd.int .u8) (w0 := w) w.heap.size (by rfl) (.tmp 269) (.tmp 273) 22 5 (.int .u8 0) 1 rfl Tryd.underlying22 info5 rfl (by decide) (by omega) u402005 x402005_14 ((t432) % 256) [.int .u8 ((t432) % 256)] (fun _ => True) (fun _ => False) rfl rfl ?aP (fun _ hk => hk.elim) ?aF ?aO ?aB ?aS ?aL ?_
 (case aP => exact rfl)
 (case aB => exact bB)
 (case aF => exact (fun _ _ => trivial))
 (case aO => exact (bN HO_402005.out))
 (case aS => exact (below_size bB))
 (case aL => have := LMc231.out; omega)
 intro v435 w234 ho hb hg hat
 rw [← Ny434.out] at ho
 replace HO_17 := Aside0.mk (Kd.S_after (ok := (fun k_ => k_ ≠ gb401)) (by refine bN ?_; exact Kd.S_mono HO_17.out (fun _ hk => ⟨hk.2, hk.1⟩)) hg hat)
 replace HO_357001 := Aside0.mk (Kd.S_over' (bN HO_357001.out) (Kd.R_typed (bN HO_402005.out)) (by decide) hg)
 replace HO_357002 := Aside0.mk (Kd.S_over' (bN HO_357002.out) (Kd.R_typed (bN HO_402005.out)) (by decide) hg)
 replace HO_357003 := Aside0.mk (Kd.R_over' (bN HO_357003.out) (Kd.R_typed (bN HO_402005.out)) (by decide) hg)
 replace BK352 := Aside0.mk (blk_grown (g := gb352) (o := .cells #[.int .i64 0, .slice none 0 0, .slice none 0 0, .slice none 0 0] 28 (0, 0)) (bw BK352.out) hg (Kd.R_ne HO_402005.out BK352.out (by decide)))
 replace BK356 := Aside0.mk (blk_grown (g := gb356) (o := .cells #[.int .i64 (wrap64 (1 + t357)), u357001, u357002, u357003] 28 (0, 0)) (bw BK356.out) hg (Kd.R_ne HO_402005.out BK356.out (by decide)))
 replace BK401 := Aside0.mk (blk_grown (g := gb401) (o := .cells #[.int .i64 (Int.tmod t399 7), .int .i64 t426, .int .i64 x402002_170, .bool x402003_127, .int .u64 x402004_212, u402005] 39 (0, 0)) (bw BK401.out) hg (Kd.R_ne HO_402005.out BK401.out (by decide)))
 replace HI355 := Aside0.mk (IsS59.grown (bI HI355.out) hg (IsS59.own_ne HI355.out HO_402005.out (by decide)))
 replace HB := Aside0.mk (hb)
 have HO436 := Aside0.mk (ho)
 clear HO_402005
 clear ho hb hg hat
 obtain ⟨Ao235, co235, eo235⟩ := Kd.R_slice HO436.out
 (first | subst eo235 | (injection eo235 with f1_ f2_ f3_; have f4_ := f1_.symm; have f5_ := f3_.symm; clear f1_ f2_ f3_; subst f4_; subst f5_))
 refine hK.out _ _ ⟨(blk_cell BK401.out 0).trans rfl, (blk_cell BK401.out 1).trans rfl, (blk_cell BK401.out 2).trans rfl, (blk_cell BK401.out 3).trans rfl, (blk_cell BK401.out 4).trans rfl, (blk_cell BK401.out 5).trans rfl⟩ (fun hHeld => ?_)
 clear hK K
 refine nS 274 ?_
 refine pS 7 275 HT_ ?_
 refine last_ (i := 8) (N := none) #[true, true, true, true, true, true, true, true, true] rfl rfl (one_of HT_.out (by kernel_rfl)) (by decide) (fun K hK => ?_)
 have hs236 : w234.cell? ⟨gb401, 5, none⟩ = some (u402005) := (blk_cell BK401.out 5).trans rfl
 have hfs236 := blk_frozen BK401.out 5
 have hns236_0 := NB352_401.out
 have hns236_1 := NB356_401.out
 have hms236_0 := NB401_352.out
 have hms236_1 := NB401_356.out
 refine skip_ (w1 := ?_) (by rfl) rfl ?_ ?_
 rotate_left
 ·go_simp
  rfl
 refine hK.out _ _ ?_
 clear hK K
 refine done_ (done_of HT_.out (by kernel_rfl)) ?_
 try go_wp2
 go_roundg k14
 case measure => have := HK1.out; have := HK2.out; have := HK3.out; have := HJ91.out; have := HJ98.out; have := HJ119.out; have := HJ127.out; have := HJ139.out; have := HJ149.out; have := HJ160.out; have := HJ170.out; have := HJ178.out; have := HJ212.out; have := HK14.out; omega
 case rel => exact ⟨(wrap64 (x25_14 + 1)), (t433), (y434), (.slice Ao235 y434.length co235), (by first | rfl | (simp; done) | (simp [*]; done)), H', ⟨by have := HK1.out; have := HK2.out; have := HK3.out; have := HJ91.out; have := HJ98.out; have := HJ119.out; have := HJ127.out; have := HJ139.out; have := HJ149.out; have := HJ160.out; have := HJ170.out; have := HJ178.out; have := HJ212.out; have := HK14.out; omega⟩, ⟨by refine bN ?_; exact Kd.S_mono (Kd.S_far (p := ⟨gb401, 5, none⟩) (Kd.S_mono HO_17.out (fun k_ hk => (⟨hk, hk.1⟩ : _ ∧ k_ ≠ gb401))) (fun _ hk => hk.2) (.slice Ao235 y434.length co235)) (fun _ hk => ⟨hk.1.2, hk.1.1⟩)⟩, ⟨by refine bN ?_; exact Kd.S_mono (Kd.S_far (p := ⟨gb401, 5, none⟩) (Kd.S_types HO_357001.out BK401.out (by decide)) (fun _ hk => hk.2) (.slice Ao235 y434.length co235)) (fun _ hk => trivial)⟩, ⟨by refine bN ?_; exact Kd.S_mono (Kd.S_far (p := ⟨gb401, 5, none⟩) (Kd.S_types HO_357002.out BK401.out (by decide)) (fun _ hk => hk.2) (.slice Ao235 y434.length co235)) (fun _ hk => trivial)⟩, ⟨by refine bN ?_; exact Kd.R_mono (Kd.R_far (p := ⟨gb401, 5, none⟩) (Kd.R_types HO_357003.out BK401.out (by decide)) (fun _ hk => hk.2) (.slice Ao235 y434.length co235)) (fun _ hk => trivial)⟩, ⟨by refine bN ?_; exact Kd.R_mono (Kd.R_far (p := ⟨gb401, 5, none⟩) (Kd.R_types HO436.out BK401.out (by decide)) (fun _ hk => hk.2) (.slice Ao235 y434.length co235)) (fun _ hk => trivial)⟩, ⟨bw BK352.out⟩, ⟨bw BK356.out⟩, ⟨by refine bW ?_; refine blk_put (cs := #[.int .i64 (Int.tmod t399 7), .int .i64 t426, .int .i64 x402002_170, .bool x402003_127, .int .u64 x402004_212, u402005]) ?_ 5 _ rfl; exact bw BK401.out⟩, ⟨bI HI355.out⟩, ⟨bB⟩⟩
theorem treelineref24_Read.calls (k : Nat) (A0 : Option Addr) (c0 : Nat) (l0 : List Int) (r1 : Int) (r2 : List (S51)) (r3 : List (List Int)) (r4 : List (S66)) (r5 : List (S39)) (w : World) (hr0 : Kd.C (Kd.int .u8) w A0 l0.length l0) (hc0 : l0.length ≤ c0) (h : treelineref24_Read.f k l0 = some (r1, r2, r3, r4, r5)) :
  Calls Tryd.prog 10 #[.slice A0 l0.length c0] w fun e w' => ∃ v1_ v2_ v3_ v4_ : Value, e = .returned (.tuple #[.agg #[.int .i64 r1, v1_, v2_, v3_], v4_]) ∧ Kd.S k51 51 w' w.heap.size (fun _ => True) v1_ r2 ∧ Kd.S (Kd.slice 3 (Kd.int .i64)) 64 w' w.heap.size (fun _ => True) v2_ r3 ∧ Kd.R k66 66 w' w.heap.size (fun _ => True) v3_ r4 ∧ Kd.S k39 39 w' w.heap.size (fun _ => True) v4_ r5 ∧ Below w.heap.size w w' := treelineref24_Read.calls.p1.p ⟨treelineref24_Read.calls.p2.p ⟨treelineref24_Read.calls.p3.p ⟨treelineref24_Read.calls.p4.p ⟨treelineref24_Read.calls.p5.p ⟨treelineref24_Read.calls.p6⟩⟩⟩⟩⟩ k A0 c0 l0 r1 r2 r3 r4 r5 w hr0 hc0 h
end Go.Proofs.YtiikllgppmmiaaaDoor.OScriptReads