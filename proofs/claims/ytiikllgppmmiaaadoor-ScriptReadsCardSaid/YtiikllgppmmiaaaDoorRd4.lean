/- What Go functions that the law ScriptReads uses come to, and why: part 18. Made out of the kit's print by a program of this session (wip/tools/stub.py, splice.py), functions that it does not take told by hand. -/
import Derived.Test.YtiikllgppmmiaaaDoorRd3
namespace Go.Proofs.YtiikllgppmmiaaaDoor.OScriptReads
open Go.RowKit Go.Proofs.YtiikllgppmmiaaaDoorW.PrintWords Go.Proofs.YtiikllgppmmiaaaDoorW.PrintLast Go.Proofs.YtiikllgppmmiaaaDoorW.PrintMore
attribute [local go_sem] max2_int min2_int max_two min_two max_three min_three max_four min_four   -- for this text's walks alone
set_option linter.unusedVariables false
set_option linter.unusedSimpArgs false
set_option maxHeartbeats 8000000 in
set_option maxRecDepth 100000 in
noncomputable def treelineref24_Read.calls.p4 : Part (treelineref24_Read.calls.p3.A) := ⟨_, fun hPart_ => by
 delta treelineref24_Read.calls.p3
 intro k A0 c0 l0 r1 r2 r3 r4 r5 w hu28 hu51 hu63 hu66 hu39 hu43 HR0 HC0 t353 t354 A2 t357 t358 A3 t359 t360 A4 zc1_1 gb352 GW352 GE352 g355 NB355_352 NB352_355 gb356 GW356 GE356 NB352_356 NB356_352 NB355_356 NB356_355 hnb8 hnc8 hnb9 hnc9 zc1_2 u8 u9 u10 u11 u12 u13 u14 u40 u41 u42 u43 u44 u45 u46 u47 u48 u49 u50 u51 u52 u53 u54 u55 u56 u57 u58 u59 u60 u61 u62 u63 u64 u65 u66 u67 u68 u69 u70 u71 u72 u73 u74 u75 u76 u77 u78 u79 u80 u81 u82 u83 u84 u85 u86 u87 u88 u89 u90 u91 u92 u93 u94 u95 u96 u97 u98 u99 u100 u101 u102 u103 u104 u105 u106 u107 u108 u109 u110 u111 u112 u113 u114 u115 u116 u117 u118 u119 u120 u121 u122 u123 u124 u125 u126 u127 zc1_3 zc1_4 zc1_5 x7_1 x356001_1 x357001_1 x357002_1 u357001 u357002 k1 zc1_6 HK1 t392 t393 A82 zc1_7 zc1_8 zc1_9 u133 u134 u135 u136 u137 u138 u139 u140 u141 u142 u143 u144 u145 u146 u147 zc1_11 zc1_12 zc1_13 x16_2 x357003_2 u357003 k2 zc1_14 HK2 zc1_15 zc1_16 zc1_17 zc1_18 u17 u20 u21 u22 u23 u24 u25 zc1_19 zc1_20 zc1_21 x17_3 x356001_3 k3 zc1_22 HK3 kj91 HJ91 t399 t400 A98 gb401 GW401 GE401 NB352_401 NB401_352 NB356_401 NB401_356 NB355_401 NB401_355 hnb102 hnc102 hnb103 hnc103 hnb104 hnc104 kj98 HJ98 x402001_119 kj119 HJ119 hnb129 hnc129 hnb130 hnc130 hnb131 hnc131 zc3_1 x356001_127 x402002_127 x402003_127 HO_17 HO_357001 HO_357002 HO_357003 BK352 BK356 BK401 HI355 HB kj127 HJ127 HC140 zc3_2 zc3_3 zc3_4 zc3_5 wc u148 u149 u150 u151 u152 u153 u154 u155 u156 u157 u158 u159 u160 u161 u162 u163 u164 u165 u166 u167 u168 u169 u170 u171 u172 u173 u174 u175 u176 u177 u178 u179 u180 u181 u182 u183 u184 u185 u186 u187 u188 u189 u190 u191 u192 u193 u194 u195 u196 u197 u198 u199 u200 u201 u202 u203 u204 u205 u206 u207 u208 u209 u210 u211 u212 u213 u214 u215 u216 u217 u218 u219 u220 u221 u222 u223 u224 u225 u226 u227 u228 u229 u230 u231 u232 u233 u234 u235 u236 u237 u238 u239 u240 u241 u242 u243 u244 u245 u246 u247 u248 u249 u250 u251 u252 u253 u254 u255 u256 u257 u258 u259 u260 u261 u262 u263 u264 u265 u266 u267 u268 u269 u270 u271 u272 u273 u274 u275 u276 u277 u278 u279 hcut
 clear HC140
 try clear p2
 try clear p6
 try clear c14b0
 try clear c43b0
 try clear c54b0
 try clear p64
 try clear c84b0
 try clear c93b0
 try clear c106b0
 try clear c106b1
 try clear c111b0
 try clear c111b1
 try clear c133b0
 try clear c133b1
 try clear c141
 try clear c141b0
 try clear p2
 try clear p6
 try clear p64
 obtain ⟨kq, x198_139, rfl, HA, HJ139, HO_17, HO_357001, HO_357002, HO_357003, BK352, BK356, BK401, HI355, HB⟩ := hcut
 cases kq with
 | zero => exact absurd HA.out (by simp [treelineref24_Read.j9])
 | succ kj139 => ?_
 have H := HA.out
 clear HA
 simp only [treelineref24_Read.j9] at H
 have HC150 := Aside0.mk H
 clear H
 go_upto_if 198 with (fail)
 go_cut [] (fun wc => ∃ (kq : Nat) (x356001_149 : Int) (x402001_149 : Int), Aside0 (treelineref24_Read.j10 kq l0 (wrap64 (1 + t359)) x17_3 t399 t353 x356001_149 (wrap64 (1 + t357)) x357001_1 x357002_1 x357003_2 (Int.tmod t399 7) x402001_149 x402002_127 x402003_127 0 = some (r1, r2, r3, r4, r5)) ∧ Aside0 (kq ≤ kj139) ∧ Aside0 (Kd.S k39 39 wc w.heap.size (fun k_ => k_ ≠ gb401) u17 x17_3) ∧ Aside0 (Kd.S k51 51 wc w.heap.size (fun _ => True) u357001 x357001_1) ∧ Aside0 (Kd.S (Kd.slice 3 (Kd.int .i64)) 64 wc w.heap.size (fun _ => True) u357002 x357002_1) ∧ Aside0 (Kd.R k66 66 wc w.heap.size (fun _ => True) u357003 x357003_2) ∧ Aside0 (wc.heap[gb352]? = some (.cells #[.int .i64 0, (.slice none 0 0), (.slice none 0 0), (.slice none 0 0)] 28 (0, 0))) ∧ Aside0 (wc.heap[gb356]? = some (.cells #[.int .i64 (wrap64 (1 + t357)), u357001, u357002, u357003] 28 (0, 0))) ∧ Aside0 (wc.heap[gb401]? = some (.cells #[.int .i64 (Int.tmod t399 7), .int .i64 x402001_149, .int .i64 x402002_127, .bool x402003_127, .int .u64 0, (.slice none 0 0)] 39 (0, 0))) ∧ Aside0 (IsS59 w wc g355 t353 x356001_149) ∧ Aside0 (Below w.heap.size w wc))
 case first =>
  have H := HC150.out
  clear HC150
  by_cases c151 : x198_139 = true
  rotate_left
  ·replace c151 := Bool.eq_false_iff.mpr c151
   subst c151
   rw [if_neg (show ¬ (false = true) by decide)] at H
   have H' := Aside0.mk H
   clear H
   go_wp2
   go_meet
   case rel => exact ⟨_, (x356001_127), (x402001_119), H', ⟨by have := HK1.out; have := HK2.out; have := HK3.out; have := HJ91.out; have := HJ98.out; have := HJ119.out; have := HJ127.out; have := HJ139.out; first | omega | exact Nat.le_refl _⟩, ⟨bN HO_17.out⟩, ⟨bN HO_357001.out⟩, ⟨bN HO_357002.out⟩, ⟨bN HO_357003.out⟩, ⟨bw BK352.out⟩, ⟨bw BK356.out⟩, ⟨bw BK401.out⟩, ⟨bI HI355.out⟩, ⟨bB⟩⟩
  subst c151
  rw [if_pos rfl] at H
  replace H := Option.bind_eq_some_iff.mp H
  obtain ⟨⟨t406, t407⟩, A1520, H⟩ := H
  (try dsimp only at H)
  have A152 := Aside0.mk A1520
  clear A1520
  have H' := Aside0.mk H
  clear H
  have hnb153 := NB356_352.out
  have hnc153 := NB352_356.out
  have hnb154 := NB356_401.out
  have hnc154 := NB401_356.out
  have hnb155 := NB356_355.out
  have hnc155 := NB355_356.out
  obtain ⟨hcz156_0, hcz156_1, hcz156_2, hcz156_3⟩ := cZ4 BK356.out
  obtain ⟨hfz156_0, hfz156_1, hfz156_2, hfz156_3⟩ := fZ4 BK356.out
  go_wp2_with (first | ((with_reducible refine gate_callee (f := 18) rfl ?_); refine gL (some 202) Tryd.func18 #[.pointer (some ⟨g355, 0, none⟩), .int .i64 (wrap64 (1 + t357))] ?_; (with_reducible refine (treelineref24_At_by.calls g355 t353 x356001_127 (wrap64 (1 + t357)) t406 t407 w _ ?side1 ?side2 A152.out).mono ?_); (case side1 => exact bI HI355.out); (case side2 => exact bB); rintro e w157 ⟨rfl, hi, hb, hk⟩; refine ⟨_, rfl, ?_⟩; replace HO_17 := Aside0.mk (Kd.S_mono (Kd.S_keep (IsS59.apartS (show IsS59 w _ g355 t353 x356001_127 from by exact bI HI355.out) (bN HO_17.out) (by decide)) hk (fun _ h => h.2)) (fun _ h => h.1)); replace HO_357001 := Aside0.mk (Kd.S_mono (Kd.S_keep (IsS59.apartS (show IsS59 w _ g355 t353 x356001_127 from by exact bI HI355.out) (bN HO_357001.out) (by decide)) hk (fun _ h => h.2)) (fun _ h => h.1)); replace HO_357002 := Aside0.mk (Kd.S_mono (Kd.S_keep (IsS59.apartS (show IsS59 w _ g355 t353 x356001_127 from by exact bI HI355.out) (bN HO_357002.out) (by decide)) hk (fun _ h => h.2)) (fun _ h => h.1)); replace HO_357003 := Aside0.mk (Kd.R_mono (Kd.R_keep (IsS59.apart (show IsS59 w _ g355 t353 x356001_127 from by exact bI HI355.out) (bN HO_357003.out) (by decide)) hk (fun _ h => h.2)) (fun _ h => h.1)); replace BK352 := Aside0.mk (KeepBut.blk hk (g' := gb352) (o := .cells #[.int .i64 0, .slice none 0 0, .slice none 0 0, .slice none 0 0] 28 (0, 0)) (bw BK352.out) NB352_355.out (by simp)); replace BK356 := Aside0.mk (KeepBut.blk hk (g' := gb356) (o := .cells #[.int .i64 (wrap64 (1 + t357)), u357001, u357002, u357003] 28 (0, 0)) (bw BK356.out) NB356_355.out (by simp)); replace BK401 := Aside0.mk (KeepBut.blk hk (g' := gb401) (o := .cells #[.int .i64 (Int.tmod t399 7), .int .i64 x402001_119, .int .i64 x402002_127, .bool x402003_127, .int .u64 0, .slice none 0 0] 39 (0, 0)) (bw BK401.out) NB401_355.out (by simp)); replace HB := Aside0.mk (hb); replace HI355 := Aside0.mk (hi); (try clear hb); (try clear hb2); (try clear hk); (try clear hi); have hnb158 := NB401_352.out; have hnc158 := NB352_401.out; have hnb159 := NB401_355.out; have hnc159 := NB355_401.out; obtain ⟨hcz160_0, hcz160_1, hcz160_2, hcz160_3, hcz160_4, hcz160_5⟩ := cZ6 BK401.out; obtain ⟨hfz160_0, hfz160_1, hfz160_2, hfz160_3, hfz160_4, hfz160_5⟩ := fZ6 BK401.out) | (go_at_call 18; (with_reducible refine (treelineref24_At_by.calls g355 t353 x356001_127 (wrap64 (1 + t357)) t406 t407 w _ ?side1 ?side2 A152.out).mono ?_); (case side1 => exact bI HI355.out); (case side2 => exact bB); rintro e w157 ⟨rfl, hi, hb, hk⟩; replace HO_17 := Aside0.mk (Kd.S_mono (Kd.S_keep (IsS59.apartS (show IsS59 w _ g355 t353 x356001_127 from by exact bI HI355.out) (bN HO_17.out) (by decide)) hk (fun _ h => h.2)) (fun _ h => h.1)); replace HO_357001 := Aside0.mk (Kd.S_mono (Kd.S_keep (IsS59.apartS (show IsS59 w _ g355 t353 x356001_127 from by exact bI HI355.out) (bN HO_357001.out) (by decide)) hk (fun _ h => h.2)) (fun _ h => h.1)); replace HO_357002 := Aside0.mk (Kd.S_mono (Kd.S_keep (IsS59.apartS (show IsS59 w _ g355 t353 x356001_127 from by exact bI HI355.out) (bN HO_357002.out) (by decide)) hk (fun _ h => h.2)) (fun _ h => h.1)); replace HO_357003 := Aside0.mk (Kd.R_mono (Kd.R_keep (IsS59.apart (show IsS59 w _ g355 t353 x356001_127 from by exact bI HI355.out) (bN HO_357003.out) (by decide)) hk (fun _ h => h.2)) (fun _ h => h.1)); replace BK352 := Aside0.mk (KeepBut.blk hk (g' := gb352) (o := .cells #[.int .i64 0, .slice none 0 0, .slice none 0 0, .slice none 0 0] 28 (0, 0)) (bw BK352.out) NB352_355.out (by simp)); replace BK356 := Aside0.mk (KeepBut.blk hk (g' := gb356) (o := .cells #[.int .i64 (wrap64 (1 + t357)), u357001, u357002, u357003] 28 (0, 0)) (bw BK356.out) NB356_355.out (by simp)); replace BK401 := Aside0.mk (KeepBut.blk hk (g' := gb401) (o := .cells #[.int .i64 (Int.tmod t399 7), .int .i64 x402001_119, .int .i64 x402002_127, .bool x402003_127, .int .u64 0, .slice none 0 0] 39 (0, 0)) (bw BK401.out) NB401_355.out (by simp)); replace HB := Aside0.mk (hb); replace HI355 := Aside0.mk (hi); (try clear hb); (try clear hb2); (try clear hk); (try clear hi); have hnb158 := NB401_352.out; have hnc158 := NB352_401.out; have hnb159 := NB401_355.out; have hnc159 := NB355_401.out; obtain ⟨hcz160_0, hcz160_1, hcz160_2, hcz160_3, hcz160_4, hcz160_5⟩ := cZ6 BK401.out; obtain ⟨hfz160_0, hfz160_1, hfz160_2, hfz160_3, hfz160_4, hfz160_5⟩ := fZ6 BK401.out))
  go_meet
  case rel => exact ⟨_, (t407), (t406), H', ⟨by have := HK1.out; have := HK2.out; have := HK3.out; have := HJ91.out; have := HJ98.out; have := HJ119.out; have := HJ127.out; have := HJ139.out; first | omega | exact Nat.le_refl _⟩, ⟨by refine bN ?_; exact Kd.S_mono (Kd.S_far (p := ⟨gb401, 1, none⟩) (Kd.S_mono HO_17.out (fun k_ hk => (⟨hk, hk⟩ : _ ∧ k_ ≠ gb401))) (fun _ hk => hk.2) (.int .i64 t406)) (fun _ hk => hk.1)⟩, ⟨by refine bN ?_; exact Kd.S_mono (Kd.S_far (p := ⟨gb401, 1, none⟩) (Kd.S_types HO_357001.out BK401.out (by decide)) (fun _ hk => hk.2) (.int .i64 t406)) (fun _ hk => trivial)⟩, ⟨by refine bN ?_; exact Kd.S_mono (Kd.S_far (p := ⟨gb401, 1, none⟩) (Kd.S_types HO_357002.out BK401.out (by decide)) (fun _ hk => hk.2) (.int .i64 t406)) (fun _ hk => trivial)⟩, ⟨by refine bN ?_; exact Kd.R_mono (Kd.R_far (p := ⟨gb401, 1, none⟩) (Kd.R_types HO_357003.out BK401.out (by decide)) (fun _ hk => hk.2) (.int .i64 t406)) (fun _ hk => trivial)⟩, ⟨bw BK352.out⟩, ⟨bw BK356.out⟩, ⟨by refine bW ?_; refine blk_put (cs := #[.int .i64 (Int.tmod t399 7), .int .i64 x402001_119, .int .i64 x402002_127, .bool x402003_127, .int .u64 0, .slice none 0 0]) ?_ 1 _ rfl; exact bw BK401.out⟩, ⟨bI HI355.out⟩, ⟨bB⟩⟩
 clear HC150
 try clear p2
 try clear p6
 try clear c14b0
 try clear c43b0
 try clear c54b0
 try clear p64
 try clear c84b0
 try clear c93b0
 try clear c106b0
 try clear c106b1
 try clear c111b0
 try clear c111b1
 try clear c133b0
 try clear c133b1
 try clear c141b0
 try clear c151
 try clear p2
 try clear p6
 try clear p64
 obtain ⟨kq, x356001_149, x402001_149, HA, HJ149, HO_17, HO_357001, HO_357002, HO_357003, BK352, BK356, BK401, HI355, HB⟩ := hcut
 cases kq with
 | zero => exact absurd HA.out (by simp [treelineref24_Read.j10])
 | succ kj149 => ?_
 have H := HA.out
 clear HA
 simp only [treelineref24_Read.j10] at H
 have HC161 := Aside0.mk H
 clear H
 go_upto_region 45 with (fail)
 go_cut [211] (fun v211 wc => ∃ (kq : Nat) (x211_160 : Bool), v211 = .bool x211_160 ∧ Aside0 (treelineref24_Read.j11 kq l0 (wrap64 (1 + t359)) x17_3 t399 x211_160 t353 x356001_149 (wrap64 (1 + t357)) x357001_1 x357002_1 x357003_2 (Int.tmod t399 7) x402001_149 x402002_127 x402003_127 0 = some (r1, r2, r3, r4, r5)) ∧ Aside0 (kq ≤ kj149) ∧ Aside0 (Kd.S k39 39 wc w.heap.size (fun k_ => k_ ≠ gb401) u17 x17_3) ∧ Aside0 (Kd.S k51 51 wc w.heap.size (fun _ => True) u357001 x357001_1) ∧ Aside0 (Kd.S (Kd.slice 3 (Kd.int .i64)) 64 wc w.heap.size (fun _ => True) u357002 x357002_1) ∧ Aside0 (Kd.R k66 66 wc w.heap.size (fun _ => True) u357003 x357003_2) ∧ Aside0 (wc.heap[gb352]? = some (.cells #[.int .i64 0, (.slice none 0 0), (.slice none 0 0), (.slice none 0 0)] 28 (0, 0))) ∧ Aside0 (wc.heap[gb356]? = some (.cells #[.int .i64 (wrap64 (1 + t357)), u357001, u357002, u357003] 28 (0, 0))) ∧ Aside0 (wc.heap[gb401]? = some (.cells #[.int .i64 (Int.tmod t399 7), .int .i64 x402001_149, .int .i64 x402002_127, .bool x402003_127, .int .u64 0, (.slice none 0 0)] 39 (0, 0))) ∧ Aside0 (IsS59 w wc g355 t353 x356001_149) ∧ Aside0 (Below w.heap.size w wc))
 case first =>
  have H := HC161.out
  clear HC161
  by_cases c162 : (Int.tmod t399 7) = 1
  ·rw [if_pos c162] at H
   have c162b0 : ((Int.tmod t399 7) == 1) = true := beq_iff_eq.mpr c162
   have c162b1 : ((Int.tmod t399 7) != 1) = false := bne_eq_false_iff_eq.mpr c162
   clear c162
   (first | rw [c162b0] | (simp only [i64_w, i32_w]; rw [c162b0]) | skip)
   have H' := Aside0.mk H
   clear H
   have hnb163 := NB401_352.out
   have hnc163 := NB352_401.out
   have hnb164 := NB401_356.out
   have hnc164 := NB356_401.out
   have hnb165 := NB401_355.out
   have hnc165 := NB355_401.out
   obtain ⟨hcz166_0, hcz166_1, hcz166_2, hcz166_3, hcz166_4, hcz166_5⟩ := cZ6 BK401.out
   obtain ⟨hfz166_0, hfz166_1, hfz166_2, hfz166_3, hfz166_4, hfz166_5⟩ := fZ6 BK401.out
   go_wp2
   go_meet
   case rel => exact ⟨_, (true), (by first | rfl | (simp; done) | (simp [*]; done)), H', ⟨by have := HK1.out; have := HK2.out; have := HK3.out; have := HJ91.out; have := HJ98.out; have := HJ119.out; have := HJ127.out; have := HJ139.out; have := HJ149.out; first | omega | exact Nat.le_refl _⟩, ⟨bN HO_17.out⟩, ⟨bN HO_357001.out⟩, ⟨bN HO_357002.out⟩, ⟨bN HO_357003.out⟩, ⟨bw BK352.out⟩, ⟨bw BK356.out⟩, ⟨bw BK401.out⟩, ⟨bI HI355.out⟩, ⟨bB⟩⟩
  rw [if_neg c162] at H
  have c162b0 : ((Int.tmod t399 7) == 1) = false := beq_eq_false_iff_ne.mpr c162
  have c162b1 : ((Int.tmod t399 7) != 1) = true := bne_iff_ne.mpr c162
  (first | rw [c162b0] | (simp only [i64_w, i32_w]; rw [c162b0]) | skip)
  have H' := Aside0.mk H
  clear H
  have hnb167 := NB401_352.out
  have hnc167 := NB352_401.out
  have hnb168 := NB401_356.out
  have hnc168 := NB356_401.out
  have hnb169 := NB401_355.out
  have hnc169 := NB355_401.out
  obtain ⟨hcz170_0, hcz170_1, hcz170_2, hcz170_3, hcz170_4, hcz170_5⟩ := cZ6 BK401.out
  obtain ⟨hfz170_0, hfz170_1, hfz170_2, hfz170_3, hfz170_4, hfz170_5⟩ := fZ6 BK401.out
  go_wp2
  go_meet
  case rel => exact ⟨_, (((Int.tmod t399 7) == 2)), (by first | rfl | (simp; done) | (simp [*]; done)), H', ⟨by have := HK1.out; have := HK2.out; have := HK3.out; have := HJ91.out; have := HJ98.out; have := HJ119.out; have := HJ127.out; have := HJ139.out; have := HJ149.out; first | omega | exact Nat.le_refl _⟩, ⟨bN HO_17.out⟩, ⟨bN HO_357001.out⟩, ⟨bN HO_357002.out⟩, ⟨bN HO_357003.out⟩, ⟨bw BK352.out⟩, ⟨bw BK356.out⟩, ⟨bw BK401.out⟩, ⟨bI HI355.out⟩, ⟨bB⟩⟩
 clear HC161
 try clear p2
 try clear p6
 try clear c14b0
 try clear c43b0
 try clear c54b0
 try clear p64
 try clear c84b0
 try clear c93b0
 try clear c106b0
 try clear c106b1
 try clear c111b0
 try clear c111b1
 try clear c133b0
 try clear c133b1
 try clear c141b0
 try clear c162
 try clear c162b0
 try clear c162b1
 try clear p2
 try clear p6
 try clear p64
 obtain ⟨kq, x211_160, rfl, HA, HJ160, HO_17, HO_357001, HO_357002, HO_357003, BK352, BK356, BK401, HI355, HB⟩ := hcut
 cases kq with
 | zero => exact absurd HA.out (by simp [treelineref24_Read.j11])
 | succ kj160 => ?_
 have H := HA.out
 clear HA
 simp only [treelineref24_Read.j11] at H
 have HC171 := Aside0.mk H
 clear H
 go_upto_if 211 with (fail)
 go_cut [] (fun wc => ∃ (kq : Nat) (x356001_170 : Int) (x402002_170 : Int), Aside0 (treelineref24_Read.j12 kq l0 (wrap64 (1 + t359)) x17_3 t399 t353 x356001_170 (wrap64 (1 + t357)) x357001_1 x357002_1 x357003_2 (Int.tmod t399 7) x402001_149 x402002_170 x402003_127 0 = some (r1, r2, r3, r4, r5)) ∧ Aside0 (kq ≤ kj160) ∧ Aside0 (Kd.S k39 39 wc w.heap.size (fun k_ => k_ ≠ gb401) u17 x17_3) ∧ Aside0 (Kd.S k51 51 wc w.heap.size (fun _ => True) u357001 x357001_1) ∧ Aside0 (Kd.S (Kd.slice 3 (Kd.int .i64)) 64 wc w.heap.size (fun _ => True) u357002 x357002_1) ∧ Aside0 (Kd.R k66 66 wc w.heap.size (fun _ => True) u357003 x357003_2) ∧ Aside0 (wc.heap[gb352]? = some (.cells #[.int .i64 0, (.slice none 0 0), (.slice none 0 0), (.slice none 0 0)] 28 (0, 0))) ∧ Aside0 (wc.heap[gb356]? = some (.cells #[.int .i64 (wrap64 (1 + t357)), u357001, u357002, u357003] 28 (0, 0))) ∧ Aside0 (wc.heap[gb401]? = some (.cells #[.int .i64 (Int.tmod t399 7), .int .i64 x402001_149, .int .i64 x402002_170, .bool x402003_127, .int .u64 0, (.slice none 0 0)] 39 (0, 0))) ∧ Aside0 (IsS59 w wc g355 t353 x356001_170) ∧ Aside0 (Below w.heap.size w wc))
 case first =>
  have H := HC171.out
  clear HC171
  by_cases c172 : x211_160 = true
  rotate_left
  ·replace c172 := Bool.eq_false_iff.mpr c172
   subst c172
   rw [if_neg (show ¬ (false = true) by decide)] at H
   have H' := Aside0.mk H
   clear H
   go_wp2
   go_meet
   case rel => exact ⟨_, (x356001_149), (x402002_127), H', ⟨by have := HK1.out; have := HK2.out; have := HK3.out; have := HJ91.out; have := HJ98.out; have := HJ119.out; have := HJ127.out; have := HJ139.out; have := HJ149.out; have := HJ160.out; first | omega | exact Nat.le_refl _⟩, ⟨bN HO_17.out⟩, ⟨bN HO_357001.out⟩, ⟨bN HO_357002.out⟩, ⟨bN HO_357003.out⟩, ⟨bw BK352.out⟩, ⟨bw BK356.out⟩, ⟨bw BK401.out⟩, ⟨bI HI355.out⟩, ⟨bB⟩⟩
  subst c172
  rw [if_pos rfl] at H
  replace H := Option.bind_eq_some_iff.mp H
  obtain ⟨⟨t408, t409⟩, A1730, H⟩ := H
  (try dsimp only at H)
  have A173 := Aside0.mk A1730
  clear A1730
  have H' := Aside0.mk H
  clear H
  go_wp2_with (first | ((with_reducible refine gate_callee (f := 18) rfl ?_); refine gL (some 213) Tryd.func18 #[.pointer (some ⟨g355, 0, none⟩), .int .i64 256] ?_; (with_reducible refine (treelineref24_At_by.calls g355 t353 x356001_149 256 t408 t409 w _ ?side1 ?side2 A173.out).mono ?_); (case side1 => exact bI HI355.out); (case side2 => exact bB); rintro e w174 ⟨rfl, hi, hb, hk⟩; refine ⟨_, rfl, ?_⟩; replace HO_17 := Aside0.mk (Kd.S_mono (Kd.S_keep (IsS59.apartS (show IsS59 w _ g355 t353 x356001_149 from by exact bI HI355.out) (bN HO_17.out) (by decide)) hk (fun _ h => h.2)) (fun _ h => h.1)); replace HO_357001 := Aside0.mk (Kd.S_mono (Kd.S_keep (IsS59.apartS (show IsS59 w _ g355 t353 x356001_149 from by exact bI HI355.out) (bN HO_357001.out) (by decide)) hk (fun _ h => h.2)) (fun _ h => h.1)); replace HO_357002 := Aside0.mk (Kd.S_mono (Kd.S_keep (IsS59.apartS (show IsS59 w _ g355 t353 x356001_149 from by exact bI HI355.out) (bN HO_357002.out) (by decide)) hk (fun _ h => h.2)) (fun _ h => h.1)); replace HO_357003 := Aside0.mk (Kd.R_mono (Kd.R_keep (IsS59.apart (show IsS59 w _ g355 t353 x356001_149 from by exact bI HI355.out) (bN HO_357003.out) (by decide)) hk (fun _ h => h.2)) (fun _ h => h.1)); replace BK352 := Aside0.mk (KeepBut.blk hk (g' := gb352) (o := .cells #[.int .i64 0, .slice none 0 0, .slice none 0 0, .slice none 0 0] 28 (0, 0)) (bw BK352.out) NB352_355.out (by simp)); replace BK356 := Aside0.mk (KeepBut.blk hk (g' := gb356) (o := .cells #[.int .i64 (wrap64 (1 + t357)), u357001, u357002, u357003] 28 (0, 0)) (bw BK356.out) NB356_355.out (by simp)); replace BK401 := Aside0.mk (KeepBut.blk hk (g' := gb401) (o := .cells #[.int .i64 (Int.tmod t399 7), .int .i64 x402001_149, .int .i64 x402002_127, .bool x402003_127, .int .u64 0, .slice none 0 0] 39 (0, 0)) (bw BK401.out) NB401_355.out (by simp)); replace HB := Aside0.mk (hb); replace HI355 := Aside0.mk (hi); (try clear hb); (try clear hb2); (try clear hk); (try clear hi); have hnb175 := NB401_352.out; have hnc175 := NB352_401.out; have hnb176 := NB401_356.out; have hnc176 := NB356_401.out; have hnb177 := NB401_355.out; have hnc177 := NB355_401.out; obtain ⟨hcz178_0, hcz178_1, hcz178_2, hcz178_3, hcz178_4, hcz178_5⟩ := cZ6 BK401.out; obtain ⟨hfz178_0, hfz178_1, hfz178_2, hfz178_3, hfz178_4, hfz178_5⟩ := fZ6 BK401.out) | (go_at_call 18; (with_reducible refine (treelineref24_At_by.calls g355 t353 x356001_149 256 t408 t409 w _ ?side1 ?side2 A173.out).mono ?_); (case side1 => exact bI HI355.out); (case side2 => exact bB); rintro e w174 ⟨rfl, hi, hb, hk⟩; replace HO_17 := Aside0.mk (Kd.S_mono (Kd.S_keep (IsS59.apartS (show IsS59 w _ g355 t353 x356001_149 from by exact bI HI355.out) (bN HO_17.out) (by decide)) hk (fun _ h => h.2)) (fun _ h => h.1)); replace HO_357001 := Aside0.mk (Kd.S_mono (Kd.S_keep (IsS59.apartS (show IsS59 w _ g355 t353 x356001_149 from by exact bI HI355.out) (bN HO_357001.out) (by decide)) hk (fun _ h => h.2)) (fun _ h => h.1)); replace HO_357002 := Aside0.mk (Kd.S_mono (Kd.S_keep (IsS59.apartS (show IsS59 w _ g355 t353 x356001_149 from by exact bI HI355.out) (bN HO_357002.out) (by decide)) hk (fun _ h => h.2)) (fun _ h => h.1)); replace HO_357003 := Aside0.mk (Kd.R_mono (Kd.R_keep (IsS59.apart (show IsS59 w _ g355 t353 x356001_149 from by exact bI HI355.out) (bN HO_357003.out) (by decide)) hk (fun _ h => h.2)) (fun _ h => h.1)); replace BK352 := Aside0.mk (KeepBut.blk hk (g' := gb352) (o := .cells #[.int .i64 0, .slice none 0 0, .slice none 0 0, .slice none 0 0] 28 (0, 0)) (bw BK352.out) NB352_355.out (by simp)); replace BK356 := Aside0.mk (KeepBut.blk hk (g' := gb356) (o := .cells #[.int .i64 (wrap64 (1 + t357)), u357001, u357002, u357003] 28 (0, 0)) (bw BK356.out) NB356_355.out (by simp)); replace BK401 := Aside0.mk (KeepBut.blk hk (g' := gb401) (o := .cells #[.int .i64 (Int.tmod t399 7), .int .i64 x402001_149, .int .i64 x402002_127, .bool x402003_127, .int .u64 0, .slice none 0 0] 39 (0, 0)) (bw BK401.out) NB401_355.out (by simp)); replace HB := Aside0.mk (hb); replace HI355 := Aside0.mk (hi); (try clear hb); (try clear hb2); (try clear hk); (try clear hi); have hnb175 := NB401_352.out; have hnc175 := NB352_401.out; have hnb176 := NB401_356.out; have hnc176 := NB356_401.out; have hnb177 := NB401_355.out; have hnc177 := NB355_401.out; obtain ⟨hcz178_0, hcz178_1, hcz178_2, hcz178_3, hcz178_4, hcz178_5⟩ := cZ6 BK401.out; obtain ⟨hfz178_0, hfz178_1, hfz178_2, hfz178_3, hfz178_4, hfz178_5⟩ := fZ6 BK401.out))
  go_meet
  case rel => exact ⟨_, (t409), (t408), H', ⟨by have := HK1.out; have := HK2.out; have := HK3.out; have := HJ91.out; have := HJ98.out; have := HJ119.out; have := HJ127.out; have := HJ139.out; have := HJ149.out; have := HJ160.out; first | omega | exact Nat.le_refl _⟩, ⟨by refine bN ?_; exact Kd.S_mono (Kd.S_far (p := ⟨gb401, 2, none⟩) (Kd.S_mono HO_17.out (fun k_ hk => (⟨hk, hk⟩ : _ ∧ k_ ≠ gb401))) (fun _ hk => hk.2) (.int .i64 t408)) (fun _ hk => hk.1)⟩, ⟨by refine bN ?_; exact Kd.S_mono (Kd.S_far (p := ⟨gb401, 2, none⟩) (Kd.S_types HO_357001.out BK401.out (by decide)) (fun _ hk => hk.2) (.int .i64 t408)) (fun _ hk => trivial)⟩, ⟨by refine bN ?_; exact Kd.S_mono (Kd.S_far (p := ⟨gb401, 2, none⟩) (Kd.S_types HO_357002.out BK401.out (by decide)) (fun _ hk => hk.2) (.int .i64 t408)) (fun _ hk => trivial)⟩, ⟨by refine bN ?_; exact Kd.R_mono (Kd.R_far (p := ⟨gb401, 2, none⟩) (Kd.R_types HO_357003.out BK401.out (by decide)) (fun _ hk => hk.2) (.int .i64 t408)) (fun _ hk => trivial)⟩, ⟨bw BK352.out⟩, ⟨bw BK356.out⟩, ⟨by refine bW ?_; refine blk_put (cs := #[.int .i64 (Int.tmod t399 7), .int .i64 x402001_149, .int .i64 x402002_127, .bool x402003_127, .int .u64 0, .slice none 0 0]) ?_ 2 _ rfl; exact bw BK401.out⟩, ⟨bI HI355.out⟩, ⟨bB⟩⟩
 rename_i zd4_1 zd4_2 zd4_3 zd4_4 zd4_5 zd4_6 zd4_7 zd4_8 zd4_9 _ _ _ _ _ _ _ _ _ _ _ _ _ _ _ _ _ _ _ _ _ _ _ _ _ _ _ _ _ _ _ _ _ _ _ _ _ _ _ _ _ _ _ _ _ _ _ _ _ _ _ _ _ _ _ _ _ _ _ _ _ _ _ _ _ _ _ _ _ _ _ _ _ _ _ _ _ _ _ _ _ _ _ _ _ _ _ _ _ _ _ _ _ _ _ _ _ _ _ _ _ _ _ _ _ _ _ _ _ _ _ _ _ _ _ _ _ _ _ _ _ _ _ _ _ _ _ _ _ _ _ _ zd4_10 zd4_11 zd4_12 zd4_13 zd4_14 zd4_15 zd4_16 zd4_17 zd4_18 _ _ _ _ _ _ _ _ _ _ _ _ _ _ _ _ _ _ _ _ _ _ _ _ _ _ _ _ _ _ _ _ _ _ _ _ _ _ _ _ _ _ _ _ _ _ _ _ _ _ _ _ _ _ _ _ _ _ _ _ _ _ _ _ _ _ _ _ _ _ _ _ _ _ _ _ _ _ _ _ _ _ _ _ _ _ _ _ _ _ _ _ _ _ _ _ _ _ _ _ _ _ _ _ _ _ _ _ _ _ _ _ _ _ _ _ _ _ _ _ _ _ _ _ _ _ _ _ _ _ _ _ _ zd4_19 zd4_20 zd4_21 zd4_22 zd4_23 zd4_24 zd4_25 zd4_26 zd4_27 zc4_1 zc4_2 zc4_3 _ _ _ _ _ _ _ _ _ _ _ _ _ _ _ _ _ _ _ _ _ _ _ _ _ _ _ _ _ _ _ _ _ _ _ _ _ _ _ _ _ _ _ _ _ _ _ _ _ _ _ _ _ _ _ _ _ _ _ _ _ _ _ _ _ _ _ _ _ _ _ _ _ _ _ _ _ _ _ _ _ _ _ _ _ _ _ _ _ _ _ _ _ _ _ _ _ _ _ _ _ _ _ _ _ _ _ _ _ _ _ _ _ _ _ _ _ _ _ _ _ _ _ _ _ _ _ _ _ _ _
 clear zd4_1 zd4_2 zd4_3 zd4_4 zd4_5 zd4_6 zd4_7 zd4_8 zd4_9 zd4_10 zd4_11 zd4_12 zd4_13 zd4_14 zd4_15 zd4_16 zd4_17 zd4_18 zd4_19 zd4_20 zd4_21 zd4_22 zd4_23 zd4_24 zd4_25 zd4_26 zd4_27
 revert k A0 c0 l0 r1 r2 r3 r4 r5 w hu28 hu51 hu63 hu66 hu39 hu43 HR0 HC0 t353 t354 A2 t357 t358 A3 t359 t360 A4 zc1_1 gb352 GW352 GE352 g355 NB355_352 NB352_355 gb356 GW356 GE356 NB352_356 NB356_352 NB355_356 NB356_355 hnb8 hnc8 hnb9 hnc9 zc1_2 u8 u9 u10 u11 u12 u13 u14 u40 u41 u42 u43 u44 u45 u46 u47 u48 u49 u50 u51 u52 u53 u54 u55 u56 u57 u58 u59 u60 u61 u62 u63 u64 u65 u66 u67 u68 u69 u70 u71 u72 u73 u74 u75 u76 u77 u78 u79 u80 u81 u82 u83 u84 u85 u86 u87 u88 u89 u90 u91 u92 u93 u94 u95 u96 u97 u98 u99 u100 u101 u102 u103 u104 u105 u106 u107 u108 u109 u110 u111 u112 u113 u114 u115 u116 u117 u118 u119 u120 u121 u122 u123 u124 u125 u126 u127 zc1_3 zc1_4 zc1_5 x7_1 x356001_1 x357001_1 x357002_1 u357001 u357002 k1 zc1_6 HK1 t392 t393 A82 zc1_7 zc1_8 zc1_9 u133 u134 u135 u136 u137 u138 u139 u140 u141 u142 u143 u144 u145 u146 u147 zc1_11 zc1_12 zc1_13 x16_2 x357003_2 u357003 k2 zc1_14 HK2 zc1_15 zc1_16 zc1_17 zc1_18 u17 u20 u21 u22 u23 u24 u25 zc1_19 zc1_20 zc1_21 x17_3 x356001_3 k3 zc1_22 HK3 kj91 HJ91 t399 t400 A98 gb401 GW401 GE401 NB352_401 NB401_352 NB356_401 NB401_356 NB355_401 NB401_355 hnb102 hnc102 hnb103 hnc103 hnb104 hnc104 kj98 HJ98 kj119 HJ119 hnb129 hnc129 hnb130 hnc130 hnb131 hnc131 x402002_127 x402003_127 kj127 HJ127 kj139 HJ139 x356001_149 x402001_149 kj149 HJ149 zc4_1 zc4_2 zc4_3 x211_160 HO_17 HO_357001 HO_357002 HO_357003 BK352 BK356 BK401 HI355 HB kj160 HJ160 HC171 wc u148 u149 u150 u151 u152 u153 u154 u155 u156 u157 u158 u159 u160 u161 u162 u163 u164 u165 u166 u167 u168 u169 u170 u171 u172 u173 u174 u175 u176 u177 u178 u179 u180 u181 u182 u183 u184 u185 u186 u187 u188 u189 u190 u191 u192 u193 u194 u195 u196 u197 u198 u199 u200 u201 u202 u203 u204 u205 u206 u207 u208 u209 u210 u211 u212 u213 u214 u215 u216 u217 u218 u219 u220 u221 u222 u223 u224 u225 u226 u227 u228 u229 u230 u231 u232 u233 u234 u235 u236 u237 u238 u239 u240 u241 u242 u243 u244 u245 u246 u247 u248 u249 u250 u251 u252 u253 u254 u255 u256 u257 u258 u259 u260 u261 u262 u263 u264 u265 u266 u267 u268 u269 u270 u271 u272 u273 u274 u275 u276 u277 u278 u279 hcut
 exact hPart_.out⟩
end Go.Proofs.YtiikllgppmmiaaaDoor.OScriptReads
