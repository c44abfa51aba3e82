/- What Go functions that the law ScriptReads uses come to, and why: part 18. Made out of the kit's print by a program of this session (wip/tools/stub.py, splice.py), functions that it does not take told by hand. -/
import Derived.Test.YtiikllgppmmiaaaDoorRd4
namespace Go.Proofs.YtiikllgppmmiaaaDoor.OScriptReads
open Go.RowKit Go.Proofs.YtiikllgppmmiaaaDoorW.PrintWords Go.Proofs.YtiikllgppmmiaaaDoorW.PrintLast Go.Proofs.YtiikllgppmmiaaaDoorW.PrintMore
attribute [local go_sem] max2_int min2_int max_two min_two max_three min_three max_four min_four   -- for this text's walks alone
set_option linter.unusedVariables false
set_option linter.unusedSimpArgs false
set_option maxHeartbeats 8000000 in
set_option maxRecDepth 100000 in
noncomputable def treelineref24_Read.calls.p5 : Part (treelineref24_Read.calls.p4.A) := ⟨_, fun hPart_ => by
 delta treelineref24_Read.calls.p4
 intro k A0 c0 l0 r1 r2 r3 r4 r5 w hu28 hu51 hu63 hu66 hu39 hu43 HR0 HC0 t353 t354 A2 t357 t358 A3 t359 t360 A4 zc1_1 gb352 GW352 GE352 g355 NB355_352 NB352_355 gb356 GW356 GE356 NB352_356 NB356_352 NB355_356 NB356_355 hnb8 hnc8 hnb9 hnc9 zc1_2 u8 u9 u10 u11 u12 u13 u14 u40 u41 u42 u43 u44 u45 u46 u47 u48 u49 u50 u51 u52 u53 u54 u55 u56 u57 u58 u59 u60 u61 u62 u63 u64 u65 u66 u67 u68 u69 u70 u71 u72 u73 u74 u75 u76 u77 u78 u79 u80 u81 u82 u83 u84 u85 u86 u87 u88 u89 u90 u91 u92 u93 u94 u95 u96 u97 u98 u99 u100 u101 u102 u103 u104 u105 u106 u107 u108 u109 u110 u111 u112 u113 u114 u115 u116 u117 u118 u119 u120 u121 u122 u123 u124 u125 u126 u127 zc1_3 zc1_4 zc1_5 x7_1 x356001_1 x357001_1 x357002_1 u357001 u357002 k1 zc1_6 HK1 t392 t393 A82 zc1_7 zc1_8 zc1_9 u133 u134 u135 u136 u137 u138 u139 u140 u141 u142 u143 u144 u145 u146 u147 zc1_11 zc1_12 zc1_13 x16_2 x357003_2 u357003 k2 zc1_14 HK2 zc1_15 zc1_16 zc1_17 zc1_18 u17 u20 u21 u22 u23 u24 u25 zc1_19 zc1_20 zc1_21 x17_3 x356001_3 k3 zc1_22 HK3 kj91 HJ91 t399 t400 A98 gb401 GW401 GE401 NB352_401 NB401_352 NB356_401 NB401_356 NB355_401 NB401_355 hnb102 hnc102 hnb103 hnc103 hnb104 hnc104 kj98 HJ98 kj119 HJ119 hnb129 hnc129 hnb130 hnc130 hnb131 hnc131 x402002_127 x402003_127 kj127 HJ127 kj139 HJ139 x356001_149 x402001_149 kj149 HJ149 zc4_1 zc4_2 zc4_3 x211_160 HO_17 HO_357001 HO_357002 HO_357003 BK352 BK356 BK401 HI355 HB kj160 HJ160 HC171 wc u148 u149 u150 u151 u152 u153 u154 u155 u156 u157 u158 u159 u160 u161 u162 u163 u164 u165 u166 u167 u168 u169 u170 u171 u172 u173 u174 u175 u176 u177 u178 u179 u180 u181 u182 u183 u184 u185 u186 u187 u188 u189 u190 u191 u192 u193 u194 u195 u196 u197 u198 u199 u200 u201 u202 u203 u204 u205 u206 u207 u208 u209 u210 u211 u212 u213 u214 u215 u216 u217 u218 u219 u220 u221 u222 u223 u224 u225 u226 u227 u228 u229 u230 u231 u232 u233 u234 u235 u236 u237 u238 u239 u240 u241 u242 u243 u244 u245 u246 u247 u248 u249 u250 u251 u252 u253 u254 u255 u256 u257 u258 u259 u260 u261 u262 u263 u264 u265 u266 u267 u268 u269 u270 u271 u272 u273 u274 u275 u276 u277 u278 u279 hcut
 clear HC171
 try clear p2
 try clear p6
 try clear c14b0
 try clear c43b0
 try clear c54b0
 try clear p64
 try clear c84b0
 try clear c93b0
 try clear c106b0
 try clear c106b1
 try clear c111b0
 try clear c111b1
 try clear c133b0
 try clear c133b1
 try clear c141b0
 try clear c162b0
 try clear c162b1
 try clear c172
 try clear p2
 try clear p6
 try clear p64
 obtain ⟨kq, x356001_170, x402002_170, HA, HJ170, HO_17, HO_357001, HO_357002, HO_357003, BK352, BK356, BK401, HI355, HB⟩ := hcut
 cases kq with
 | zero => exact absurd HA.out (by simp [treelineref24_Read.j12])
 | succ kj170 => ?_
 have H := HA.out
 clear HA
 simp only [treelineref24_Read.j12] at H
 have HC179 := Aside0.mk H
 clear H
 have hnb180 := NB401_352.out
 have hnc180 := NB352_401.out
 have hnb181 := NB401_356.out
 have hnc181 := NB356_401.out
 have hnb182 := NB401_355.out
 have hnc182 := NB355_401.out
 obtain ⟨hcz183_0, hcz183_1, hcz183_2, hcz183_3, hcz183_4, hcz183_5⟩ := cZ6 BK401.out
 obtain ⟨hfz183_0, hfz183_1, hfz183_2, hfz183_3, hfz183_4, hfz183_5⟩ := fZ6 BK401.out
 go_upto_if 217 with (fail)
 go_cut [] (fun wc => ∃ (kq : Nat) (x356001_178 : Int) (x402005_178 : List Int) (u402005 : Value), Aside0 (treelineref24_Read.j14 kq l0 (wrap64 (1 + t359)) x17_3 t353 x356001_178 (wrap64 (1 + t357)) x357001_1 x357002_1 x357003_2 (Int.tmod t399 7) x402001_149 x402002_170 x402003_127 0 x402005_178 = some (r1, r2, r3, r4, r5)) ∧ Aside0 (kq ≤ kj170) ∧ Aside0 (Kd.S k39 39 wc w.heap.size (fun k_ => some k_ ≠ (u402005 : Value).ownBlock ∧ k_ ≠ gb401) u17 x17_3) ∧ Aside0 (Kd.S k51 51 wc w.heap.size (fun _ => True) u357001 x357001_1) ∧ Aside0 (Kd.S (Kd.slice 3 (Kd.int .i64)) 64 wc w.heap.size (fun _ => True) u357002 x357002_1) ∧ Aside0 (Kd.R k66 66 wc w.heap.size (fun _ => True) u357003 x357003_2) ∧ Aside0 (Kd.R (Kd.int .u8) 5 wc w.heap.size (fun _ => True) u402005 x402005_178) ∧ Aside0 (wc.heap[gb352]? = some (.cells #[.int .i64 0, (.slice none 0 0), (.slice none 0 0), (.slice none 0 0)] 28 (0, 0))) ∧ Aside0 (wc.heap[gb356]? = some (.cells #[.int .i64 (wrap64 (1 + t357)), u357001, u357002, u357003] 28 (0, 0))) ∧ Aside0 (wc.heap[gb401]? = some (.cells #[.int .i64 (Int.tmod t399 7), .int .i64 x402001_149, .int .i64 x402002_170, .bool x402003_127, .int .u64 0, u402005] 39 (0, 0))) ∧ Aside0 (IsS59 w wc g355 t353 x356001_178) ∧ Aside0 (Below w.heap.size w wc))
 case first =>
  have H := HC179.out
  clear HC179
  by_cases c184 : (Int.tmod t399 7) = 3
  rotate_left
  ·rw [if_neg c184] at H
   have c184b0 : ((Int.tmod t399 7) == 3) = false := beq_eq_false_iff_ne.mpr c184
   have c184b1 : ((Int.tmod t399 7) != 3) = true := bne_iff_ne.mpr c184
   (first | rw [c184b0] | (simp only [i64_w, i32_w]; rw [c184b0]) | skip)
   have H' := Aside0.mk H
   clear H
   go_wp2
   go_meet
   case rel => exact ⟨_, (x356001_170), (([] : List Int)), (.slice none 0 0), H', ⟨by have := HK1.out; have := HK2.out; have := HK3.out; have := HJ91.out; have := HJ98.out; have := HJ119.out; have := HJ127.out; have := HJ139.out; have := HJ149.out; have := HJ160.out; have := HJ170.out; first | omega | exact Nat.le_refl _⟩, ⟨by refine bN ?_; exact Kd.S_mono HO_17.out (fun _ hk => ⟨(by simp [Value.ownBlock]), hk⟩)⟩, ⟨bN HO_357001.out⟩, ⟨bN HO_357002.out⟩, ⟨bN HO_357003.out⟩, ⟨by first | exact Kd.R_nil _ _ _ _ _ | exact Kd.N_nil _ _ _ _ _ | exact Kd.V_nil _ _ _ _ _ | exact Kd.Q_nil _ _ _ _ _ | exact Kd.S_nil _ _ _ _ _⟩, ⟨bw BK352.out⟩, ⟨bw BK356.out⟩, ⟨bw BK401.out⟩, ⟨bI HI355.out⟩, ⟨bB⟩⟩
  rw [if_pos c184] at H
  have c184b0 : ((Int.tmod t399 7) == 3) = true := beq_iff_eq.mpr c184
  have c184b1 : ((Int.tmod t399 7) != 3) = false := bne_eq_false_iff_eq.mpr c184
  clear c184
  (first | rw [c184b0] | (simp only [i64_w, i32_w]; rw [c184b0]) | skip)
  replace H := Option.bind_eq_some_iff.mp H
  obtain ⟨⟨t410, t411⟩, A1850, H⟩ := H
  (try dsimp only at H)
  have A185 := Aside0.mk A1850
  clear A1850
  have H' := Aside0.mk H
  clear H
  go_wp2_with (first | ((with_reducible refine gate_callee (f := 18) rfl ?_); refine gL (some 219) Tryd.func18 #[.pointer (some ⟨g355, 0, none⟩), .int .i64 60] ?_; (with_reducible refine (treelineref24_At_by.calls g355 t353 x356001_170 60 t410 t411 w _ ?side1 ?side2 A185.out).mono ?_); (case side1 => exact bI HI355.out); (case side2 => exact bB); rintro e w186 ⟨rfl, hi, hb, hk⟩; refine ⟨_, rfl, ?_⟩; replace HO_17 := Aside0.mk (Kd.S_mono (Kd.S_keep (IsS59.apartS (show IsS59 w _ g355 t353 x356001_170 from by exact bI HI355.out) (bN HO_17.out) (by decide)) hk (fun _ h => h.2)) (fun _ h => h.1)); replace HO_357001 := Aside0.mk (Kd.S_mono (Kd.S_keep (IsS59.apartS (show IsS59 w _ g355 t353 x356001_170 from by exact bI HI355.out) (bN HO_357001.out) (by decide)) hk (fun _ h => h.2)) (fun _ h => h.1)); replace HO_357002 := Aside0.mk (Kd.S_mono (Kd.S_keep (IsS59.apartS (show IsS59 w _ g355 t353 x356001_170 from by exact bI HI355.out) (bN HO_357002.out) (by decide)) hk (fun _ h => h.2)) (fun _ h => h.1)); replace HO_357003 := Aside0.mk (Kd.R_mono (Kd.R_keep (IsS59.apart (show IsS59 w _ g355 t353 x356001_170 from by exact bI HI355.out) (bN HO_357003.out) (by decide)) hk (fun _ h => h.2)) (fun _ h => h.1)); replace BK352 := Aside0.mk (KeepBut.blk hk (g' := gb352) (o := .cells #[.int .i64 0, .slice none 0 0, .slice none 0 0, .slice none 0 0] 28 (0, 0)) (bw BK352.out) NB352_355.out (by simp)); replace BK356 := Aside0.mk (KeepBut.blk hk (g' := gb356) (o := .cells #[.int .i64 (wrap64 (1 + t357)), u357001, u357002, u357003] 28 (0, 0)) (bw BK356.out) NB356_355.out (by simp)); replace BK401 := Aside0.mk (KeepBut.blk hk (g' := gb401) (o := .cells #[.int .i64 (Int.tmod t399 7), .int .i64 x402001_149, .int .i64 x402002_170, .bool x402003_127, .int .u64 0, .slice none 0 0] 39 (0, 0)) (bw BK401.out) NB401_355.out (by simp)); replace HB := Aside0.mk (hb); replace HI355 := Aside0.mk (hi); (try clear hb); (try clear hb2); (try clear hk); (try clear hi)) | (go_at_call 18; (with_reducible refine (treelineref24_At_by.calls g355 t353 x356001_170 60 t410 t411 w _ ?side1 ?side2 A185.out).mono ?_); (case side1 => exact bI HI355.out); (case side2 => exact bB); rintro e w186 ⟨rfl, hi, hb, hk⟩; replace HO_17 := Aside0.mk (Kd.S_mono (Kd.S_keep (IsS59.apartS (show IsS59 w _ g355 t353 x356001_170 from by exact bI HI355.out) (bN HO_17.out) (by decide)) hk (fun _ h => h.2)) (fun _ h => h.1)); replace HO_357001 := Aside0.mk (Kd.S_mono (Kd.S_keep (IsS59.apartS (show IsS59 w _ g355 t353 x356001_170 from by exact bI HI355.out) (bN HO_357001.out) (by decide)) hk (fun _ h => h.2)) (fun _ h => h.1)); replace HO_357002 := Aside0.mk (Kd.S_mono (Kd.S_keep (IsS59.apartS (show IsS59 w _ g355 t353 x356001_170 from by exact bI HI355.out) (bN HO_357002.out) (by decide)) hk (fun _ h => h.2)) (fun _ h => h.1)); replace HO_357003 := Aside0.mk (Kd.R_mono (Kd.R_keep (IsS59.apart (show IsS59 w _ g355 t353 x356001_170 from by exact bI HI355.out) (bN HO_357003.out) (by decide)) hk (fun _ h => h.2)) (fun _ h => h.1)); replace BK352 := Aside0.mk (KeepBut.blk hk (g' := gb352) (o := .cells #[.int .i64 0, .slice none 0 0, .slice none 0 0, .slice none 0 0] 28 (0, 0)) (bw BK352.out) NB352_355.out (by simp)); replace BK356 := Aside0.mk (KeepBut.blk hk (g' := gb356) (o := .cells #[.int .i64 (wrap64 (1 + t357)), u357001, u357002, u357003] 28 (0, 0)) (bw BK356.out) NB356_355.out (by simp)); replace BK401 := Aside0.mk (KeepBut.blk hk (g' := gb401) (o := .cells #[.int .i64 (Int.tmod t399 7), .int .i64 x402001_149, .int .i64 x402002_170, .bool x402003_127, .int .u64 0, .slice none 0 0] 39 (0, 0)) (bw BK401.out) NB401_355.out (by simp)); replace HB := Aside0.mk (hb); replace HI355 := Aside0.mk (hi); (try clear hb); (try clear hb2); (try clear hk); (try clear hi)))
  go_loopg [21] kj170 (fun kq v21 w' => ∃ (x21_12 : Int) (x356001_12 : Int) (x402005_12 : List Int) (u402005 : Value), v21 = .int .i64 x21_12 ∧ Aside0 (treelineref24_Read.l5 kq l0 (wrap64 (1 + t359)) x17_3 t399 t410 x21_12 t353 x356001_12 (wrap64 (1 + t357)) x357001_1 x357002_1 x357003_2 (Int.tmod t399 7) x402001_149 x402002_170 x402003_127 0 x402005_12 = some (r1, r2, r3, r4, r5)) ∧ Aside0 (kq ≤ kj170) ∧ Aside0 (Kd.S k39 39 w' w.heap.size (fun k_ => some k_ ≠ (u402005 : Value).ownBlock ∧ k_ ≠ gb401) u17 x17_3) ∧ Aside0 (Kd.S k51 51 w' w.heap.size (fun _ => True) u357001 x357001_1) ∧ Aside0 (Kd.S (Kd.slice 3 (Kd.int .i64)) 64 w' w.heap.size (fun _ => True) u357002 x357002_1) ∧ Aside0 (Kd.R k66 66 w' w.heap.size (fun _ => True) u357003 x357003_2) ∧ Aside0 (Kd.R (Kd.int .u8) 5 w' w.heap.size (fun _ => True) u402005 x402005_12) ∧ Aside0 (w'.heap[gb352]? = some (.cells #[.int .i64 0, (.slice none 0 0), (.slice none 0 0), (.slice none 0 0)] 28 (0, 0))) ∧ Aside0 (w'.heap[gb356]? = some (.cells #[.int .i64 (wrap64 (1 + t357)), u357001, u357002, u357003] 28 (0, 0))) ∧ Aside0 (w'.heap[gb401]? = some (.cells #[.int .i64 (Int.tmod t399 7), .int .i64 x402001_149, .int .i64 x402002_170, .bool x402003_127, .int .u64 0, u402005] 39 (0, 0))) ∧ Aside0 (IsS59 w w' g355 t353 x356001_12) ∧ Aside0 (Below w.heap.size w w'))
  case atStart => exact ⟨(0), (t411), (([] : List Int)), (.slice none 0 0), (by first | rfl | (simp; done) | (simp [*]; done)), H', ⟨Nat.le_refl _⟩, ⟨by refine bN ?_; exact Kd.S_mono HO_17.out (fun _ hk => ⟨(by simp [Value.ownBlock]), hk⟩)⟩, ⟨bN HO_357001.out⟩, ⟨bN HO_357002.out⟩, ⟨bN HO_357003.out⟩, ⟨by first | exact Kd.R_nil _ _ _ _ _ | exact Kd.N_nil _ _ _ _ _ | exact Kd.V_nil _ _ _ _ _ | exact Kd.Q_nil _ _ _ _ _ | exact Kd.S_nil _ _ _ _ _⟩, ⟨bw BK352.out⟩, ⟨bw BK356.out⟩, ⟨bw BK401.out⟩, ⟨bI HI355.out⟩, ⟨bB⟩⟩
  clear H'
  try clear p2
  try clear p6
  try clear c14b0
  try clear c43b0
  try clear c54b0
  try clear p64
  try clear c84b0
  try clear c93b0
  try clear c106b0
  try clear c106b1
  try clear c111b0
  try clear c111b1
  try clear c133b0
  try clear c133b1
  try clear c141b0
  try clear c162b0
  try clear c162b1
  try clear c184
  try clear c184b0
  try clear c184b1
  try clear hcz183_0
  try clear hcz183_1
  try clear hcz183_2
  try clear hcz183_3
  try clear hcz183_4
  try clear hcz183_5
  try clear hfz183_0
  try clear hfz183_1
  try clear hfz183_2
  try clear hfz183_3
  try clear hfz183_4
  try clear hfz183_5
  try clear p2
  try clear p6
  try clear p64
  obtain ⟨x21_12, x356001_12, x402005_12, u402005, rfl, HA, HK12, HO_17, HO_357001, HO_357002, HO_357003, HO_402005, BK352, BK356, BK401, HI355, HB⟩ := hrel
  cases gk with
  | zero => exact absurd HA.out (by simp [treelineref24_Read.l5])
  | succ k12 => ?_
  have H := HA.out
  clear HA
  simp only [treelineref24_Read.l5] at H
  by_cases c187 : x21_12 < t410
  ·rw [if_pos c187] at H
   have c187b0 : decide (x21_12 < t410) = true := decide_eq_true c187
   clear c187
   replace H := Option.bind_eq_some_iff.mp H
   obtain ⟨⟨t412, t413⟩, A1880, H⟩ := H
   (try dsimp only at H)
   have A188 := Aside0.mk A1880
   clear A1880
   by_cases c189 : x402005_12.length < 140737488355328
   rotate_left
   ·rw [if_neg c189] at H
    exact absurd H (by simp)
   rw [if_pos c189] at H
   have LMc189 := Aside0.mk c189
   clear c189
   obtain ⟨y414, hy414⟩ : ∃ y_ : List Int, y_ = (x402005_12 ++ [(t412) % 256]) := ⟨_, rfl⟩
   replace H : (treelineref24_Read.l5 k12 l0 (wrap64 (1 + t359)) x17_3 t399 t410 (wrap64 (x21_12 + 1)) t353 t413 (wrap64 (1 + t357)) x357001_1 x357002_1 x357003_2 (Int.tmod t399 7) x402001_149 x402002_170 x402003_127 0 y414) = some (r1, r2, r3, r4, r5) := by first | (rw [hy414]; with_reducible exact H) | (have H2_ := (Option.bind_some _ _).symm.trans H; rw [hy414]; with_reducible exact H2_) | (have H2_ := (Option.bind_some _ _).symm.trans H; with_reducible exact H2_) | with_reducible exact H | (rw [hy414]; exact H) | exact H
   have Ny414 := Aside0.mk hy414
   clear hy414
   have H' := Aside0.mk H
   clear H
   try go_wp2
   replace HO_17 := Aside0.mk (Kd.S_drew HO_17.out)
   replace HO_357001 := Aside0.mk (Kd.S_drew HO_357001.out)
   replace HO_357002 := Aside0.mk (Kd.S_drew HO_357002.out)
   replace HO_357003 := Aside0.mk (Kd.R_drew HO_357003.out)
   replace HO_402005 := Aside0.mk (Kd.R_drew HO_402005.out)
   replace BK352 := Aside0.mk (blk_drew BK352.out)
   replace BK356 := Aside0.mk (blk_drew BK356.out)
   replace BK401 := Aside0.mk (blk_drew BK401.out)
   replace HI355 := Aside0.mk (IsS59.drew HI355.out)
   replace HB := Aside0.mk (below_drew1 HB.out)
   refine start_ (n := 9) (S := fun w' => w'.cell? ⟨gb401, 0, none⟩ = some (.int .i64 (Int.tmod t399 7)) ∧ w'.cell? ⟨gb401, 1, none⟩ = some (.int .i64 x402001_149) ∧ w'.cell? ⟨gb401, 2, none⟩ = some (.int .i64 x402002_170) ∧ w'.cell? ⟨gb401, 3, none⟩ = some (.bool x402003_127) ∧ w'.cell? ⟨gb401, 4, none⟩ = some (.int .u64 0) ∧ w'.cell? ⟨gb401, 5, none⟩ = some (u402005)) (ds := [8]) #[false, false, false, false, false, false, false, false, false] (by kernel_rfl) rfl rfl ⟨(blk_cell BK401.out 0).trans rfl, (blk_cell BK401.out 1).trans rfl, (blk_cell BK401.out 2).trans rfl, (blk_cell BK401.out 3).trans rfl, (blk_cell BK401.out 4).trans rfl, (blk_cell BK401.out 5).trans rfl⟩ (fun hHeld => ?_); refine with_tabW treelineref24_Read.tab52 treelineref24_Read.bits52 (fun HT_ HW_ => ?_)
   generalize wr.drew = w190 at HO_17 HO_357001 HO_357002 HO_357003 HO_402005 BK352 BK356 BK401 HI355 HB hHeld ⊢
   refine pS 0 225 HT_ ?_
   refine pS 2 227 HT_ ?_
   refine tS 1 226 HT_ HW_ hHeld ?_
   refine one_ (i := 3) (N := some 228) #[true, true, true, true, false, false, false, false, false] rfl rfl (one_of HT_.out (by kernel_rfl)) (by decide) (fun K hK => ?_)
   refine goes_ Tryd.func18 (by kernel_rfl) rfl #[.pointer (some ⟨g355, 0, none⟩), .int .i64 256] (by rfl) rfl rfl (by (try simp only [List.map_toArray, List.map_cons, List.map_nil]); first | done | rfl | (simp only [List.length_drop, List.length_take]; rfl)) ?_
   with_reducible refine (treelineref24_At_by.calls g355 t353 x356001_12 256 t412 t413 w _ ?side1 ?side2 A188.out).mono ?_
   (case side1 => exact bI HI355.out)
   (case side2 => exact bB)
   rintro e w191 ⟨rfl, hi, hb, hk⟩
   refine ⟨_, rfl, ?_⟩
   replace HO_17 := Aside0.mk (Kd.S_mono (Kd.S_keep (IsS59.apartS (show IsS59 w _ g355 t353 x356001_12 from by exact bI HI355.out) (bN HO_17.out) (by decide)) hk (fun _ h => h.2)) (fun _ h => h.1))
   replace HO_357001 := Aside0.mk (Kd.S_mono (Kd.S_keep (IsS59.apartS (show IsS59 w _ g355 t353 x356001_12 from by exact bI HI355.out) (bN HO_357001.out) (by decide)) hk (fun _ h => h.2)) (fun _ h => h.1))
   replace HO_357002 := Aside0.mk (Kd.S_mono (Kd.S_keep (IsS59.apartS (show IsS59 w _ g355 t353 x356001_12 from by exact bI HI355.out) (bN HO_357002.out) (by decide)) hk (fun _ h => h.2)) (fun _ h => h.1))
   replace HO_357003 := Aside0.mk (Kd.R_mono (Kd.R_keep (IsS59.apart (show IsS59 w _ g355 t353 x356001_12 from by exact bI HI355.out) (bN HO_357003.out) (by decide)) hk (fun _ h => h.2)) (fun _ h => h.1))
   replace HO_402005 := Aside0.mk (Kd.R_mono (Kd.R_keep (IsS59.apart (show IsS59 w _ g355 t353 x356001_12 from by exact bI HI355.out) (bN HO_402005.out) (by decide)) hk (fun _ h => h.2)) (fun _ h => h.1))
   replace BK352 := Aside0.mk (KeepBut.blk hk (g' := gb352) (o := .cells #[.int .i64 0, .slice none 0 0, .slice none 0 0, .slice none 0 0] 28 (0, 0)) (bw BK352.out) NB352_355.out (by simp))
   replace BK356 := Aside0.mk (KeepBut.blk hk (g' := gb356) (o := .cells #[.int .i64 (wrap64 (1 + t357)), u357001, u357002, u357003] 28 (0, 0)) (bw BK356.out) NB356_355.out (by simp))
   replace BK401 := Aside0.mk (KeepBut.blk hk (g' := gb401) (o := .cells #[.int .i64 (Int.tmod t399 7), .int .i64 x402001_149, .int .i64 x402002_170, .bool x402003_127, .int .u64 0, u402005] 39 (0, 0)) (bw BK401.out) NB401_355.out (by simp))
   replace HB := Aside0.mk (hb)
   replace HI355 := Aside0.mk (hi)
   (try clear hb)
   (try clear hb2)
   (try clear hk)
   (try clear hi)
   refine hK.out _ _ ⟨(blk_cell BK401.out 0).trans rfl, (blk_cell BK401.out 1).trans rfl, (blk_cell BK401.out 2).trans rfl, (blk_cell BK401.out 3).trans rfl, (blk_cell BK401.out 4).trans rfl, (blk_cell BK401.out 5).trans rfl⟩ (fun hHeld => ?_)
   clear hK K
   refine nS 228 ?_
   refine pS 4 229 HT_ ?_
   refine one_ (i := 5) (N := some 230) #[true, true, true, true, true, true, false, false, false] rfl rfl (one_of HT_.out (by kernel_rfl)) (by decide) (fun K hK => ?_)
   refine value_ (w1 := ?_) (v := ?_) (by rfl) rfl ?_ ?_
   rotate_left 2
   ·go_simp
    constructor
    ·rfl
    rfl
   refine hK.out _ _ ⟨(blk_cell (blk_alloc BK401.out _) 0).trans rfl, (blk_cell (blk_alloc BK401.out _) 1).trans rfl, (blk_cell (blk_alloc BK401.out _) 2).trans rfl, (blk_cell (blk_alloc BK401.out _) 3).trans rfl, (blk_cell (blk_alloc BK401.out _) 4).trans rfl, (blk_cell (blk_alloc BK401.out _) 5).trans rfl⟩ (fun hHeld => ?_)
   clear hK K
   refine nS 230 ?_
   refine one_ (i := 6) (N := some 231) #[true, true, true, true, true, true, true, false, false] rfl rfl (one_of HT_.out (by kernel_rfl)) (by decide) (fun K hK => ?_)
   refine Kd.R_append_step (Kd.int .u8) (w0 := w) w.heap.size (by rfl) (.tmp 226) (.tmp 230) 22 5 (.int .u8 0) 1 rfl Tryd.underlying22 info5 rfl (by decide) (by omega) u402005 x402005_12 ((t412) % 256) [.int .u8 ((t412) % 256)] (fun _ => True) (fun _ => False) rfl rfl ?aP (fun _ hk => hk.elim) ?aF ?aO ?aB ?aS ?aL ?_
   (case aP => exact rfl)
   (case aB => exact bB)
   (case aF => exact (fun _ _ => trivial))
   (case aO => exact (bN HO_402005.out))
   (case aS => exact (below_size bB))
   (case aL => have := LMc189.out; omega)
   intro v415 w192 ho hb hg hat
   rw [← Ny414.out] at ho
   replace HO_17 := Aside0.mk (Kd.S_after (ok := (fun k_ => k_ ≠ gb401)) (by refine bN ?_; exact Kd.S_mono HO_17.out (fun _ hk => ⟨hk.2, hk.1⟩)) hg hat)
   replace HO_357001 := Aside0.mk (Kd.S_over' (bN HO_357001.out) (Kd.R_typed (bN HO_402005.out)) (by decide) hg)
   replace HO_357002 := Aside0.mk (Kd.S_over' (bN HO_357002.out) (Kd.R_typed (bN HO_402005.out)) (by decide) hg)
   replace HO_357003 := Aside0.mk (Kd.R_over' (bN HO_357003.out) (Kd.R_typed (bN HO_402005.out)) (by decide) hg)
   replace BK352 := Aside0.mk (blk_grown (g := gb352) (o := .cells #[.int .i64 0, .slice none 0 0, .slice none 0 0, .slice none 0 0] 28 (0, 0)) (bw BK352.out) hg (Kd.R_ne HO_402005.out BK352.out (by decide)))
   replace BK356 := Aside0.mk (blk_grown (g := gb356) (o := .cells #[.int .i64 (wrap64 (1 + t357)), u357001, u357002, u357003] 28 (0, 0)) (bw BK356.out) hg (Kd.R_ne HO_402005.out BK356.out (by decide)))
   replace BK401 := Aside0.mk (blk_grown (g := gb401) (o := .cells #[.int .i64 (Int.tmod t399 7), .int .i64 x402001_149, .int .i64 x402002_170, .bool x402003_127, .int .u64 0, u402005] 39 (0, 0)) (bw BK401.out) hg (Kd.R_ne HO_402005.out BK401.out (by decide)))
   replace HI355 := Aside0.mk (IsS59.grown (bI HI355.out) hg (IsS59.own_ne HI355.out HO_402005.out (by decide)))
   replace HB := Aside0.mk (hb)
   have HO416 := Aside0.mk (ho)
   clear HO_402005
   clear ho hb hg hat
   obtain ⟨Ao193, co193, eo193⟩ := Kd.R_slice HO416.out
   (first | subst eo193 | (injection eo193 with f1_ f2_ f3_; have f4_ := f1_.symm; have f5_ := f3_.symm; clear f1_ f2_ f3_; subst f4_; subst f5_))
   refine hK.out _ _ ⟨(blk_cell BK401.out 0).trans rfl, (blk_cell BK401.out 1).trans rfl, (blk_cell BK401.out 2).trans rfl, (blk_cell BK401.out 3).trans rfl, (blk_cell BK401.out 4).trans rfl, (blk_cell BK401.out 5).trans rfl⟩ (fun hHeld => ?_)
   clear hK K
   refine nS 231 ?_
   refine pS 7 232 HT_ ?_
   refine last_ (i := 8) (N := none) #[true, true, true, true, true, true, true, true, true] rfl rfl (one_of HT_.out (by kernel_rfl)) (by decide) (fun K hK => ?_)
   have hs194 : w192.cell? ⟨gb401, 5, none⟩ = some (u402005) := (blk_cell BK401.out 5).trans rfl
   have hfs194 := blk_frozen BK401.out 5
   have hns194_0 := NB352_401.out
   have hns194_1 := NB356_401.out
   have hms194_0 := NB401_352.out
   have hms194_1 := NB401_356.out
   refine skip_ (w1 := ?_) (by rfl) rfl ?_ ?_
   rotate_left
   ·go_simp
    rfl
   refine hK.out _ _ ?_
   clear hK K
   refine done_ (done_of HT_.out (by kernel_rfl)) ?_
   try go_wp2
   go_roundg k12
   case measure => have := HK1.out; have := HK2.out; have := HK3.out; have := HJ91.out; have := HJ98.out; have := HJ119.out; have := HJ127.out; have := HJ139.out; have := HJ149.out; have := HJ160.out; have := HJ170.out; have := HK12.out; omega
   case rel => exact ⟨(wrap64 (x21_12 + 1)), (t413), (y414), (.slice Ao193 y414.length co193), (by first | rfl | (simp; done) | (simp [*]; done)), H', ⟨by have := HK1.out; have := HK2.out; have := HK3.out; have := HJ91.out; have := HJ98.out; have := HJ119.out; have := HJ127.out; have := HJ139.out; have := HJ149.out; have := HJ160.out; have := HJ170.out; have := HK12.out; omega⟩, ⟨by refine bN ?_; exact Kd.S_mono (Kd.S_far (p := ⟨gb401, 5, none⟩) (Kd.S_mono HO_17.out (fun k_ hk => (⟨hk, hk.1⟩ : _ ∧ k_ ≠ gb401))) (fun _ hk => hk.2) (.slice Ao193 y414.length co193)) (fun _ hk => ⟨hk.1.2, hk.1.1⟩)⟩, ⟨by refine bN ?_; exact Kd.S_mono (Kd.S_far (p := ⟨gb401, 5, none⟩) (Kd.S_types HO_357001.out BK401.out (by decide)) (fun _ hk => hk.2) (.slice Ao193 y414.length co193)) (fun _ hk => trivial)⟩, ⟨by refine bN ?_; exact Kd.S_mono (Kd.S_far (p := ⟨gb401, 5, none⟩) (Kd.S_types HO_357002.out BK401.out (by decide)) (fun _ hk => hk.2) (.slice Ao193 y414.length co193)) (fun _ hk => trivial)⟩, ⟨by refine bN ?_; exact Kd.R_mono (Kd.R_far (p := ⟨gb401, 5, none⟩) (Kd.R_types HO_357003.out BK401.out (by decide)) (fun _ hk => hk.2) (.slice Ao193 y414.length co193)) (fun _ hk => trivial)⟩, ⟨by refine bN ?_; exact Kd.R_mono (Kd.R_far (p := ⟨gb401, 5, none⟩) (Kd.R_types HO416.out BK401.out (by decide)) (fun _ hk => hk.2) (.slice Ao193 y414.length co193)) (fun _ hk => trivial)⟩, ⟨bw BK352.out⟩, ⟨bw BK356.out⟩, ⟨by refine bW ?_; refine blk_put (cs := #[.int .i64 (Int.tmod t399 7), .int .i64 x402001_149, .int .i64 x402002_170, .bool x402003_127, .int .u64 0, u402005]) ?_ 5 _ rfl; exact bw BK401.out⟩, ⟨bI HI355.out⟩, ⟨bB⟩⟩
  rw [if_neg c187] at H
  have c187b0 : decide (x21_12 < t410) = false := decide_eq_false c187
  clear c187
  by_cases c195 : t399 < 128
  rotate_left
  ·rw [if_neg c195] at H
   have c195b0 : decide (t399 < 128) = false := decide_eq_false c195
   clear c195
   have H' := Aside0.mk H
   clear H
   go_wp2
   go_meet
   case rel => exact ⟨_, (x356001_12), (x402005_12), (u402005), H', ⟨by have := HK1.out; have := HK2.out; have := HK3.out; have := HJ91.out; have := HJ98.out; have := HJ119.out; have := HJ127.out; have := HJ139.out; have := HJ149.out; have := HJ160.out; have := HJ170.out; have := HK12.out; first | omega | exact Nat.le_refl _⟩, ⟨bN HO_17.out⟩, ⟨bN HO_357001.out⟩, ⟨bN HO_357002.out⟩, ⟨bN HO_357003.out⟩, ⟨bN HO_402005.out⟩, ⟨bw BK352.out⟩, ⟨bw BK356.out⟩, ⟨bw BK401.out⟩, ⟨bI HI355.out⟩, ⟨bB⟩⟩
  rw [if_pos c195] at H
  have c195b0 : decide (t399 < 128) = true := decide_eq_true c195
  clear c195
  obtain ⟨y417, hy417⟩ : ∃ y_ : List Int, y_ = (([66, 66, 3] : List Int)) := ⟨_, rfl⟩
  replace H : (if y417.length + x402005_12.length < 140737488355328 then ((some (y417 ++ x402005_12 : List Int)).bind fun y420 => ((treelineref04_Put.f k12 1652522221568 769 (IntKind.u16.wrap ((y420.length : Int))) y420).bind fun t423 => (treelineref24_Read.j14 k12 l0 (wrap64 (1 + t359)) x17_3 t353 x356001_12 (wrap64 (1 + t357)) x357001_1 x357002_1 x357003_2 (Int.tmod t399 7) x402001_149 x402002_170 x402003_127 0 t423))) else (none)) = some (r1, r2, r3, r4, r5) := by first | (rw [hy417]; with_reducible exact H) | (have H2_ := (Option.bind_some _ _).symm.trans H; rw [hy417]; with_reducible exact H2_) | (have H2_ := (Option.bind_some _ _).symm.trans H; with_reducible exact H2_) | with_reducible exact H | (rw [hy417]; exact H) | exact H
  have Ny417 := Aside0.mk hy417
  clear hy417
  by_cases c196 : y417.length + x402005_12.length < 140737488355328
  rotate_left
  ·rw [if_neg c196] at H
   exact absurd H (by simp)
  rw [if_pos c196] at H
  have LMc196 := Aside0.mk c196
  clear c196
  obtain ⟨y420, hy420⟩ : ∃ y_ : List Int, y_ = (y417 ++ x402005_12) := ⟨_, rfl⟩
  replace H : ((treelineref04_Put.f k12 1652522221568 769 (IntKind.u16.wrap ((y420.length : Int))) y420).bind fun t423 => (treelineref24_Read.j14 k12 l0 (wrap64 (1 + t359)) x17_3 t353 x356001_12 (wrap64 (1 + t357)) x357001_1 x357002_1 x357003_2 (Int.tmod t399 7) x402001_149 x402002_170 x402003_127 0 t423)) = some (r1, r2, r3, r4, r5) := by first | (rw [hy420]; with_reducible exact H) | (have H2_ := (Option.bind_some _ _).symm.trans H; rw [hy420]; with_reducible exact H2_) | (have H2_ := (Option.bind_some _ _).symm.trans H; with_reducible exact H2_) | with_reducible exact H | (rw [hy420]; exact H) | exact H
  have Ny420 := Aside0.mk hy420
  clear hy420
  replace H := Option.bind_eq_some_iff.mp H
  obtain ⟨t423, A1970, H⟩ := H
  (try dsimp only at H)
  have A197 := Aside0.mk A1970
  clear A1970
  have H' := Aside0.mk H
  clear H
  go_wp2_with (first | ((with_reducible refine gate_dst (N := 235) rfl ?_); (try (refine gate_guard (by rfl) ?_; dsimp only)); refine Kd.R_lit (Kd.int .u8) _ 5 ?hg (N := 235) ?hd (xs := ([66, 66, 3] : List Int)) (inner := [.int .u8 66, .int .u8 66, .int .u8 3]) (ok := fun _ => True) (okp := fun _ => True) ?hr ?hp (fun _ hk => hk) trivial (Below.refl _ _) (Nat.le_refl _) (by simp) ?_; (case hd => rfl); (case hg => rfl); (case hr => first | (go_simp; done) | (go_simp; rfl)); (case hp => exact (Reps.one (show Kd.M (Kd.int .u8) _ _ _ 66 [.int .u8 66] from rfl) (Reps.one (show Kd.M (Kd.int .u8) _ _ _ 66 [.int .u8 66] from rfl) (Reps.one (show Kd.M (Kd.int .u8) _ _ _ 3 [.int .u8 3] from rfl) (Reps.none _ _))))); intro v418 w198 ho199 hb hg_ hnew_; clear hg_ hnew_; (first | rw [← Ny417.out] at ho199 | (simp only [Int.reduceToNat] at ho199; rw [← Ny417.out] at ho199)); replace HO_17 := Aside0.mk (Kd.S_elder' (bN HO_17.out) (Kd.R_base ho199) hb); replace HO_357001 := Aside0.mk (Kd.S_below (bN HO_357001.out) hb); replace HO_357002 := Aside0.mk (Kd.S_below (bN HO_357002.out) hb); replace HO_357003 := Aside0.mk (Kd.R_below (bN HO_357003.out) hb); have HO419 := Aside0.mk (Kd.R_lower (Kd.R_new' ho199 (Kd.R_lt (bN HO_402005.out))) (below_size bB)); replace HO_402005 := Aside0.mk (Kd.R_elder' (bN HO_402005.out) (Kd.R_base ho199) hb); replace BK352 := Aside0.mk (blk_below (g := gb352) (o := .cells #[.int .i64 0, .slice none 0 0, .slice none 0 0, .slice none 0 0] 28 (0, 0)) (bw BK352.out) hb); replace BK356 := Aside0.mk (blk_below (g := gb356) (o := .cells #[.int .i64 (wrap64 (1 + t357)), u357001, u357002, u357003] 28 (0, 0)) (bw BK356.out) hb); replace BK401 := Aside0.mk (blk_below (g := gb401) (o := .cells #[.int .i64 (Int.tmod t399 7), .int .i64 x402001_149, .int .i64 x402002_170, .bool x402003_127, .int .u64 0, u402005] 39 (0, 0)) (bw BK401.out) hb); replace HI355 := Aside0.mk (IsS59.below (bI HI355.out) hb); replace HB := Aside0.mk (below_step bB hb); clear hb ho199; have hnb200 := NB401_352.out; have hnc200 := NB352_401.out; have hnb201 := NB401_356.out; have hnc201 := NB356_401.out; have hnb202 := NB401_355.out; have hnc202 := NB355_401.out; obtain ⟨hcz203_0, hcz203_1, hcz203_2, hcz203_3, hcz203_4, hcz203_5⟩ := cZ6 BK401.out; obtain ⟨hfz203_0, hfz203_1, hfz203_2, hfz203_3, hfz203_4, hfz203_5⟩ := fZ6 BK401.out; obtain ⟨Ao205, co205, eo205⟩ := Kd.R_slice HO_402005.out; subst eo205) | ((with_reducible refine gate_builtin (b := .append) (xs := #[.tmp 235, .tmp 237]) rfl ?_); (try (refine gate_guard (by rfl) ?_; dsimp only)); at_builtin; refine Kd.R_append_rows (Kd.int .u8) (w0 := w) w.heap.size rfl (.tmp 235) (.tmp 237) 22 5 (.int .u8 0) 1 rfl Tryd.underlying22 info5 rfl (by decide) (by omega) v418 y417 x402005_12 _ _ _ (fun k_ => some k_ ≠ (.slice Ao205 x402005_12.length co205 : Value).ownBlock) (fun _ => False) rfl rfl ?aO ?aR (fun _ _ h => h) (fun _ h => h.elim) ?aF ?aB ?aS ?aL ?_; (case aR => repeat (first | exact (Kd.R_reads' HO_402005.out).2.2 | (with_reducible refine Kd.C_alloc ?_ _) | (with_reducible refine Kd.C_drewN ?_ _) | (with_reducible refine Kd.C_drew ?_))); (case aB => exact bB); (case aF => exact (fun k_ hk => Kd.fresh' (Kd.R_lt (bN HO_402005.out)) k_ hk)); (case aO => exact (by refine bN ?_; exact Kd.R_mono HO419.out (fun _ hk => hk.2))); (case aS => exact (below_size bB)); (case aL => have := LMc196.out; omega); intro v421 w204 ho hb hg hat; rw [← Ny420.out] at ho; replace HO_17 := Aside0.mk (Kd.S_after (ok := (fun k_ => some k_ ≠ (.slice Ao205 x402005_12.length co205 : Value).ownBlock ∧ k_ ≠ gb401)) (bN HO_17.out) hg hat); replace HO_357001 := Aside0.mk (Kd.S_over' (bN HO_357001.out) (Kd.R_typed (bN HO419.out)) (by decide) hg); replace HO_357002 := Aside0.mk (Kd.S_over' (bN HO_357002.out) (Kd.R_typed (bN HO419.out)) (by decide) hg); replace HO_357003 := Aside0.mk (Kd.R_over' (bN HO_357003.out) (Kd.R_typed (bN HO419.out)) (by decide) hg); replace HO_402005 := Aside0.mk (Kd.R_after (ok := (fun _ => True)) (bN HO_402005.out) hg hat); replace BK352 := Aside0.mk (blk_grown (g := gb352) (o := .cells #[.int .i64 0, .slice none 0 0, .slice none 0 0, .slice none 0 0] 28 (0, 0)) (bw BK352.out) hg (Kd.R_ne HO419.out BK352.out (by decide))); replace BK356 := Aside0.mk (blk_grown (g := gb356) (o := .cells #[.int .i64 (wrap64 (1 + t357)), u357001, u357002, u357003] 28 (0, 0)) (bw BK356.out) hg (Kd.R_ne HO419.out BK356.out (by decide))); replace BK401 := Aside0.mk (blk_grown (g := gb401) (o := .cells #[.int .i64 (Int.tmod t399 7), .int .i64 x402001_149, .int .i64 x402002_170, .bool x402003_127, .int .u64 0, .slice Ao205 x402005_12.length co205] 39 (0, 0)) (bw BK401.out) hg (Kd.R_ne HO419.out BK401.out (by decide))); replace HI355 := Aside0.mk (IsS59.grown (bI HI355.out) hg (IsS59.own_ne HI355.out HO419.out (by decide))); replace HB := Aside0.mk (hb); have HO422 := Aside0.mk (ho); clear HO419; clear ho hb hg hat; obtain ⟨Ao206, co206, eo206⟩ := Kd.R_slice HO422.out; subst eo206) | ((with_reducible refine gate_callee (f := 19) rfl ?_); refine gL (some 244) Tryd.func19 #[.agg #[.int .u64 1652522221568, .int .u64 769, .int .u16 (IntKind.u16.wrap ((y420.length : Int))), .slice Ao206 y420.length co206]] ?_; (with_reducible refine (treelineref04_Put.calls k12 1652522221568 769 (IntKind.u16.wrap ((y420.length : Int))) _ _ y420 t423 _ ?side1 ?side2 A197.out).mono ?_); (case side1 => repeat (first | exact (Kd.R_reads' HO422.out).2.2 | (with_reducible refine Kd.C_alloc ?_ _) | (with_reducible refine Kd.C_drewN ?_ _) | (with_reducible refine Kd.C_drew ?_))); (case side2 => exact (Kd.R_reads' HO422.out).2.1); rintro e w207 ⟨v424, rfl, ho0, hb⟩; refine ⟨_, rfl, ?_⟩; replace HO_17 := Aside0.mk (Kd.S_elder' (bN HO_17.out) (Kd.R_base ho0) hb); replace HO_357001 := Aside0.mk (Kd.S_below (bN HO_357001.out) hb); replace HO_357002 := Aside0.mk (Kd.S_below (bN HO_357002.out) hb); replace HO_357003 := Aside0.mk (Kd.R_below (bN HO_357003.out) hb); have HO425 := Aside0.mk (Kd.R_lower (Kd.R_new' (Kd.R_new' ho0 (Kd.R_lt (bN HO_402005.out))) (Kd.R_lt (bN HO422.out))) (below_size bB)); replace HO_402005 := Aside0.mk (Kd.R_elder' (bN HO_402005.out) (Kd.R_base ho0) hb); replace HO422 := Aside0.mk (Kd.R_elder' (bN HO422.out) (Kd.R_base ho0) hb); replace BK352 := Aside0.mk (blk_below (g := gb352) (o := .cells #[.int .i64 0, .slice none 0 0, .slice none 0 0, .slice none 0 0] 28 (0, 0)) (bw BK352.out) hb); replace BK356 := Aside0.mk (blk_below (g := gb356) (o := .cells #[.int .i64 (wrap64 (1 + t357)), u357001, u357002, u357003] 28 (0, 0)) (bw BK356.out) hb); replace BK401 := Aside0.mk (blk_below (g := gb401) (o := .cells #[.int .i64 (Int.tmod t399 7), .int .i64 x402001_149, .int .i64 x402002_170, .bool x402003_127, .int .u64 0, .slice Ao205 x402005_12.length co205] 39 (0, 0)) (bw BK401.out) hb); replace HI355 := Aside0.mk (IsS59.below (bI HI355.out) hb); replace HB := Aside0.mk (below_step bB hb); (try clear hb); (try clear hb2); (try clear hk); (try clear hi); (try clear ho0); obtain ⟨Ao208, co208, eo208⟩ := Kd.R_slice HO425.out; subst eo208; obtain ⟨hcz209_0, hcz209_1, hcz209_2, hcz209_3, hcz209_4, hcz209_5⟩ := cZ6 BK401.out; obtain ⟨hfz209_0, hfz209_1, hfz209_2, hfz209_3, hfz209_4, hfz209_5⟩ := fZ6 BK401.out) | (go_at_call 19; (with_reducible refine (treelineref04_Put.calls k12 1652522221568 769 (IntKind.u16.wrap ((y420.length : Int))) _ _ y420 t423 _ ?side1 ?side2 A197.out).mono ?_); (case side1 => repeat (first | exact (Kd.R_reads' HO422.out).2.2 | (with_reducible refine Kd.C_alloc ?_ _) | (with_reducible refine Kd.C_drewN ?_ _) | (with_reducible refine Kd.C_drew ?_))); (case side2 => exact (Kd.R_reads' HO422.out).2.1); rintro e w207 ⟨v424, rfl, ho0, hb⟩; replace HO_17 := Aside0.mk (Kd.S_elder' (bN HO_17.out) (Kd.R_base ho0) hb); replace HO_357001 := Aside0.mk (Kd.S_below (bN HO_357001.out) hb); replace HO_357002 := Aside0.mk (Kd.S_below (bN HO_357002.out) hb); replace HO_357003 := Aside0.mk (Kd.R_below (bN HO_357003.out) hb); have HO425 := Aside0.mk (Kd.R_lower (Kd.R_new' (Kd.R_new' ho0 (Kd.R_lt (bN HO_402005.out))) (Kd.R_lt (bN HO422.out))) (below_size bB)); replace HO_402005 := Aside0.mk (Kd.R_elder' (bN HO_402005.out) (Kd.R_base ho0) hb); replace HO422 := Aside0.mk (Kd.R_elder' (bN HO422.out) (Kd.R_base ho0) hb); replace BK352 := Aside0.mk (blk_below (g := gb352) (o := .cells #[.int .i64 0, .slice none 0 0, .slice none 0 0, .slice none 0 0] 28 (0, 0)) (bw BK352.out) hb); replace BK356 := Aside0.mk (blk_below (g := gb356) (o := .cells #[.int .i64 (wrap64 (1 + t357)), u357001, u357002, u357003] 28 (0, 0)) (bw BK356.out) hb); replace BK401 := Aside0.mk (blk_below (g := gb401) (o := .cells #[.int .i64 (Int.tmod t399 7), .int .i64 x402001_149, .int .i64 x402002_170, .bool x402003_127, .int .u64 0, .slice Ao205 x402005_12.length co205] 39 (0, 0)) (bw BK401.out) hb); replace HI355 := Aside0.mk (IsS59.below (bI HI355.out) hb); replace HB := Aside0.mk (below_step bB hb); (try clear hb); (try clear hb2); (try clear hk); (try clear hi); (try clear ho0); obtain ⟨Ao208, co208, eo208⟩ := Kd.R_slice HO425.out; subst eo208; obtain ⟨hcz209_0, hcz209_1, hcz209_2, hcz209_3, hcz209_4, hcz209_5⟩ := cZ6 BK401.out; obtain ⟨hfz209_0, hfz209_1, hfz209_2, hfz209_3, hfz209_4, hfz209_5⟩ := fZ6 BK401.out))
  go_meet
  case rel => exact ⟨_, (x356001_12), (t423), (.slice Ao208 t423.length co208), H', ⟨by have := HK1.out; have := HK2.out; have := HK3.out; have := HJ91.out; have := HJ98.out; have := HJ119.out; have := HJ127.out; have := HJ139.out; have := HJ149.out; have := HJ160.out; have := HJ170.out; have := HK12.out; first | omega | exact Nat.le_refl _⟩, ⟨by refine bN ?_; exact Kd.S_mono (Kd.S_far (p := ⟨gb401, 5, none⟩) (Kd.S_mono HO_17.out (fun k_ hk => (⟨hk, hk.1.1.2⟩ : _ ∧ k_ ≠ gb401))) (fun _ hk => hk.2) (.slice Ao208 t423.length co208)) (fun _ hk => ⟨hk.1.2, hk.1.1.1.2⟩)⟩, ⟨by refine bN ?_; exact Kd.S_mono (Kd.S_far (p := ⟨gb401, 5, none⟩) (Kd.S_types HO_357001.out BK401.out (by decide)) (fun _ hk => hk.2) (.slice Ao208 t423.length co208)) (fun _ hk => trivial)⟩, ⟨by refine bN ?_; exact Kd.S_mono (Kd.S_far (p := ⟨gb401, 5, none⟩) (Kd.S_types HO_357002.out BK401.out (by decide)) (fun _ hk => hk.2) (.slice Ao208 t423.length co208)) (fun _ hk => trivial)⟩, ⟨by refine bN ?_; exact Kd.R_mono (Kd.R_far (p := ⟨gb401, 5, none⟩) (Kd.R_types HO_357003.out BK401.out (by decide)) (fun _ hk => hk.2) (.slice Ao208 t423.length co208)) (fun _ hk => trivial)⟩, ⟨by refine bN ?_; exact Kd.R_mono (Kd.R_far (p := ⟨gb401, 5, none⟩) (Kd.R_types HO425.out BK401.out (by decide)) (fun _ hk => hk.2) (.slice Ao208 t423.length co208)) (fun _ hk => trivial)⟩, ⟨bw BK352.out⟩, ⟨bw BK356.out⟩, ⟨by refine bW ?_; refine blk_put (cs := #[.int .i64 (Int.tmod t399 7), .int .i64 x402001_149, .int .i64 x402002_170, .bool x402003_127, .int .u64 0, .slice Ao205 x402005_12.length co205]) ?_ 5 _ rfl; exact bw BK401.out⟩, ⟨bI HI355.out⟩, ⟨bB⟩⟩
 rename_i zd5_1 zd5_2 zd5_3 zd5_4 zd5_5 zd5_6 zd5_7 zd5_8 zd5_9 zc5_1 _ _ _ _ _ _ _ _ _ _ _ _ _ _ _ _ _ _ _ _ _ _ _ _ _ _ _ _ _ _ _ _ _ _ _ _ _ _ _ _ _ _ _ _ _ _ _ _ _ _ _ _ _ _ _ _ _ _ _ _ _ _ _ _ _ _ _ _ _ _ _ _ _ _ _ _ _ _ _ _ _ _ _ _ _ _ _ _ _ _ _ _ _ _ _ _ _ _ _ _ _ _ _ _ _ _ _ _ _ _ _ _ _ _ _ _ _ _ _ _ _ _ _ _ _ _ _ _ _ _ _ _ zc5_2 zc5_3
 clear zd5_1 zd5_2 zd5_3 zd5_4 zd5_5 zd5_6 zd5_7 zd5_8 zd5_9
 revert k A0 c0 l0 r1 r2 r3 r4 r5 w hu28 hu51 hu63 hu66 hu39 hu43 HR0 HC0 t353 t354 A2 t357 t358 A3 t359 t360 A4 zc1_1 gb352 GW352 GE352 g355 NB355_352 NB352_355 gb356 GW356 GE356 NB352_356 NB356_352 NB355_356 NB356_355 hnb8 hnc8 hnb9 hnc9 zc1_2 u8 u9 u10 u11 u12 u13 u14 u40 u41 u42 u43 u44 u45 u46 u47 u48 u49 u50 u51 u52 u53 u54 u55 u56 u57 u58 u59 u60 u61 u62 u63 u64 u65 u66 u67 u68 u69 u70 u71 u72 u73 u74 u75 u76 u77 u78 u79 u80 u81 u82 u83 u84 u85 u86 u87 u88 u89 u90 u91 u92 u93 u94 u95 u96 u97 u98 u99 u100 u101 u102 u103 u104 u105 u106 u107 u108 u109 u110 u111 u112 u113 u114 u115 u116 u117 u118 u119 u120 u121 u122 u123 u124 u125 u126 u127 zc1_3 zc1_4 zc1_5 x7_1 x356001_1 x357001_1 x357002_1 u357001 u357002 k1 zc1_6 HK1 t392 t393 A82 zc1_7 zc1_8 zc1_9 u133 u134 u135 u136 u137 u138 u139 u140 u141 u142 u143 u144 u145 u146 u147 zc1_11 zc1_12 zc1_13 x16_2 x357003_2 u357003 k2 zc1_14 HK2 zc1_15 zc1_16 zc1_17 zc1_18 u17 u23 u24 u25 zc1_19 zc1_20 zc1_21 x17_3 x356001_3 k3 zc1_22 HK3 kj91 HJ91 t399 t400 A98 gb401 GW401 GE401 NB352_401 NB401_352 NB356_401 NB401_356 NB355_401 NB401_355 hnb102 hnc102 hnb103 hnc103 hnb104 hnc104 kj98 HJ98 kj119 HJ119 hnb129 hnc129 hnb130 hnc130 hnb131 hnc131 x402003_127 kj127 HJ127 kj139 HJ139 x402001_149 kj149 HJ149 kj160 HJ160 zc5_1 x356001_170 x402002_170 HO_17 HO_357001 HO_357002 HO_357003 BK352 BK356 BK401 HI355 HB kj170 HJ170 HC179 hnb180 hnc180 hnb181 hnc181 hnb182 hnc182 hcz183_0 hcz183_1 hcz183_2 hcz183_3 hcz183_4 hcz183_5 hfz183_0 hfz183_1 hfz183_2 hfz183_3 hfz183_4 hfz183_5 zc5_2 zc5_3 wc u20 u21 u22 u148 u149 u150 u151 u152 u153 u154 u155 u156 u157 u158 u159 u160 u161 u162 u163 u164 u165 u166 u167 u168 u169 u170 u171 u172 u173 u174 u175 u176 u177 u178 u179 u180 u181 u182 u183 u184 u185 u186 u187 u188 u189 u190 u191 u192 u193 u194 u195 u196 u197 u198 u199 u200 u201 u202 u203 u204 u205 u206 u207 u208 u209 u210 u211 u212 u213 u214 u215 u216 u217 u218 u219 u220 u221 u222 u223 u224 u225 u226 u227 u228 u229 u230 u231 u232 u233 u234 u235 u236 u237 u238 u239 u240 u241 u242 u243 u244 u245 u246 u247 u248 u249 u250 u251 u252 u253 u254 u255 u256 u257 u258 u259 u260 u261 u262 u263 u264 u265 u266 u267 u268 u269 u270 u271 u272 u273 u274 u275 u276 u277 u278 u279 hcut
 exact hPart_.out⟩
end Go.Proofs.YtiikllgppmmiaaaDoor.OScriptReads
