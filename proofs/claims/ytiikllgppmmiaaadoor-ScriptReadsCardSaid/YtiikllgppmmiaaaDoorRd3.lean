/- What Go functions that the law ScriptReads uses come to, and why: part 18. Made out of the kit's print by a program of this session (wip/tools/stub.py, splice.py), functions that it does not take told by hand. -/
import Derived.Test.YtiikllgppmmiaaaDoorRd2
namespace Go.Proofs.YtiikllgppmmiaaaDoor.OScriptReads
open Go.RowKit Go.Proofs.YtiikllgppmmiaaaDoorW.PrintWords Go.Proofs.YtiikllgppmmiaaaDoorW.PrintLast Go.Proofs.YtiikllgppmmiaaaDoorW.PrintMore
attribute [local go_sem] max2_int min2_int max_two min_two max_three min_three max_four min_four   -- for this text's walks alone
set_option linter.unusedVariables false
set_option linter.unusedSimpArgs false
set_option maxHeartbeats 8000000 in
set_option maxRecDepth 100000 in
noncomputable def treelineref24_Read.calls.p3 : Part (treelineref24_Read.calls.p2.A) := ⟨_, fun hPart_ => by
 delta treelineref24_Read.calls.p2
 intro k A0 c0 l0 r1 r2 r3 r4 r5 w hu28 hu51 hu63 hu66 hu39 hu43 HR0 HC0 t353 t354 A2 t357 t358 A3 t359 t360 A4 zc1_1 gb352 GW352 GE352 g355 NB355_352 NB352_355 gb356 GW356 GE356 NB352_356 NB356_352 NB355_356 NB356_355 hnb8 hnc8 hnb9 hnc9 zc1_2 u8 u9 u10 u11 u12 u13 u14 u40 u41 u42 u43 u44 u45 u46 u47 u48 u49 u50 u51 u52 u53 u54 u55 u56 u57 u58 u59 u60 u61 u62 u63 u64 u65 u66 u67 u68 u69 u70 u71 u72 u73 u74 u75 u76 u77 u78 u79 u80 u81 u82 u83 u84 u85 u86 u87 u88 u89 u90 u91 u92 u93 u94 u95 u96 u97 u98 u99 u100 u101 u102 u103 u104 u105 u106 u107 u108 u109 u110 u111 u112 u113 u114 u115 u116 u117 u118 u119 u120 u121 u122 u123 u124 u125 u126 u127 zc1_3 zc1_4 zc1_5 x7_1 x356001_1 x357001_1 x357002_1 u357001 u357002 k1 zc1_6 HK1 t392 t393 A82 zc1_7 zc1_8 zc1_9 u133 u134 u135 u136 u137 u138 u139 u140 u141 u142 u143 u144 u145 u146 u147 zc1_11 zc1_12 zc1_13 x16_2 x357003_2 u357003 k2 zc1_14 HK2 zc1_15 zc1_16 zc1_17 zc1_18 u17 u20 u21 u22 u23 u24 u25 zc1_19 zc1_20 zc1_21 x17_3 x356001_3 k3 zc1_22 HK3 kj91 HJ91 t399 t400 A98 HC99 gb401 w101 HO_17 HO_357001 HO_357002 HO_357003 BK401 GW401 GE401 HB NB352_401 NB401_352 BK352 NB356_401 NB401_356 BK356 NB355_401 NB401_355 HI355 hnb102 hnc102 hnb103 hnc103 hnb104 hnc104 hcz105_0 hcz105_1 hcz105_2 hcz105_3 hcz105_4 hcz105_5 hfz105_0 hfz105_1 hfz105_2 hfz105_3 hfz105_4 hfz105_5 zc2_1 zc2_2 zc2_3 zc2_4 wc u148 u149 u150 u151 u152 u153 u154 u155 u156 u157 u158 u159 u160 u161 u162 u163 u164 u165 u166 u167 u168 u169 u170 u171 u172 u173 u174 u175 u176 u177 u178 u179 u180 u181 u182 u183 u184 u185 u186 u187 u188 u189 u190 u191 u192 u193 u194 u195 u196 u197 u198 u199 u200 u201 u202 u203 u204 u205 u206 u207 u208 u209 u210 u211 u212 u213 u214 u215 u216 u217 u218 u219 u220 u221 u222 u223 u224 u225 u226 u227 u228 u229 u230 u231 u232 u233 u234 u235 u236 u237 u238 u239 u240 u241 u242 u243 u244 u245 u246 u247 u248 u249 u250 u251 u252 u253 u254 u255 u256 u257 u258 u259 u260 u261 u262 u263 u264 u265 u266 u267 u268 u269 u270 u271 u272 u273 u274 u275 u276 u277 u278 u279 hcut
 clear HC99
 try clear p2
 try clear p6
 try clear c14
 try clear c14b0
 try clear c43b0
 try clear c54b0
 try clear p64
 try clear c84b0
 try clear c93b0
 try clear c106
 try clear c106b0
 try clear c106b1
 try clear c111b0
 try clear c111b1
 try clear hcz105_0
 try clear hcz105_1
 try clear hcz105_2
 try clear hcz105_3
 try clear hcz105_4
 try clear hcz105_5
 try clear hfz105_0
 try clear hfz105_1
 try clear hfz105_2
 try clear hfz105_3
 try clear hfz105_4
 try clear hfz105_5
 try clear p2
 try clear p6
 try clear p64
 obtain ⟨kq, x177_98, rfl, HA, HJ98, HO_17, HO_357001, HO_357002, HO_357003, BK352, BK356, BK401, HI355, HB⟩ := hcut
 cases kq with
 | zero => exact absurd HA.out (by simp [treelineref24_Read.j6])
 | succ kj98 => ?_
 have H := HA.out
 clear HA
 simp only [treelineref24_Read.j6] at H
 have HC120 := Aside0.mk H
 clear H
 go_upto_if 177 with (fail)
 go_cut [] (fun wc => ∃ (kq : Nat) (x356001_119 : Int) (x402001_119 : Int), Aside0 (treelineref24_Read.j7 kq l0 (wrap64 (1 + t359)) x17_3 t399 t353 x356001_119 (wrap64 (1 + t357)) x357001_1 x357002_1 x357003_2 (Int.tmod t399 7) x402001_119 0 false 0 = some (r1, r2, r3, r4, r5)) ∧ Aside0 (kq ≤ kj98) ∧ Aside0 (Kd.S k39 39 wc w.heap.size (fun k_ => k_ ≠ gb401) u17 x17_3) ∧ Aside0 (Kd.S k51 51 wc w.heap.size (fun _ => True) u357001 x357001_1) ∧ Aside0 (Kd.S (Kd.slice 3 (Kd.int .i64)) 64 wc w.heap.size (fun _ => True) u357002 x357002_1) ∧ Aside0 (Kd.R k66 66 wc w.heap.size (fun _ => True) u357003 x357003_2) ∧ Aside0 (wc.heap[gb352]? = some (.cells #[.int .i64 0, (.slice none 0 0), (.slice none 0 0), (.slice none 0 0)] 28 (0, 0))) ∧ Aside0 (wc.heap[gb356]? = some (.cells #[.int .i64 (wrap64 (1 + t357)), u357001, u357002, u357003] 28 (0, 0))) ∧ Aside0 (wc.heap[gb401]? = some (.cells #[.int .i64 (Int.tmod t399 7), .int .i64 x402001_119, .int .i64 0, .bool false, .int .u64 0, (.slice none 0 0)] 39 (0, 0))) ∧ Aside0 (IsS59 w wc g355 t353 x356001_119) ∧ Aside0 (Below w.heap.size w wc))
 case first =>
  have H := HC120.out
  clear HC120
  by_cases c121 : x177_98 = true
  rotate_left
  ·replace c121 := Bool.eq_false_iff.mpr c121
   subst c121
   rw [if_neg (show ¬ (false = true) by decide)] at H
   have H' := Aside0.mk H
   clear H
   go_wp2
   go_meet
   case rel => exact ⟨_, (t400), (0), H', ⟨by have := HK1.out; have := HK2.out; have := HK3.out; have := HJ91.out; have := HJ98.out; first | omega | exact Nat.le_refl _⟩, ⟨bN HO_17.out⟩, ⟨bN HO_357001.out⟩, ⟨bN HO_357002.out⟩, ⟨bN HO_357003.out⟩, ⟨bw BK352.out⟩, ⟨bw BK356.out⟩, ⟨bw BK401.out⟩, ⟨bI HI355.out⟩, ⟨bB⟩⟩
  subst c121
  rw [if_pos rfl] at H
  replace H := Option.bind_eq_some_iff.mp H
  obtain ⟨⟨t402, t403⟩, A1220, H⟩ := H
  (try dsimp only at H)
  have A122 := Aside0.mk A1220
  clear A1220
  have H' := Aside0.mk H
  clear H
  go_wp2_with (first | ((with_reducible refine gate_callee (f := 18) rfl ?_); refine gL (some 180) Tryd.func18 #[.pointer (some ⟨g355, 0, none⟩), .int .i64 (wrap64 (1 + t359))] ?_; (with_reducible refine (treelineref24_At_by.calls g355 t353 t400 (wrap64 (1 + t359)) t402 t403 w _ ?side1 ?side2 A122.out).mono ?_); (case side1 => exact bI HI355.out); (case side2 => exact bB); rintro e w123 ⟨rfl, hi, hb, hk⟩; refine ⟨_, rfl, ?_⟩; replace HO_17 := Aside0.mk (Kd.S_mono (Kd.S_keep (IsS59.apartS (show IsS59 w _ g355 t353 t400 from by exact bI HI355.out) (bN HO_17.out) (by decide)) hk (fun _ h => h.2)) (fun _ h => h.1)); replace HO_357001 := Aside0.mk (Kd.S_mono (Kd.S_keep (IsS59.apartS (show IsS59 w _ g355 t353 t400 from by exact bI HI355.out) (bN HO_357001.out) (by decide)) hk (fun _ h => h.2)) (fun _ h => h.1)); replace HO_357002 := Aside0.mk (Kd.S_mono (Kd.S_keep (IsS59.apartS (show IsS59 w _ g355 t353 t400 from by exact bI HI355.out) (bN HO_357002.out) (by decide)) hk (fun _ h => h.2)) (fun _ h => h.1)); replace HO_357003 := Aside0.mk (Kd.R_mono (Kd.R_keep (IsS59.apart (show IsS59 w _ g355 t353 t400 from by exact bI HI355.out) (bN HO_357003.out) (by decide)) hk (fun _ h => h.2)) (fun _ h => h.1)); replace BK352 := Aside0.mk (KeepBut.blk hk (g' := gb352) (o := .cells #[.int .i64 0, .slice none 0 0, .slice none 0 0, .slice none 0 0] 28 (0, 0)) (bw BK352.out) NB352_355.out (by simp)); replace BK356 := Aside0.mk (KeepBut.blk hk (g' := gb356) (o := .cells #[.int .i64 (wrap64 (1 + t357)), u357001, u357002, u357003] 28 (0, 0)) (bw BK356.out) NB356_355.out (by simp)); replace BK401 := Aside0.mk (KeepBut.blk hk (g' := gb401) (o := .cells #[.int .i64 (Int.tmod t399 7), .int .i64 0, .int .i64 0, .bool false, .int .u64 0, .slice none 0 0] 39 (0, 0)) (bw BK401.out) NB401_355.out (by simp)); replace HB := Aside0.mk (hb); replace HI355 := Aside0.mk (hi); (try clear hb); (try clear hb2); (try clear hk); (try clear hi); have hnb124 := NB401_352.out; have hnc124 := NB352_401.out; have hnb125 := NB401_356.out; have hnc125 := NB356_401.out; have hnb126 := NB401_355.out; have hnc126 := NB355_401.out; obtain ⟨hcz127_0, hcz127_1, hcz127_2, hcz127_3, hcz127_4, hcz127_5⟩ := cZ6 BK401.out; obtain ⟨hfz127_0, hfz127_1, hfz127_2, hfz127_3, hfz127_4, hfz127_5⟩ := fZ6 BK401.out) | (go_at_call 18; (with_reducible refine (treelineref24_At_by.calls g355 t353 t400 (wrap64 (1 + t359)) t402 t403 w _ ?side1 ?side2 A122.out).mono ?_); (case side1 => exact bI HI355.out); (case side2 => exact bB); rintro e w123 ⟨rfl, hi, hb, hk⟩; replace HO_17 := Aside0.mk (Kd.S_mono (Kd.S_keep (IsS59.apartS (show IsS59 w _ g355 t353 t400 from by exact bI HI355.out) (bN HO_17.out) (by decide)) hk (fun _ h => h.2)) (fun _ h => h.1)); replace HO_357001 := Aside0.mk (Kd.S_mono (Kd.S_keep (IsS59.apartS (show IsS59 w _ g355 t353 t400 from by exact bI HI355.out) (bN HO_357001.out) (by decide)) hk (fun _ h => h.2)) (fun _ h => h.1)); replace HO_357002 := Aside0.mk (Kd.S_mono (Kd.S_keep (IsS59.apartS (show IsS59 w _ g355 t353 t400 from by exact bI HI355.out) (bN HO_357002.out) (by decide)) hk (fun _ h => h.2)) (fun _ h => h.1)); replace HO_357003 := Aside0.mk (Kd.R_mono (Kd.R_keep (IsS59.apart (show IsS59 w _ g355 t353 t400 from by exact bI HI355.out) (bN HO_357003.out) (by decide)) hk (fun _ h => h.2)) (fun _ h => h.1)); replace BK352 := Aside0.mk (KeepBut.blk hk (g' := gb352) (o := .cells #[.int .i64 0, .slice none 0 0, .slice none 0 0, .slice none 0 0] 28 (0, 0)) (bw BK352.out) NB352_355.out (by simp)); replace BK356 := Aside0.mk (KeepBut.blk hk (g' := gb356) (o := .cells #[.int .i64 (wrap64 (1 + t357)), u357001, u357002, u357003] 28 (0, 0)) (bw BK356.out) NB356_355.out (by simp)); replace BK401 := Aside0.mk (KeepBut.blk hk (g' := gb401) (o := .cells #[.int .i64 (Int.tmod t399 7), .int .i64 0, .int .i64 0, .bool false, .int .u64 0, .slice none 0 0] 39 (0, 0)) (bw BK401.out) NB401_355.out (by simp)); replace HB := Aside0.mk (hb); replace HI355 := Aside0.mk (hi); (try clear hb); (try clear hb2); (try clear hk); (try clear hi); have hnb124 := NB401_352.out; have hnc124 := NB352_401.out; have hnb125 := NB401_356.out; have hnc125 := NB356_401.out; have hnb126 := NB401_355.out; have hnc126 := NB355_401.out; obtain ⟨hcz127_0, hcz127_1, hcz127_2, hcz127_3, hcz127_4, hcz127_5⟩ := cZ6 BK401.out; obtain ⟨hfz127_0, hfz127_1, hfz127_2, hfz127_3, hfz127_4, hfz127_5⟩ := fZ6 BK401.out))
  go_meet
  case rel => exact ⟨_, (t403), (t402), H', ⟨by have := HK1.out; have := HK2.out; have := HK3.out; have := HJ91.out; have := HJ98.out; first | omega | exact Nat.le_refl _⟩, ⟨by refine bN ?_; exact Kd.S_mono (Kd.S_far (p := ⟨gb401, 1, none⟩) (Kd.S_mono HO_17.out (fun k_ hk => (⟨hk, hk⟩ : _ ∧ k_ ≠ gb401))) (fun _ hk => hk.2) (.int .i64 t402)) (fun _ hk => hk.1)⟩, ⟨by refine bN ?_; exact Kd.S_mono (Kd.S_far (p := ⟨gb401, 1, none⟩) (Kd.S_types HO_357001.out BK401.out (by decide)) (fun _ hk => hk.2) (.int .i64 t402)) (fun _ hk => trivial)⟩, ⟨by refine bN ?_; exact Kd.S_mono (Kd.S_far (p := ⟨gb401, 1, none⟩) (Kd.S_types HO_357002.out BK401.out (by decide)) (fun _ hk => hk.2) (.int .i64 t402)) (fun _ hk => trivial)⟩, ⟨by refine bN ?_; exact Kd.R_mono (Kd.R_far (p := ⟨gb401, 1, none⟩) (Kd.R_types HO_357003.out BK401.out (by decide)) (fun _ hk => hk.2) (.int .i64 t402)) (fun _ hk => trivial)⟩, ⟨bw BK352.out⟩, ⟨bw BK356.out⟩, ⟨by refine bW ?_; refine blk_put (cs := #[.int .i64 (Int.tmod t399 7), .int .i64 0, .int .i64 0, .bool false, .int .u64 0, .slice none 0 0]) ?_ 1 _ rfl; exact bw BK401.out⟩, ⟨bI HI355.out⟩, ⟨bB⟩⟩
 clear HC120
 try clear p2
 try clear p6
 try clear c14b0
 try clear c43b0
 try clear c54b0
 try clear p64
 try clear c84b0
 try clear c93b0
 try clear c106b0
 try clear c106b1
 try clear c111b0
 try clear c111b1
 try clear c121
 try clear p2
 try clear p6
 try clear p64
 obtain ⟨kq, x356001_119, x402001_119, HA, HJ119, HO_17, HO_357001, HO_357002, HO_357003, BK352, BK356, BK401, HI355, HB⟩ := hcut
 cases kq with
 | zero => exact absurd HA.out (by simp [treelineref24_Read.j7])
 | succ kj119 => ?_
 have H := HA.out
 clear HA
 simp only [treelineref24_Read.j7] at H
 have HC128 := Aside0.mk H
 clear H
 have hnb129 := NB401_352.out
 have hnc129 := NB352_401.out
 have hnb130 := NB401_356.out
 have hnc130 := NB356_401.out
 have hnb131 := NB401_355.out
 have hnc131 := NB355_401.out
 obtain ⟨hcz132_0, hcz132_1, hcz132_2, hcz132_3, hcz132_4, hcz132_5⟩ := cZ6 BK401.out
 obtain ⟨hfz132_0, hfz132_1, hfz132_2, hfz132_3, hfz132_4, hfz132_5⟩ := fZ6 BK401.out
 go_upto_if 184 with (fail)
 go_cut [] (fun wc => ∃ (kq : Nat) (x356001_127 : Int) (x402002_127 : Int) (x402003_127 : Bool), Aside0 (treelineref24_Read.j8 kq l0 (wrap64 (1 + t359)) x17_3 t399 t353 x356001_127 (wrap64 (1 + t357)) x357001_1 x357002_1 x357003_2 (Int.tmod t399 7) x402001_119 x402002_127 x402003_127 0 = some (r1, r2, r3, r4, r5)) ∧ Aside0 (kq ≤ kj119) ∧ Aside0 (Kd.S k39 39 wc w.heap.size (fun k_ => k_ ≠ gb401) u17 x17_3) ∧ Aside0 (Kd.S k51 51 wc w.heap.size (fun _ => True) u357001 x357001_1) ∧ Aside0 (Kd.S (Kd.slice 3 (Kd.int .i64)) 64 wc w.heap.size (fun _ => True) u357002 x357002_1) ∧ Aside0 (Kd.R k66 66 wc w.heap.size (fun _ => True) u357003 x357003_2) ∧ Aside0 (wc.heap[gb352]? = some (.cells #[.int .i64 0, (.slice none 0 0), (.slice none 0 0), (.slice none 0 0)] 28 (0, 0))) ∧ Aside0 (wc.heap[gb356]? = some (.cells #[.int .i64 (wrap64 (1 + t357)), u357001, u357002, u357003] 28 (0, 0))) ∧ Aside0 (wc.heap[gb401]? = some (.cells #[.int .i64 (Int.tmod t399 7), .int .i64 x402001_119, .int .i64 x402002_127, .bool x402003_127, .int .u64 0, (.slice none 0 0)] 39 (0, 0))) ∧ Aside0 (IsS59 w wc g355 t353 x356001_127) ∧ Aside0 (Below w.heap.size w wc))
 case first =>
  have H := HC128.out
  clear HC128
  by_cases c133 : (Int.tmod t399 7) = 5
  rotate_left
  ·rw [if_neg c133] at H
   have c133b0 : ((Int.tmod t399 7) == 5) = false := beq_eq_false_iff_ne.mpr c133
   have c133b1 : ((Int.tmod t399 7) != 5) = true := bne_iff_ne.mpr c133
   (first | rw [c133b0] | (simp only [i64_w, i32_w]; rw [c133b0]) | skip)
   have H' := Aside0.mk H
   clear H
   go_wp2
   go_meet
   case rel => exact ⟨_, (x356001_119), (0), (false), H', ⟨by have := HK1.out; have := HK2.out; have := HK3.out; have := HJ91.out; have := HJ98.out; have := HJ119.out; first | omega | exact Nat.le_refl _⟩, ⟨bN HO_17.out⟩, ⟨bN HO_357001.out⟩, ⟨bN HO_357002.out⟩, ⟨bN HO_357003.out⟩, ⟨bw BK352.out⟩, ⟨bw BK356.out⟩, ⟨bw BK401.out⟩, ⟨bI HI355.out⟩, ⟨bB⟩⟩
  rw [if_pos c133] at H
  have c133b0 : ((Int.tmod t399 7) == 5) = true := beq_iff_eq.mpr c133
  have c133b1 : ((Int.tmod t399 7) != 5) = false := bne_eq_false_iff_eq.mpr c133
  clear c133
  (first | rw [c133b0] | (simp only [i64_w, i32_w]; rw [c133b0]) | skip)
  replace H := Option.bind_eq_some_iff.mp H
  obtain ⟨⟨t404, t405⟩, A1340, H⟩ := H
  (try dsimp only at H)
  have A134 := Aside0.mk A1340
  clear A1340
  have H' := Aside0.mk H
  clear H
  go_wp2_with (first | ((with_reducible refine gate_callee (f := 18) rfl ?_); refine gL (some 186) Tryd.func18 #[.pointer (some ⟨g355, 0, none⟩), .int .i64 3] ?_; (with_reducible refine (treelineref24_At_by.calls g355 t353 x356001_119 3 t404 t405 w _ ?side1 ?side2 A134.out).mono ?_); (case side1 => exact bI HI355.out); (case side2 => exact bB); rintro e w135 ⟨rfl, hi, hb, hk⟩; refine ⟨_, rfl, ?_⟩; replace HO_17 := Aside0.mk (Kd.S_mono (Kd.S_keep (IsS59.apartS (show IsS59 w _ g355 t353 x356001_119 from by exact bI HI355.out) (bN HO_17.out) (by decide)) hk (fun _ h => h.2)) (fun _ h => h.1)); replace HO_357001 := Aside0.mk (Kd.S_mono (Kd.S_keep (IsS59.apartS (show IsS59 w _ g355 t353 x356001_119 from by exact bI HI355.out) (bN HO_357001.out) (by decide)) hk (fun _ h => h.2)) (fun _ h => h.1)); replace HO_357002 := Aside0.mk (Kd.S_mono (Kd.S_keep (IsS59.apartS (show IsS59 w _ g355 t353 x356001_119 from by exact bI HI355.out) (bN HO_357002.out) (by decide)) hk (fun _ h => h.2)) (fun _ h => h.1)); replace HO_357003 := Aside0.mk (Kd.R_mono (Kd.R_keep (IsS59.apart (show IsS59 w _ g355 t353 x356001_119 from by exact bI HI355.out) (bN HO_357003.out) (by decide)) hk (fun _ h => h.2)) (fun _ h => h.1)); replace BK352 := Aside0.mk (KeepBut.blk hk (g' := gb352) (o := .cells #[.int .i64 0, .slice none 0 0, .slice none 0 0, .slice none 0 0] 28 (0, 0)) (bw BK352.out) NB352_355.out (by simp)); replace BK356 := Aside0.mk (KeepBut.blk hk (g' := gb356) (o := .cells #[.int .i64 (wrap64 (1 + t357)), u357001, u357002, u357003] 28 (0, 0)) (bw BK356.out) NB356_355.out (by simp)); replace BK401 := Aside0.mk (KeepBut.blk hk (g' := gb401) (o := .cells #[.int .i64 (Int.tmod t399 7), .int .i64 x402001_119, .int .i64 0, .bool false, .int .u64 0, .slice none 0 0] 39 (0, 0)) (bw BK401.out) NB401_355.out (by simp)); replace HB := Aside0.mk (hb); replace HI355 := Aside0.mk (hi); (try clear hb); (try clear hb2); (try clear hk); (try clear hi); have hnb136 := NB401_352.out; have hnc136 := NB352_401.out; have hnb137 := NB401_356.out; have hnc137 := NB356_401.out; have hnb138 := NB401_355.out; have hnc138 := NB355_401.out; obtain ⟨hcz139_0, hcz139_1, hcz139_2, hcz139_3, hcz139_4, hcz139_5⟩ := cZ6 BK401.out; obtain ⟨hfz139_0, hfz139_1, hfz139_2, hfz139_3, hfz139_4, hfz139_5⟩ := fZ6 BK401.out) | (go_at_call 18; (with_reducible refine (treelineref24_At_by.calls g355 t353 x356001_119 3 t404 t405 w _ ?side1 ?side2 A134.out).mono ?_); (case side1 => exact bI HI355.out); (case side2 => exact bB); rintro e w135 ⟨rfl, hi, hb, hk⟩; replace HO_17 := Aside0.mk (Kd.S_mono (Kd.S_keep (IsS59.apartS (show IsS59 w _ g355 t353 x356001_119 from by exact bI HI355.out) (bN HO_17.out) (by decide)) hk (fun _ h => h.2)) (fun _ h => h.1)); replace HO_357001 := Aside0.mk (Kd.S_mono (Kd.S_keep (IsS59.apartS (show IsS59 w _ g355 t353 x356001_119 from by exact bI HI355.out) (bN HO_357001.out) (by decide)) hk (fun _ h => h.2)) (fun _ h => h.1)); replace HO_357002 := Aside0.mk (Kd.S_mono (Kd.S_keep (IsS59.apartS (show IsS59 w _ g355 t353 x356001_119 from by exact bI HI355.out) (bN HO_357002.out) (by decide)) hk (fun _ h => h.2)) (fun _ h => h.1)); replace HO_357003 := Aside0.mk (Kd.R_mono (Kd.R_keep (IsS59.apart (show IsS59 w _ g355 t353 x356001_119 from by exact bI HI355.out) (bN HO_357003.out) (by decide)) hk (fun _ h => h.2)) (fun _ h => h.1)); replace BK352 := Aside0.mk (KeepBut.blk hk (g' := gb352) (o := .cells #[.int .i64 0, .slice none 0 0, .slice none 0 0, .slice none 0 0] 28 (0, 0)) (bw BK352.out) NB352_355.out (by simp)); replace BK356 := Aside0.mk (KeepBut.blk hk (g' := gb356) (o := .cells #[.int .i64 (wrap64 (1 + t357)), u357001, u357002, u357003] 28 (0, 0)) (bw BK356.out) NB356_355.out (by simp)); replace BK401 := Aside0.mk (KeepBut.blk hk (g' := gb401) (o := .cells #[.int .i64 (Int.tmod t399 7), .int .i64 x402001_119, .int .i64 0, .bool false, .int .u64 0, .slice none 0 0] 39 (0, 0)) (bw BK401.out) NB401_355.out (by simp)); replace HB := Aside0.mk (hb); replace HI355 := Aside0.mk (hi); (try clear hb); (try clear hb2); (try clear hk); (try clear hi); have hnb136 := NB401_352.out; have hnc136 := NB352_401.out; have hnb137 := NB401_356.out; have hnc137 := NB356_401.out; have hnb138 := NB401_355.out; have hnc138 := NB355_401.out; obtain ⟨hcz139_0, hcz139_1, hcz139_2, hcz139_3, hcz139_4, hcz139_5⟩ := cZ6 BK401.out; obtain ⟨hfz139_0, hfz139_1, hfz139_2, hfz139_3, hfz139_4, hfz139_5⟩ := fZ6 BK401.out))
  go_meet
  case rel => exact ⟨_, (t405), (t404), (decide (t399 < 128)), H', ⟨by have := HK1.out; have := HK2.out; have := HK3.out; have := HJ91.out; have := HJ98.out; have := HJ119.out; first | omega | exact Nat.le_refl _⟩, ⟨by refine bN ?_; exact Kd.S_mono (Sfar2 (Kd.S_mono HO_17.out (fun k_ hk => (⟨hk, hk⟩ : _ ∧ k_ ≠ gb401))) (fun _ hk => hk.2)) (fun _ hk => hk.1)⟩, ⟨by refine bN ?_; exact Kd.S_mono (Sfar2 (Kd.S_types HO_357001.out BK401.out (by decide)) (fun _ hk => hk.2)) (fun _ hk => trivial)⟩, ⟨by refine bN ?_; exact Kd.S_mono (Sfar2 (Kd.S_types HO_357002.out BK401.out (by decide)) (fun _ hk => hk.2)) (fun _ hk => trivial)⟩, ⟨by refine bN ?_; exact Kd.R_mono (Rfar2 (Kd.R_types HO_357003.out BK401.out (by decide)) (fun _ hk => hk.2)) (fun _ hk => trivial)⟩, ⟨bw BK352.out⟩, ⟨bw BK356.out⟩, ⟨by refine bW ?_; refine blk_put (cs := #[.int .i64 (Int.tmod t399 7), .int .i64 x402001_119, .int .i64 t404, .bool false, .int .u64 0, .slice none 0 0]) ?_ 3 _ rfl; refine bW ?_; refine blk_put (cs := #[.int .i64 (Int.tmod t399 7), .int .i64 x402001_119, .int .i64 0, .bool false, .int .u64 0, .slice none 0 0]) ?_ 2 _ rfl; exact bw BK401.out⟩, ⟨bI HI355.out⟩, ⟨bB⟩⟩
 clear HC128
 try clear p2
 try clear p6
 try clear c14b0
 try clear c43b0
 try clear c54b0
 try clear p64
 try clear c84b0
 try clear c93b0
 try clear c106b0
 try clear c106b1
 try clear c111b0
 try clear c111b1
 try clear c133
 try clear c133b0
 try clear c133b1
 try clear hcz132_0
 try clear hcz132_1
 try clear hcz132_2
 try clear hcz132_3
 try clear hcz132_4
 try clear hcz132_5
 try clear hfz132_0
 try clear hfz132_1
 try clear hfz132_2
 try clear hfz132_3
 try clear hfz132_4
 try clear hfz132_5
 try clear p2
 try clear p6
 try clear p64
 obtain ⟨kq, x356001_127, x402002_127, x402003_127, HA, HJ127, HO_17, HO_357001, HO_357002, HO_357003, BK352, BK356, BK401, HI355, HB⟩ := hcut
 cases kq with
 | zero => exact absurd HA.out (by simp [treelineref24_Read.j8])
 | succ kj127 => ?_
 have H := HA.out
 clear HA
 simp only [treelineref24_Read.j8] at H
 have HC140 := Aside0.mk H
 clear H
 go_upto_region 43 with (fail)
 go_cut [198] (fun v198 wc => ∃ (kq : Nat) (x198_139 : Bool), v198 = .bool x198_139 ∧ Aside0 (treelineref24_Read.j9 kq l0 (wrap64 (1 + t359)) x17_3 t399 x198_139 t353 x356001_127 (wrap64 (1 + t357)) x357001_1 x357002_1 x357003_2 (Int.tmod t399 7) x402001_119 x402002_127 x402003_127 0 = some (r1, r2, r3, r4, r5)) ∧ Aside0 (kq ≤ kj127) ∧ Aside0 (Kd.S k39 39 wc w.heap.size (fun k_ => k_ ≠ gb401) u17 x17_3) ∧ Aside0 (Kd.S k51 51 wc w.heap.size (fun _ => True) u357001 x357001_1) ∧ Aside0 (Kd.S (Kd.slice 3 (Kd.int .i64)) 64 wc w.heap.size (fun _ => True) u357002 x357002_1) ∧ Aside0 (Kd.R k66 66 wc w.heap.size (fun _ => True) u357003 x357003_2) ∧ Aside0 (wc.heap[gb352]? = some (.cells #[.int .i64 0, (.slice none 0 0), (.slice none 0 0), (.slice none 0 0)] 28 (0, 0))) ∧ Aside0 (wc.heap[gb356]? = some (.cells #[.int .i64 (wrap64 (1 + t357)), u357001, u357002, u357003] 28 (0, 0))) ∧ Aside0 (wc.heap[gb401]? = some (.cells #[.int .i64 (Int.tmod t399 7), .int .i64 x402001_119, .int .i64 x402002_127, .bool x402003_127, .int .u64 0, (.slice none 0 0)] 39 (0, 0))) ∧ Aside0 (IsS59 w wc g355 t353 x356001_127) ∧ Aside0 (Below w.heap.size w wc))
 case first =>
  have H := HC140.out
  clear HC140
  by_cases c141 : (Int.tmod t399 7) ≥ 1
  rotate_left
  ·rw [if_neg c141] at H
   have c141b0 : decide (1 ≤ (Int.tmod t399 7)) = false := decide_eq_false c141
   clear c141
   (first | rw [c141b0] | (simp only [i64_w, i32_w]; rw [c141b0]) | skip)
   have H' := Aside0.mk H
   clear H
   have hnb146 := NB401_352.out
   have hnc146 := NB352_401.out
   have hnb147 := NB401_356.out
   have hnc147 := NB356_401.out
   have hnb148 := NB401_355.out
   have hnc148 := NB355_401.out
   obtain ⟨hcz149_0, hcz149_1, hcz149_2, hcz149_3, hcz149_4, hcz149_5⟩ := cZ6 BK401.out
   obtain ⟨hfz149_0, hfz149_1, hfz149_2, hfz149_3, hfz149_4, hfz149_5⟩ := fZ6 BK401.out
   go_wp2
   go_meet
   case rel => exact ⟨_, (false), (by first | rfl | (simp; done) | (simp [*]; done)), H', ⟨by have := HK1.out; have := HK2.out; have := HK3.out; have := HJ91.out; have := HJ98.out; have := HJ119.out; have := HJ127.out; first | omega | exact Nat.le_refl _⟩, ⟨bN HO_17.out⟩, ⟨bN HO_357001.out⟩, ⟨bN HO_357002.out⟩, ⟨bN HO_357003.out⟩, ⟨bw BK352.out⟩, ⟨bw BK356.out⟩, ⟨bw BK401.out⟩, ⟨bI HI355.out⟩, ⟨bB⟩⟩
  rw [if_pos c141] at H
  have c141b0 : decide (1 ≤ (Int.tmod t399 7)) = true := decide_eq_true c141
  clear c141
  (first | rw [c141b0] | (simp only [i64_w, i32_w]; rw [c141b0]) | skip)
  have H' := Aside0.mk H
  clear H
  have hnb142 := NB401_352.out
  have hnc142 := NB352_401.out
  have hnb143 := NB401_356.out
  have hnc143 := NB356_401.out
  have hnb144 := NB401_355.out
  have hnc144 := NB355_401.out
  obtain ⟨hcz145_0, hcz145_1, hcz145_2, hcz145_3, hcz145_4, hcz145_5⟩ := cZ6 BK401.out
  obtain ⟨hfz145_0, hfz145_1, hfz145_2, hfz145_3, hfz145_4, hfz145_5⟩ := fZ6 BK401.out
  go_wp2
  go_meet
  case rel => exact ⟨_, (decide ((Int.tmod t399 7) ≤ 3)), (by first | rfl | (simp; done) | (simp [*]; done)), H', ⟨by have := HK1.out; have := HK2.out; have := HK3.out; have := HJ91.out; have := HJ98.out; have := HJ119.out; have := HJ127.out; first | omega | exact Nat.le_refl _⟩, ⟨bN HO_17.out⟩, ⟨bN HO_357001.out⟩, ⟨bN HO_357002.out⟩, ⟨bN HO_357003.out⟩, ⟨bw BK352.out⟩, ⟨bw BK356.out⟩, ⟨bw BK401.out⟩, ⟨bI HI355.out⟩, ⟨bB⟩⟩
 rename_i zd3_1 zd3_2 zd3_3 zd3_4 zd3_5 zd3_6 zd3_7 zd3_8 zd3_9 _ _ _ _ _ _ _ _ _ _ _ _ _ _ _ _ _ _ _ _ _ _ _ _ _ _ _ _ _ _ _ _ _ _ _ _ _ _ _ _ _ _ _ _ _ _ _ _ _ _ _ _ _ _ _ _ _ _ _ _ _ _ _ _ _ _ _ _ _ _ _ _ _ _ _ _ _ _ _ _ _ _ _ _ _ _ _ _ _ _ _ _ _ _ _ _ _ _ _ _ _ _ _ _ _ _ _ _ _ _ _ _ _ _ _ _ _ _ _ _ _ _ _ _ _ _ _ _ _ _ _ _ zd3_10 zd3_11 zd3_12 zd3_13 zd3_14 zd3_15 zd3_16 zd3_17 zd3_18 _ _ _ _ _ _ _ _ _ _ _ _ _ _ _ _ _ _ _ _ _ _ _ _ _ _ _ _ _ _ _ _ _ _ _ _ _ _ _ _ _ _ _ _ _ _ _ _ _ _ _ _ _ _ _ _ _ _ _ _ _ _ _ _ _ _ _ _ _ _ _ _ _ _ _ _ _ _ _ _ _ _ _ _ _ _ _ _ _ _ _ _ _ _ _ _ _ _ _ _ _ _ _ _ _ _ _ _ _ _ _ _ _ _ _ _ _ _ _ _ _ _ _ _ _ _ _ _ _ _ _ _ _ zd3_19 zd3_20 zd3_21 zd3_22 zd3_23 zd3_24 zd3_25 zd3_26 zd3_27 zc3_1 _ _ _ _ _ _ _ _ _ _ _ _ _ _ _ _ _ _ _ _ _ _ _ _ _ _ _ _ _ _ _ _ _ _ _ _ _ _ _ _ _ _ _ _ _ _ _ _ _ _ _ _ _ _ _ _ _ _ _ _ _ _ _ _ _ _ _ _ _ _ _ _ _ _ _ _ _ _ _ _ _ _ _ _ _ _ _ _ _ _ _ _ _ _ _ _ _ _ _ _ _ _ _ _ _ _ _ _ _ _ _ _ _ _ _ _ _ _ _ _ _ _ _ _ _ _ _ _ _ _ _ _ zc3_2 zc3_3 zc3_4 zc3_5
 clear zd3_1 zd3_2 zd3_3 zd3_4 zd3_5 zd3_6 zd3_7 zd3_8 zd3_9 zd3_10 zd3_11 zd3_12 zd3_13 zd3_14 zd3_15 zd3_16 zd3_17 zd3_18 zd3_19 zd3_20 zd3_21 zd3_22 zd3_23 zd3_24 zd3_25 zd3_26 zd3_27
 revert k A0 c0 l0 r1 r2 r3 r4 r5 w hu28 hu51 hu63 hu66 hu39 hu43 HR0 HC0 t353 t354 A2 t357 t358 A3 t359 t360 A4 zc1_1 gb352 GW352 GE352 g355 NB355_352 NB352_355 gb356 GW356 GE356 NB352_356 NB356_352 NB355_356 NB356_355 hnb8 hnc8 hnb9 hnc9 zc1_2 u8 u9 u10 u11 u12 u13 u14 u40 u41 u42 u43 u44 u45 u46 u47 u48 u49 u50 u51 u52 u53 u54 u55 u56 u57 u58 u59 u60 u61 u62 u63 u64 u65 u66 u67 u68 u69 u70 u71 u72 u73 u74 u75 u76 u77 u78 u79 u80 u81 u82 u83 u84 u85 u86 u87 u88 u89 u90 u91 u92 u93 u94 u95 u96 u97 u98 u99 u100 u101 u102 u103 u104 u105 u106 u107 u108 u109 u110 u111 u112 u113 u114 u115 u116 u117 u118 u119 u120 u121 u122 u123 u124 u125 u126 u127 zc1_3 zc1_4 zc1_5 x7_1 x356001_1 x357001_1 x357002_1 u357001 u357002 k1 zc1_6 HK1 t392 t393 A82 zc1_7 zc1_8 zc1_9 u133 u134 u135 u136 u137 u138 u139 u140 u141 u142 u143 u144 u145 u146 u147 zc1_11 zc1_12 zc1_13 x16_2 x357003_2 u357003 k2 zc1_14 HK2 zc1_15 zc1_16 zc1_17 zc1_18 u17 u20 u21 u22 u23 u24 u25 zc1_19 zc1_20 zc1_21 x17_3 x356001_3 k3 zc1_22 HK3 kj91 HJ91 t399 t400 A98 gb401 GW401 GE401 NB352_401 NB401_352 NB356_401 NB401_356 NB355_401 NB401_355 hnb102 hnc102 hnb103 hnc103 hnb104 hnc104 kj98 HJ98 x402001_119 kj119 HJ119 hnb129 hnc129 hnb130 hnc130 hnb131 hnc131 zc3_1 x356001_127 x402002_127 x402003_127 HO_17 HO_357001 HO_357002 HO_357003 BK352 BK356 BK401 HI355 HB kj127 HJ127 HC140 zc3_2 zc3_3 zc3_4 zc3_5 wc u148 u149 u150 u151 u152 u153 u154 u155 u156 u157 u158 u159 u160 u161 u162 u163 u164 u165 u166 u167 u168 u169 u170 u171 u172 u173 u174 u175 u176 u177 u178 u179 u180 u181 u182 u183 u184 u185 u186 u187 u188 u189 u190 u191 u192 u193 u194 u195 u196 u197 u198 u199 u200 u201 u202 u203 u204 u205 u206 u207 u208 u209 u210 u211 u212 u213 u214 u215 u216 u217 u218 u219 u220 u221 u222 u223 u224 u225 u226 u227 u228 u229 u230 u231 u232 u233 u234 u235 u236 u237 u238 u239 u240 u241 u242 u243 u244 u245 u246 u247 u248 u249 u250 u251 u252 u253 u254 u255 u256 u257 u258 u259 u260 u261 u262 u263 u264 u265 u266 u267 u268 u269 u270 u271 u272 u273 u274 u275 u276 u277 u278 u279 hcut
 exact hPart_.out⟩
end Go.Proofs.YtiikllgppmmiaaaDoor.OScriptReads
