/- The law's switch, walked for no deed and for Get. For ranges as the rounds keep them. -/
import Derived.Laws.Cover3
import Derived.Deep.CutBlock
import Derived.Deep.DeepCutAuto
import Derived.Test.YtbeoillppkcpmaaMarkR
namespace Go.Proofs.Ytbeoillppkcpmaa.Mark
open Go.RowKit Go.Proofs.YtbeoillppkcpmaaW.PrintWords Go.Proofs.YtbeoillppkcpmaaW.PrintLast Go.Proofs.YtbeoillppkcpmaaW.PrintMore Go.Proofs.Ytbeoillppkcpmaa.PMarksPlay
attribute [local go_sem] max2_int min2_int max_two min_two max_three min_three max_four min_four
set_option linter.unusedVariables false
set_option linter.unusedSimpArgs false

theorem eqA42 (k : Nat) (w : World) (x0 y0 : Int) (x1 y1 : Int) (x2 y2 : Bool) (x3 y3 : Bool) (x4 y4 : Int) :
    (Op.equalIn (k + 2) 42 (.agg #[.int .i64 x0, .int .i64 x1, .bool x2, .bool x3, .int .i64 x4]) (.agg #[.int .i64 y0, .int .i64 y1, .bool y2, .bool y3, .int .i64 y4])).run Try.prog w = .ok (x0 == y0 && (x1 == y1 && (x2 == y2 && (x3 == y3 && (x4 == y4))))) w := by
  refine eqA_of Try.underlying42 (by kernel_rfl) ?_
  refine eqf_cons (by rfl) (by go_simp; rfl) (by go_simp; rfl) (by go_simp) ?_
  refine eqf_cons (by rfl) (by go_simp; rfl) (by go_simp; rfl) (by go_simp) ?_
  refine eqf_cons (by rfl) (by go_simp; rfl) (by go_simp; rfl) (by go_simp) ?_
  refine eqf_cons (by rfl) (by go_simp; rfl) (by go_simp; rfl) (by go_simp) ?_
  exact eqf_last (by rfl) (by go_simp; rfl) (by go_simp; rfl) (by go_simp)
attribute [local go_sem high] eqA28 eqA42
def getM.T51 : Bool × List (List Nat × List Nat) := (true, [([], []), ([], []), ([1], [1]), ([0, 2], [0, 2]), ([], []), ([], []), ([4, 5], [4, 5]), ([6], [6]), ([3, 7], [3, 7])])
def getM.B51 : List Nat := [0, 0, 2, 7, 0, 0, 48, 112, 255]
theorem getM.tab51 : rtab .any (opsOf Try.f3 51) = getM.T51 := by kernel_rfl
theorem getM.bits51 : waitsOk getM.T51.2 getM.B51 = true := by kernel_rfl
set_option maxHeartbeats 16000000 in
set_option maxRecDepth 100000 in
theorem arm_none {W : World} {g i q : Nat} {u0 u1 u2 u6 u9 u10 u11 u12 u13 u14 u15 u16 u17 u18 u19 u20 u21 u22 u23 u24 u25 u26 u27 u28 u29 u30 u31 u32 u33 u34 u35 u36 u37 u38 u39 u40 u41 u42 u43 u44 u45 u46 u47 u48 u49 u50 u51 u52 u53 u54 u55 u56 u57 u58 u59 u60 u61 u63 u64 u65 u66 u67 u68 u69 u70 u71 u72 u73 u74 u75 u76 u77 u78 u79 u80 u81 u82 u83 u84 u85 u86 u87 u88 u89 u90 u91 u92 u93 u94 u95 u96 u97 u98 u99 u100 u101 u102 u103 u104 u105 u106 u107 u108 u109 u110 u111 u112 u113 u114 u115 u116 u117 u118 u119 u120 u121 u122 u123 u124 u125 u126 u127 u128 u129 u130 u131 u132 u133 u134 u135 u136 u137 u138 u139 u140 u141 u142 u143 u144 u145 u146 u147 u148 u149 u150 u151 u152 u153 u154 u155 u156 u157 u158 u159 u160 u161 u162 u163 u164 u165 u166 u167 u168 u169 u170 u171 u172 u173 u174 u175 u176 u177 u178 u179 u180 u181 u182 u183 u184 u185 u186 u187 u188 u189 u190 u191 u192 u193 u194 u195 u196 u197 u198 u199 u200 u201 u202 u203 u204 u205 u206 u207 u208 u209 u210 u211 u212 u213 u214 u215 u216 u217 u218 u219 u220 u221 u222 u223 u224 u225 u226 u227 u228 u229 u230 u231 u232 u233 u234 u235 u236 u237 u238 u239 u240 u241 u242 u243 u244 u245 u246 u247 u248 u249 u250 u251 u252 u253 u254 u255 u256 u257 u258 u259 u260 u261 u262 u263 u264 u265 u266 u267 u268 u269 u270 u271 u272 u273 u274 u275 u276 u277 u278 u279 u280 u281 u282 u283 u284 u285 u286 u287 u288 u289 u290 u291 u292 u293 u294 u295 u296 u297 u298 u299 u300 u301 u302 u303 u304 u305 u306 u307 u308 u309 u310 u311 u312 u313 u314 u315 u316 u317 u318 u319 u320 u321 u322 u323 u324 u325 u326 u327 u328 u329 u330 u331 u332 u333 u334 u335 u336 u337 u338 u339 u340 u341 u342 u343 u344 u345 u346 u347 u348 u349 u350 u351 u352 u353 u354 u355 u356 u357 u358 u359 u360 u361 u362 u363 u364 u365 u366 u367 u368 u369 u370 : Value} {ms : List S64} {last : Int} {v : Value} {x1 x2 x3 : Int} {x4 x5 : Bool} {x6 x7 : Int} {xl : List Int} {A3 A4 : Option Addr} {c3 c4 p : Nat} {w2 : World} {x0 : Int} (q0 : (x0 == 0) = false) (q1 : (x0 == 1) = false) (q2 : (x0 == 2) = false) (q3 : (x0 == 3) = false) (q4 : (x0 == 4) = false) (q5 : (x0 == 5) = false) (q6 : (x0 == 6) = false) {K : Act → World → Prop} {Q' : Exit → Act → World → Prop}
    (HG2 : Aside0 (MarksAt W.heap.size w2 g v ms last)) (HO2 : Aside0 (Ro w2 W.heap.size (.slice A4 ms.length c4) ms)) (HGD : Aside0 (Good ms last i)) (HB2 : Aside0 (Below W.heap.size W w2)) (HZ2 : Aside0 (w2.heap[q]? = some (.cells #[.int .i64 x0, .int .i64 x1, .int .i64 x2, .int .i64 x3, .bool x4, .bool x5, .int .i64 x6, .int .i64 x7, .slice A3 xl.length c3] 35))) (L3 : Aside0 (xl.length ≤ c3)) (R2 : Aside0 (Kd.C (Kd.int .i32) W A3 xl.length xl)) (HXL : Aside0 (xl.length ≤ 300)) (HI : Aside0 (i ≤ 100)) (HP : Aside0 (Low ms x1 p))
    (hQ : ∀ c a N u w, Q' (.panic c) (Act.put a N u) w → Q' (.panic c) a w) (hK : ∀ a' w', SwR W g i u0 u1 u6 u28 u29 u30 u31 u32 u33 u34 u35 u36 u37 u38 u39 u40 u370 a' w' → K a' w') :
    Code.wp Try.prog swC (Exit.then K Q') ({ tmps := List.toArray (u0 :: u1 :: u2 :: Value.pointer (some ⟨g, 0, none⟩) :: Value.slice A4 ms.length c4 :: Value.int .i64 last :: u6 :: Value.pointer (some ⟨q, 0, none⟩) :: Value.int .i64 (atF ms x1 p) :: u9 :: u10 :: u11 :: u12 :: u13 :: u14 :: u15 :: u16 :: u17 :: u18 :: u19 :: u20 :: u21 :: u22 :: u23 :: u24 :: u25 :: u26 :: u27 :: u28 :: u29 :: u30 :: u31 :: u32 :: u33 :: u34 :: u35 :: u36 :: u37 :: u38 :: u39 :: u40 :: u41 :: u42 :: u43 :: u44 :: u45 :: u46 :: u47 :: u48 :: u49 :: u50 :: u51 :: u52 :: u53 :: u54 :: u55 :: u56 :: u57 :: u58 :: u59 :: u60 :: u61 :: Value.int .i64 x0 :: u63 :: u64 :: u65 :: u66 :: u67 :: u68 :: u69 :: u70 :: u71 :: u72 :: u73 :: u74 :: u75 :: u76 :: u77 :: u78 :: u79 :: u80 :: u81 :: u82 :: u83 :: u84 :: u85 :: u86 :: u87 :: u88 :: u89 :: u90 :: u91 :: u92 :: u93 :: u94 :: u95 :: u96 :: u97 :: u98 :: u99 :: u100 :: u101 :: u102 :: u103 :: u104 :: u105 :: u106 :: u107 :: u108 :: u109 :: u110 :: u111 :: u112 :: u113 :: u114 :: u115 :: u116 :: u117 :: u118 :: u119 :: u120 :: u121 :: u122 :: u123 :: u124 :: u125 :: u126 :: u127 :: u128 :: u129 :: u130 :: u131 :: u132 :: u133 :: u134 :: u135 :: u136 :: u137 :: u138 :: u139 :: u140 :: u141 :: u142 :: u143 :: u144 :: u145 :: u146 :: u147 :: u148 :: u149 :: u150 :: u151 :: u152 :: u153 :: u154 :: u155 :: u156 :: u157 :: u158 :: u159 :: u160 :: u161 :: u162 :: u163 :: u164 :: u165 :: u166 :: u167 :: u168 :: u169 :: u170 :: u171 :: u172 :: u173 :: u174 :: u175 :: u176 :: u177 :: u178 :: u179 :: u180 :: u181 :: u182 :: u183 :: u184 :: u185 :: u186 :: u187 :: u188 :: u189 :: u190 :: u191 :: u192 :: u193 :: u194 :: u195 :: u196 :: u197 :: u198 :: u199 :: u200 :: u201 :: u202 :: u203 :: u204 :: u205 :: u206 :: u207 :: u208 :: u209 :: u210 :: u211 :: u212 :: u213 :: u214 :: u215 :: u216 :: u217 :: u218 :: u219 :: u220 :: u221 :: u222 :: u223 :: u224 :: u225 :: u226 :: u227 :: u228 :: u229 :: u230 :: u231 :: u232 :: u233 :: u234 :: u235 :: u236 :: u237 :: u238 :: u239 :: u240 :: u241 :: u242 :: u243 :: u244 :: u245 :: u246 :: u247 :: u248 :: u249 :: u250 :: u251 :: u252 :: u253 :: u254 :: u255 :: u256 :: u257 :: u258 :: u259 :: u260 :: u261 :: u262 :: u263 :: u264 :: u265 :: u266 :: u267 :: u268 :: u269 :: u270 :: u271 :: u272 :: u273 :: u274 :: u275 :: u276 :: u277 :: u278 :: u279 :: u280 :: u281 :: u282 :: u283 :: u284 :: u285 :: u286 :: u287 :: u288 :: u289 :: u290 :: u291 :: u292 :: u293 :: u294 :: u295 :: u296 :: u297 :: u298 :: u299 :: u300 :: u301 :: u302 :: u303 :: u304 :: u305 :: u306 :: u307 :: u308 :: u309 :: u310 :: u311 :: u312 :: u313 :: u314 :: u315 :: u316 :: u317 :: u318 :: u319 :: u320 :: u321 :: u322 :: u323 :: u324 :: u325 :: u326 :: u327 :: u328 :: u329 :: u330 :: u331 :: u332 :: u333 :: u334 :: u335 :: u336 :: u337 :: u338 :: u339 :: u340 :: u341 :: u342 :: u343 :: u344 :: u345 :: u346 :: u347 :: u348 :: u349 :: u350 :: u351 :: u352 :: u353 :: u354 :: u355 :: u356 :: u357 :: u358 :: u359 :: u360 :: u361 :: u362 :: u363 :: u364 :: u365 :: u366 :: u367 :: u368 :: u369 :: u370 :: []), defers := [] } : Act) w2 := by
  have hfew := HGD.out.few
  have hC4 := HO2.out
  obtain ⟨_, _, he4, hc4, hr4⟩ := Ro.open_ hC4
  injection he4 with e1 e2 e3
  subst e1
  subst e3
  have HC4 := Aside0.mk hc4
  have HR4 := Aside0.mk hr4
  clear hC4 hc4 hr4 e2
  conv => arg 2; whnf

  go_wp2_with fail
  exact SwR.mk ms last v rfl HG2 HO2 ⟨HGD.out.next⟩ HB2
set_option maxHeartbeats 16000000 in
set_option maxRecDepth 100000 in
theorem arm_get {W : World} {g i q : Nat} {u0 u1 u2 u6 u9 u10 u11 u12 u13 u14 u15 u16 u17 u18 u19 u20 u21 u22 u23 u24 u25 u26 u27 u28 u29 u30 u31 u32 u33 u34 u35 u36 u37 u38 u39 u40 u41 u42 u43 u44 u45 u46 u47 u48 u49 u50 u51 u52 u53 u54 u55 u56 u57 u58 u59 u60 u61 u63 u64 u65 u66 u67 u68 u69 u70 u71 u72 u73 u74 u75 u76 u77 u78 u79 u80 u81 u82 u83 u84 u85 u86 u87 u88 u89 u90 u91 u92 u93 u94 u95 u96 u97 u98 u99 u100 u101 u102 u103 u104 u105 u106 u107 u108 u109 u110 u111 u112 u113 u114 u115 u116 u117 u118 u119 u120 u121 u122 u123 u124 u125 u126 u127 u128 u129 u130 u131 u132 u133 u134 u135 u136 u137 u138 u139 u140 u141 u142 u143 u144 u145 u146 u147 u148 u149 u150 u151 u152 u153 u154 u155 u156 u157 u158 u159 u160 u161 u162 u163 u164 u165 u166 u167 u168 u169 u170 u171 u172 u173 u174 u175 u176 u177 u178 u179 u180 u181 u182 u183 u184 u185 u186 u187 u188 u189 u190 u191 u192 u193 u194 u195 u196 u197 u198 u199 u200 u201 u202 u203 u204 u205 u206 u207 u208 u209 u210 u211 u212 u213 u214 u215 u216 u217 u218 u219 u220 u221 u222 u223 u224 u225 u226 u227 u228 u229 u230 u231 u232 u233 u234 u235 u236 u237 u238 u239 u240 u241 u242 u243 u244 u245 u246 u247 u248 u249 u250 u251 u252 u253 u254 u255 u256 u257 u258 u259 u260 u261 u262 u263 u264 u265 u266 u267 u268 u269 u270 u271 u272 u273 u274 u275 u276 u277 u278 u279 u280 u281 u282 u283 u284 u285 u286 u287 u288 u289 u290 u291 u292 u293 u294 u295 u296 u297 u298 u299 u300 u301 u302 u303 u304 u305 u306 u307 u308 u309 u310 u311 u312 u313 u314 u315 u316 u317 u318 u319 u320 u321 u322 u323 u324 u325 u326 u327 u328 u329 u330 u331 u332 u333 u334 u335 u336 u337 u338 u339 u340 u341 u342 u343 u344 u345 u346 u347 u348 u349 u350 u351 u352 u353 u354 u355 u356 u357 u358 u359 u360 u361 u362 u363 u364 u365 u366 u367 u368 u369 u370 : Value} {ms : List S64} {last : Int} {v : Value} {x1 x2 x3 : Int} {x4 x5 : Bool} {x6 x7 : Int} {xl : List Int} {A3 A4 : Option Addr} {c3 c4 p : Nat} {w2 : World} {K : Act → World → Prop} {Q' : Exit → Act → World → Prop}
    (HG2 : Aside0 (MarksAt W.heap.size w2 g v ms last)) (HO2 : Aside0 (Ro w2 W.heap.size (.slice A4 ms.length c4) ms)) (HGD : Aside0 (Good ms last i)) (HB2 : Aside0 (Below W.heap.size W w2)) (HZ2 : Aside0 (w2.heap[q]? = some (.cells #[.int .i64 3, .int .i64 x1, .int .i64 x2, .int .i64 x3, .bool x4, .bool x5, .int .i64 x6, .int .i64 x7, .slice A3 xl.length c3] 35))) (L3 : Aside0 (xl.length ≤ c3)) (R2 : Aside0 (Kd.C (Kd.int .i32) W A3 xl.length xl)) (HXL : Aside0 (xl.length ≤ 300)) (HI : Aside0 (i ≤ 100)) (HP : Aside0 (Low ms x1 p))
    (hQ : ∀ c a N u w, Q' (.panic c) (Act.put a N u) w → Q' (.panic c) a w) (hK : ∀ a' w', SwR W g i u0 u1 u6 u28 u29 u30 u31 u32 u33 u34 u35 u36 u37 u38 u39 u40 u370 a' w' → K a' w') :
    Code.wp Try.prog swC (Exit.then K Q') ({ tmps := List.toArray (u0 :: u1 :: u2 :: Value.pointer (some ⟨g, 0, none⟩) :: Value.slice A4 ms.length c4 :: Value.int .i64 last :: u6 :: Value.pointer (some ⟨q, 0, none⟩) :: Value.int .i64 (atF ms x1 p) :: u9 :: u10 :: u11 :: u12 :: u13 :: u14 :: u15 :: u16 :: u17 :: u18 :: u19 :: u20 :: u21 :: u22 :: u23 :: u24 :: u25 :: u26 :: u27 :: u28 :: u29 :: u30 :: u31 :: u32 :: u33 :: u34 :: u35 :: u36 :: u37 :: u38 :: u39 :: u40 :: u41 :: u42 :: u43 :: u44 :: u45 :: u46 :: u47 :: u48 :: u49 :: u50 :: u51 :: u52 :: u53 :: u54 :: u55 :: u56 :: u57 :: u58 :: u59 :: u60 :: u61 :: Value.int .i64 3 :: u63 :: u64 :: u65 :: u66 :: u67 :: u68 :: u69 :: u70 :: u71 :: u72 :: u73 :: u74 :: u75 :: u76 :: u77 :: u78 :: u79 :: u80 :: u81 :: u82 :: u83 :: u84 :: u85 :: u86 :: u87 :: u88 :: u89 :: u90 :: u91 :: u92 :: u93 :: u94 :: u95 :: u96 :: u97 :: u98 :: u99 :: u100 :: u101 :: u102 :: u103 :: u104 :: u105 :: u106 :: u107 :: u108 :: u109 :: u110 :: u111 :: u112 :: u113 :: u114 :: u115 :: u116 :: u117 :: u118 :: u119 :: u120 :: u121 :: u122 :: u123 :: u124 :: u125 :: u126 :: u127 :: u128 :: u129 :: u130 :: u131 :: u132 :: u133 :: u134 :: u135 :: u136 :: u137 :: u138 :: u139 :: u140 :: u141 :: u142 :: u143 :: u144 :: u145 :: u146 :: u147 :: u148 :: u149 :: u150 :: u151 :: u152 :: u153 :: u154 :: u155 :: u156 :: u157 :: u158 :: u159 :: u160 :: u161 :: u162 :: u163 :: u164 :: u165 :: u166 :: u167 :: u168 :: u169 :: u170 :: u171 :: u172 :: u173 :: u174 :: u175 :: u176 :: u177 :: u178 :: u179 :: u180 :: u181 :: u182 :: u183 :: u184 :: u185 :: u186 :: u187 :: u188 :: u189 :: u190 :: u191 :: u192 :: u193 :: u194 :: u195 :: u196 :: u197 :: u198 :: u199 :: u200 :: u201 :: u202 :: u203 :: u204 :: u205 :: u206 :: u207 :: u208 :: u209 :: u210 :: u211 :: u212 :: u213 :: u214 :: u215 :: u216 :: u217 :: u218 :: u219 :: u220 :: u221 :: u222 :: u223 :: u224 :: u225 :: u226 :: u227 :: u228 :: u229 :: u230 :: u231 :: u232 :: u233 :: u234 :: u235 :: u236 :: u237 :: u238 :: u239 :: u240 :: u241 :: u242 :: u243 :: u244 :: u245 :: u246 :: u247 :: u248 :: u249 :: u250 :: u251 :: u252 :: u253 :: u254 :: u255 :: u256 :: u257 :: u258 :: u259 :: u260 :: u261 :: u262 :: u263 :: u264 :: u265 :: u266 :: u267 :: u268 :: u269 :: u270 :: u271 :: u272 :: u273 :: u274 :: u275 :: u276 :: u277 :: u278 :: u279 :: u280 :: u281 :: u282 :: u283 :: u284 :: u285 :: u286 :: u287 :: u288 :: u289 :: u290 :: u291 :: u292 :: u293 :: u294 :: u295 :: u296 :: u297 :: u298 :: u299 :: u300 :: u301 :: u302 :: u303 :: u304 :: u305 :: u306 :: u307 :: u308 :: u309 :: u310 :: u311 :: u312 :: u313 :: u314 :: u315 :: u316 :: u317 :: u318 :: u319 :: u320 :: u321 :: u322 :: u323 :: u324 :: u325 :: u326 :: u327 :: u328 :: u329 :: u330 :: u331 :: u332 :: u333 :: u334 :: u335 :: u336 :: u337 :: u338 :: u339 :: u340 :: u341 :: u342 :: u343 :: u344 :: u345 :: u346 :: u347 :: u348 :: u349 :: u350 :: u351 :: u352 :: u353 :: u354 :: u355 :: u356 :: u357 :: u358 :: u359 :: u360 :: u361 :: u362 :: u363 :: u364 :: u365 :: u366 :: u367 :: u368 :: u369 :: u370 :: []), defers := [] } : Act) w2 := by
  have hfew := HGD.out.few
  have hC4 := HO2.out
  obtain ⟨_, _, he4, hc4, hr4⟩ := Ro.open_ hC4
  injection he4 with e1 e2 e3
  subst e1
  subst e3
  have HC4 := Aside0.mk hc4
  have HR4 := Aside0.mk hr4
  clear hC4 hc4 hr4 e2
  conv => arg 2; whnf

  have z0 := (blk_cell HZ2.out 0).trans rfl
  have z1 := (blk_cell HZ2.out 1).trans rfl
  go_wp2_with fail
  refine (get_calls W.heap.size g v ms last x1 _ HG2.out (by omega) HGD.out.rise).mono ?_
  rintro e w3 ⟨i', hlow, hb3, hq⟩
  obtain rfl := low_one HP.out hlow
  have HB3 := Aside0.mk (below_then HB2.out HB2.out.size hb3)
  have HG3 := Aside0.mk (HG2.out.below hb3)
  have HO3 : Aside0 (Ro w3 W.heap.size (.slice A4 ms.length c4) ms) := ⟨Kd.R_below HO2.out hb3⟩
  have HR3 := Aside0.mk (Kd.C_below HR4.out hb3)
  have HZ3 := Aside0.mk (blk_below HZ2.out hb3)
  clear hb3 hlow z0 z1

  rcases hq with ⟨hh, rfl⟩ | ⟨hh, a, b, c, d, hx, rfl⟩
  · have hat : atF ms x1 p = -1 := by unfold atF; rw [hh]; rfl
    have HAN : Aside0 (Below w3.heap.size w3 (w3.alloc (.cells #[.int .i64 0, .int .i64 0, .bool false, .bool false] 30))) := ⟨below_alloc (Below.refl _ _) _⟩
    clear hh
    rw [hat]
    go_wp2_with fail
    exact SwR.mk ms last v rfl ⟨HG3.out.below HAN.out⟩ ⟨Kd.R_below HO3.out HAN.out⟩ ⟨HGD.out.next⟩ ⟨below_then HB3.out HB3.out.size HAN.out⟩
  · have hat : atF ms x1 p = (p : Int) := by unfold atF; rw [if_pos hh]
    have hpl : p < ms.length := (of_decide_eq_true hh).1
    have hid : idAt ms p = x1 := (of_decide_eq_true hh).2
    obtain ⟨ad, hA4, y0, y1, y2, y3, y4⟩ := at_T42 HR3.out (p : Int) (by omega) (by omega)
    subst hA4
    rw [Int.toNat_natCast] at y0 y1 y2 y3 y4
    rw [rd_map ms p hpl, hx] at y0 y1 y2 y3 y4
    simp only [toR, hid] at y0 y1 y2 y3 y4
    have HAN : Aside0 (Below w3.heap.size w3 (w3.alloc (.cells #[.int .i64 a, .int .i64 b, .bool c, .bool d] 30))) := ⟨below_alloc (Below.refl _ _) _⟩
    have XN : Aside0 ((w3.alloc (.cells #[.int .i64 a, .int .i64 b, .bool c, .bool d] 30)).heap[w3.heap.size]? = some (.cells #[.int .i64 a, .int .i64 b, .bool c, .bool d] 30)) := ⟨blk_new w3 _⟩
    have HZ4 := Aside0.mk (blk_below HZ3.out HAN.out)
    have HG4 := Aside0.mk (HG3.out.below HAN.out)
    have HO4 : Aside0 (Ro (w3.alloc (.cells #[.int .i64 a, .int .i64 b, .bool c, .bool d] 30)) W.heap.size (.slice (some ad) ms.length c4) ms) := ⟨Kd.R_below HO3.out HAN.out⟩
    have HBN := Aside0.mk (below_then HB3.out HB3.out.size HAN.out)
    have Y0 : Aside0 ((w3.alloc (.cells #[.int .i64 a, .int .i64 b, .bool c, .bool d] 30)).drew.cell? (ad.add (p * 5)) = some (.int .i64 a)) := ⟨pw_cell_below HAN.out.drew y0⟩
    have Y1 : Aside0 ((w3.alloc (.cells #[.int .i64 a, .int .i64 b, .bool c, .bool d] 30)).drew.cell? ⟨(ad.add (p * 5)).block, (ad.add (p * 5)).off + 1, none⟩ = some (.int .i64 b)) := ⟨pw_cell_below HAN.out.drew y1⟩
    have Y2 : Aside0 ((w3.alloc (.cells #[.int .i64 a, .int .i64 b, .bool c, .bool d] 30)).drew.cell? ⟨(ad.add (p * 5)).block, (ad.add (p * 5)).off + 2, none⟩ = some (.bool c)) := ⟨pw_cell_below HAN.out.drew y2⟩
    have Y3 : Aside0 ((w3.alloc (.cells #[.int .i64 a, .int .i64 b, .bool c, .bool d] 30)).drew.cell? ⟨(ad.add (p * 5)).block, (ad.add (p * 5)).off + 3, none⟩ = some (.bool d)) := ⟨pw_cell_below HAN.out.drew y3⟩
    have Y4 : Aside0 ((w3.alloc (.cells #[.int .i64 a, .int .i64 b, .bool c, .bool d] 30)).drew.cell? ⟨(ad.add (p * 5)).block, (ad.add (p * 5)).off + 4, none⟩ = some (.int .i64 x1)) := ⟨pw_cell_below HAN.out.drew y4⟩
    clear hh hx hid y0 y1 y2 y3 y4
    rw [hat]
    go_wp2_with fail
    refine start_ (n := 9) (S := fun w' => w'.cell? ⟨w3.heap.size, 0, none⟩ = some (.int .i64 a) ∧ w'.cell? ⟨w3.heap.size, 1, none⟩ = some (.int .i64 b) ∧ w'.cell? ⟨w3.heap.size, 2, none⟩ = some (.bool c) ∧ w'.cell? ⟨w3.heap.size, 3, none⟩ = some (.bool d) ∧ w'.cell? ⟨q, 1, none⟩ = some (.int .i64 x1) ∧ w'.cell? (ad.add (p * 5)) = some (.int .i64 a) ∧ w'.cell? ⟨(ad.add (p * 5)).block, (ad.add (p * 5)).off + 1, none⟩ = some (.int .i64 b) ∧ w'.cell? ⟨(ad.add (p * 5)).block, (ad.add (p * 5)).off + 2, none⟩ = some (.bool c) ∧ w'.cell? ⟨(ad.add (p * 5)).block, (ad.add (p * 5)).off + 3, none⟩ = some (.bool d) ∧ w'.cell? ⟨(ad.add (p * 5)).block, (ad.add (p * 5)).off + 4, none⟩ = some (.int .i64 x1)) (ds := []) #[false, false, false, false, false, false, false, false, false] (by kernel_rfl) rfl rfl ⟨(blk_cell (blk_drew XN.out) 0).trans rfl, (blk_cell (blk_drew XN.out) 1).trans rfl, (blk_cell (blk_drew XN.out) 2).trans rfl, (blk_cell (blk_drew XN.out) 3).trans rfl, (blk_cell (blk_drew HZ4.out) 1).trans rfl, Y0.out, Y1.out, Y2.out, Y3.out, Y4.out⟩ (fun hHeld => ?_); refine with_tabW getM.tab51 getM.bits51 (fun HT_ HW_ => ?_)
    refine take_ (i := 0) (N := some 218) (v := ?_) (a' := ?_) #[true, false, false, false, false, false, false, false, false] rfl rfl (take_ofW HT_.out HW_.out (by kernel_rfl)) (fun _ _ _ h => hQ _ _ _ _ _ h) (Or.inl ⟨by rfl, ?_⟩) hHeld ?_ ?_
    rotate_left
    · rintro w' ⟨s0, s1, s2, s3, s4, s5, s6, s7, s8, s9⟩
      go_simp
      with_reducible rfl
    rotate_left
    · simp only [Act.put, List.setIfInBounds_toArray, List.set_cons_zero, List.set_cons_succ, i64_w, i32_w]
      rfl
    refine pure_ (i := 1) (N := some 219) (v := ?_) (a' := ?_) #[true, true, false, false, false, false, false, false, false] rfl rfl (any_of HT_.out (by kernel_rfl)) (fun _ _ _ h => hQ _ _ _ _ _ h) (Or.inl ⟨by rfl, ?_⟩) ?_ ?_
    rotate_left
    · intro w'
      go_simp
      with_reducible rfl
    rotate_left
    · simp only [Act.put, List.setIfInBounds_toArray, List.set_cons_zero, List.set_cons_succ, i64_w, i32_w]
      rfl
    refine take_ (i := 2) (N := some 220) (v := ?_) (a' := ?_) #[true, true, true, false, false, false, false, false, false] rfl rfl (take_ofW HT_.out HW_.out (by kernel_rfl)) (fun _ _ _ h => hQ _ _ _ _ _ h) (Or.inl ⟨by rfl, ?_⟩) hHeld ?_ ?_
    rotate_left
    · rintro w' ⟨s0, s1, s2, s3, s4, s5, s6, s7, s8, s9⟩
      go_simp
      with_reducible rfl
    rotate_left
    · simp only [Act.put, List.setIfInBounds_toArray, List.set_cons_zero, List.set_cons_succ, i64_w, i32_w]
      rfl
    refine pure_ (i := 4) (N := some 222) (v := ?_) (a' := ?_) #[true, true, true, false, true, false, false, false, false] rfl rfl (any_of HT_.out (by kernel_rfl)) (fun _ _ _ h => hQ _ _ _ _ _ h) (Or.inl ⟨by rfl, ?_⟩) ?_ ?_
    rotate_left
    · intro w'
      go_simp
      with_reducible rfl
    rotate_left
    · simp only [Act.put, List.setIfInBounds_toArray, List.set_cons_zero, List.set_cons_succ, i64_w, i32_w]
      rfl
    refine pure_ (i := 5) (N := some 223) (v := ?_) (a' := ?_) #[true, true, true, false, true, true, false, false, false] rfl rfl (any_of HT_.out (by kernel_rfl)) (fun _ _ _ h => hQ _ _ _ _ _ h) (Or.inl ⟨by rfl, ?_⟩) ?_ ?_
    rotate_left
    · intro w'
      go_simp
      with_reducible rfl
    rotate_left
    · simp only [Act.put, List.setIfInBounds_toArray, List.set_cons_zero, List.set_cons_succ, i64_w, i32_w]
      rfl
    refine pure_ (i := 6) (N := some 224) (v := ?_) (a' := ?_) #[true, true, true, false, true, true, true, false, false] rfl rfl (any_of HT_.out (by kernel_rfl)) (fun _ _ _ h => hQ _ _ _ _ _ h) (Or.inl ⟨by rfl, ?_⟩) ?_ ?_
    rotate_left
    · intro w'
      go_simp
      with_reducible rfl
    rotate_left
    · simp only [Act.put, List.setIfInBounds_toArray, List.set_cons_zero, List.set_cons_succ, i64_w, i32_w]
      rfl
    refine take_ (i := 7) (N := some 225) (v := ?_) (a' := ?_) #[true, true, true, false, true, true, true, true, false] rfl rfl (take_ofW HT_.out HW_.out (by kernel_rfl)) (fun _ _ _ h => hQ _ _ _ _ _ h) (Or.inl ⟨by rfl, ?_⟩) hHeld ?_ ?_
    rotate_left
    · rintro w' ⟨s0, s1, s2, s3, s4, s5, s6, s7, s8, s9⟩
      go_simp
      with_reducible rfl
    rotate_left
    · simp only [Act.put, List.setIfInBounds_toArray, List.set_cons_zero, List.set_cons_succ, i64_w, i32_w]
      rfl
    refine one_ (i := 3) (N := some 221) #[true, true, true, true, true, true, true, true, false] rfl rfl (one_of HT_.out (by kernel_rfl)) (by decide) (fun K hK => ?_)
    refine goes_ Try.func9 (by kernel_rfl) rfl #[.agg #[.int .i64 a, .int .i64 b, .bool c, .bool d], .int .i64 x1] (by rfl) rfl rfl (by (try simp only [List.map_toArray, List.map_cons, List.map_nil]); first | done | rfl) ?_
    refine (styluslaw04_as.calls a b c d x1 a b c d x1 _ rfl).mono ?_
    rintro e w5 ⟨rfl, hb5⟩
    have HB5 := Aside0.mk (below_then HBN.out.drew HBN.out.size hb5)
    have HG5 := Aside0.mk ((HG4.out.below (Below.refl _ _).drew).below hb5)
    have HO5 : Aside0 (Ro w5 W.heap.size (.slice (some ad) ms.length c4) ms) := ⟨Kd.R_below (Kd.R_drew HO4.out) hb5⟩
    refine ⟨_, rfl, ?_⟩
    refine hK.out _ _ ⟨(blk_cell (blk_below (blk_drew XN.out) hb5) 0).trans rfl, (blk_cell (blk_below (blk_drew XN.out) hb5) 1).trans rfl, (blk_cell (blk_below (blk_drew XN.out) hb5) 2).trans rfl, (blk_cell (blk_below (blk_drew XN.out) hb5) 3).trans rfl, (blk_cell (blk_below (blk_drew HZ4.out) hb5) 1).trans rfl, pw_cell_below hb5 Y0.out, pw_cell_below hb5 Y1.out, pw_cell_below hb5 Y2.out, pw_cell_below hb5 Y3.out, pw_cell_below hb5 Y4.out⟩ (fun hHeld => ?_)
    clear hb5
    clear hK K
    refine norm_ (a' := ?_) ?_ ?_
    rotate_left
    · show Act.put _ (some 221) _ = _
      simp only [Act.put, List.setIfInBounds_toArray, List.set_cons_zero, List.set_cons_succ, i64_w, i32_w]
      rfl
    refine pure_ (i := 8) (N := some 226) (v := .bool false) (a' := ?pagetM_8_1) #[true, true, true, true, true, true, true, true, true] rfl rfl (any_of HT_.out (by kernel_rfl)) (fun _ _ _ h => hQ _ _ _ _ _ h) (Or.inl ⟨by rfl, ?pygetM_8_1⟩) ?pegetM_8_1 ?prgetM_8_1
    case pegetM_8_1 =>
      simp only [Act.put, List.setIfInBounds_toArray, List.set_cons_zero, List.set_cons_succ, i64_w, i32_w]
      rfl
    case pygetM_8_1 =>
      intro w'
      go_simp
    refine done_ (done_of HT_.out (by kernel_rfl)) ?_
    skip
    go_wp2_with fail
    exact SwR.mk ms last v rfl HG5 HO5 ⟨HGD.out.next⟩ HB5
end Go.Proofs.Ytbeoillppkcpmaa.Mark
