/- The end of the law's round: all numbers are compared. For ranges as the rounds keep them. -/
import Derived.Laws.Cover3
import Derived.Deep.CutBlock
import Derived.Deep.DeepCutAuto
import Derived.Test.YtbeoillppkcpmaaMarkR
namespace Go.Proofs.Ytbeoillppkcpmaa.Mark
open Go.RowKit Go.Proofs.YtbeoillppkcpmaaW.PrintWords Go.Proofs.YtbeoillppkcpmaaW.PrintLast Go.Proofs.YtbeoillppkcpmaaW.PrintMore Go.Proofs.Ytbeoillppkcpmaa.PMarksPlay
attribute [local go_sem] max2_int min2_int max_two min_two max_three min_three max_four min_four
set_option linter.unusedVariables false
set_option linter.unusedSimpArgs false
set_option maxHeartbeats 16000000 in
set_option maxRecDepth 100000 in
theorem tail_wp {W : World} {g i : Nat} {u0 u1 u2 u6 u7 u8 u9 u10 u11 u12 u13 u14 u15 u16 u17 u18 u19 u20 u21 u22 u23 u24 u25 u26 u27 u28 u29 u30 u31 u32 u33 u34 u35 u36 u37 u38 u39 u40 u41 u42 u43 u44 u45 u46 u47 u48 u49 u50 u51 u52 u53 u54 u55 u56 u57 u58 u59 u60 u61 u62 u63 u64 u65 u66 u67 u68 u69 u70 u71 u72 u73 u74 u75 u76 u77 u78 u79 u80 u81 u82 u83 u84 u85 u86 u87 u88 u89 u90 u91 u92 u93 u94 u95 u96 u97 u98 u99 u100 u101 u102 u103 u104 u105 u106 u107 u108 u109 u110 u111 u112 u113 u114 u115 u116 u117 u118 u119 u120 u121 u122 u123 u124 u125 u126 u127 u128 u129 u130 u131 u132 u133 u134 u135 u136 u137 u138 u139 u140 u141 u142 u143 u144 u145 u146 u147 u148 u149 u150 u151 u152 u153 u154 u155 u156 u157 u158 u159 u160 u161 u162 u163 u164 u165 u166 u167 u168 u169 u170 u171 u172 u173 u174 u175 u176 u177 u178 u179 u180 u181 u182 u183 u184 u185 u186 u187 u188 u189 u190 u191 u192 u193 u194 u195 u196 u197 u198 u199 u200 u201 u202 u203 u204 u205 u206 u207 u208 u209 u210 u211 u212 u213 u214 u215 u216 u217 u218 u219 u220 u221 u222 u223 u224 u225 u226 u227 u228 u229 u230 u231 u232 u233 u234 u235 u236 u237 u238 u239 u240 u241 u242 u243 u244 u245 u246 u247 u248 u249 u250 u251 u252 u253 u254 u255 u256 u257 u258 u259 u260 u261 u262 u263 u264 u265 u266 u267 u268 u269 u270 u271 u272 u273 u274 u275 u276 u277 u278 u279 u280 u281 u282 u283 u284 u285 u286 u287 u288 u289 u290 u291 u292 u293 u294 u295 u296 u297 u298 u299 u300 u301 u302 u303 u304 u305 u306 u307 u308 u309 u310 u311 u312 u313 u314 u315 u316 u317 u318 u319 u320 u321 u322 u323 u324 u325 u326 u327 u328 u329 u330 u331 u332 u333 u334 u335 u336 u337 u338 u339 u340 u341 u342 u343 u344 u345 u346 u347 u348 u349 u350 u351 u352 u353 u354 u355 u356 u357 u358 u359 u360 u361 u362 u363 u364 u365 u366 u367 u368 u369 u370 : Value} {ms : List S64} {last : Int} {v : Value} {A4 : Option Addr} {c4 : Nat} {w2 : World} {K : Act → World → Prop} {Q' : Exit → Act → World → Prop}
    (HG2 : Aside0 (MarksAt W.heap.size w2 g v ms last)) (HO2 : Aside0 (Ro w2 W.heap.size (.slice A4 ms.length c4) ms)) (HGD : Aside0 (Good ms last (i + 1))) (HB2 : Aside0 (Below W.heap.size W w2))
    (hK : ∀ a' w', SwR W g i u0 u1 u6 u28 u29 u30 u31 u32 u33 u34 u35 u36 u37 u38 u39 u40 u370 a' w' → K a' w') :
    Code.wp Try.prog tailC (Exit.then K Q') ({ tmps := List.toArray (u0 :: u1 :: u2 :: Value.pointer (some ⟨g, 0, none⟩) :: Value.slice A4 ms.length c4 :: Value.int .i64 last :: u6 :: u7 :: u8 :: u9 :: u10 :: u11 :: u12 :: u13 :: u14 :: u15 :: u16 :: u17 :: u18 :: u19 :: u20 :: u21 :: u22 :: u23 :: u24 :: u25 :: u26 :: u27 :: u28 :: u29 :: u30 :: u31 :: u32 :: u33 :: u34 :: u35 :: u36 :: u37 :: u38 :: u39 :: u40 :: u41 :: u42 :: u43 :: u44 :: u45 :: u46 :: u47 :: u48 :: u49 :: u50 :: u51 :: u52 :: u53 :: u54 :: u55 :: u56 :: u57 :: u58 :: u59 :: u60 :: u61 :: u62 :: u63 :: u64 :: u65 :: u66 :: u67 :: u68 :: u69 :: u70 :: u71 :: u72 :: u73 :: u74 :: u75 :: u76 :: u77 :: u78 :: u79 :: u80 :: u81 :: u82 :: u83 :: u84 :: u85 :: u86 :: u87 :: u88 :: u89 :: u90 :: u91 :: u92 :: u93 :: u94 :: u95 :: u96 :: u97 :: u98 :: u99 :: u100 :: u101 :: u102 :: u103 :: u104 :: u105 :: u106 :: u107 :: u108 :: u109 :: u110 :: u111 :: u112 :: u113 :: u114 :: u115 :: u116 :: u117 :: u118 :: u119 :: u120 :: u121 :: u122 :: u123 :: u124 :: u125 :: u126 :: u127 :: u128 :: u129 :: u130 :: u131 :: u132 :: u133 :: u134 :: u135 :: u136 :: u137 :: u138 :: u139 :: u140 :: u141 :: u142 :: u143 :: u144 :: u145 :: u146 :: u147 :: u148 :: u149 :: u150 :: u151 :: u152 :: u153 :: u154 :: u155 :: u156 :: u157 :: u158 :: u159 :: u160 :: u161 :: u162 :: u163 :: u164 :: u165 :: u166 :: u167 :: u168 :: u169 :: u170 :: u171 :: u172 :: u173 :: u174 :: u175 :: u176 :: u177 :: u178 :: u179 :: u180 :: u181 :: u182 :: u183 :: u184 :: u185 :: u186 :: u187 :: u188 :: u189 :: u190 :: u191 :: u192 :: u193 :: u194 :: u195 :: u196 :: u197 :: u198 :: u199 :: u200 :: u201 :: u202 :: u203 :: u204 :: u205 :: u206 :: u207 :: u208 :: u209 :: u210 :: u211 :: u212 :: u213 :: u214 :: u215 :: u216 :: u217 :: u218 :: u219 :: u220 :: u221 :: u222 :: u223 :: u224 :: u225 :: u226 :: u227 :: u228 :: u229 :: u230 :: u231 :: u232 :: u233 :: u234 :: u235 :: u236 :: u237 :: u238 :: u239 :: u240 :: u241 :: u242 :: u243 :: u244 :: u245 :: u246 :: u247 :: u248 :: u249 :: u250 :: u251 :: u252 :: u253 :: u254 :: u255 :: u256 :: u257 :: u258 :: u259 :: u260 :: u261 :: u262 :: u263 :: u264 :: u265 :: u266 :: u267 :: u268 :: u269 :: u270 :: u271 :: u272 :: u273 :: u274 :: u275 :: u276 :: u277 :: u278 :: u279 :: u280 :: u281 :: u282 :: u283 :: u284 :: u285 :: u286 :: u287 :: u288 :: u289 :: u290 :: u291 :: u292 :: u293 :: u294 :: u295 :: u296 :: u297 :: u298 :: u299 :: u300 :: u301 :: u302 :: u303 :: u304 :: u305 :: u306 :: u307 :: u308 :: u309 :: u310 :: u311 :: u312 :: u313 :: u314 :: u315 :: u316 :: u317 :: u318 :: u319 :: u320 :: u321 :: u322 :: u323 :: u324 :: u325 :: u326 :: u327 :: u328 :: u329 :: u330 :: u331 :: u332 :: u333 :: u334 :: u335 :: u336 :: u337 :: u338 :: u339 :: u340 :: u341 :: u342 :: u343 :: u344 :: u345 :: u346 :: u347 :: u348 :: u349 :: u350 :: u351 :: u352 :: u353 :: u354 :: u355 :: u356 :: u357 :: u358 :: u359 :: u360 :: u361 :: u362 :: u363 :: u364 :: u365 :: u366 :: u367 :: u368 :: u369 :: u370 :: []), defers := [] } : Act) w2 := by
  have hfew := HGD.out.few
  have hC4 := HO2.out
  obtain ⟨_, _, he4, hc4, hr4⟩ := Ro.open_ hC4
  injection he4 with e1 e2 e3
  subst e1
  subst e3
  have HC4 := Aside0.mk hc4
  have HR4 := Aside0.mk hr4
  clear hC4 hc4 hr4 e2
  conv => arg 2; whnf

  go_wp2_with fail
  go_loopg [26, 27] (ms.length + 1) (fun kq v26 v27 wr => ∃ j : Nat, v27 = .int .i64 (j : Int) ∧ j ≤ ms.length ∧ kq + j = ms.length + 1 ∧ Aside0 (Kd.R (Kd.int .i64) 3 wr w2.heap.size (fun _ => True) v26 (idsF pAll (ms.take j))) ∧ Aside0 (Below w2.heap.size w2 wr))
  case atStart => exact ⟨0, rfl, by omega, by omega, ⟨by simpa [idsF] using Kd.R_nil _ _ _ _ _⟩, ⟨Below.refl _ _⟩⟩
  case round =>
    obtain ⟨j, rfl, hj, hkq, HO, HB⟩ := hrel
    have HK := Aside0.mk hkq
    clear hkq
    by_cases hlt : j < ms.length
    · have hlb : decide ((j : Int) < (ms.length : Int)) = true := decide_eq_true (by omega)
      obtain ⟨ad, hA4, _, _, _, _, y4⟩ := at_T42 (Kd.C_below HR4.out HB.out) (j : Int) (by omega) (by omega)
      subst hA4
      rw [Int.toNat_natCast, rd_map ms j hlt] at y4
      obtain ⟨x, hx⟩ : ∃ x, ms.getD j z64 = x := ⟨_, rfl⟩
      obtain ⟨⟨⟨a, b⟩, c, d⟩, n⟩ := x
      have HX := Aside0.mk (ids_snoc pAll ms j hlt a b c d n hx)
      have HLE := Aside0.mk (ids_le pAll (ms.take j))
      rw [hx] at y4
      simp only [toR] at y4
      have HX2 : Aside0 (idsF pAll (ms.take (j + 1)) = idsF pAll (ms.take j) ++ [n]) := ⟨by rw [HX.out, if_pos (show pAll a b = true from rfl)]⟩
      obtain ⟨acc, hacc⟩ : ∃ acc, idsF pAll (ms.take j) = acc := ⟨_, rfl⟩
      rw [hacc] at HO HX2 HLE
      have HLT : Aside0 (acc.length ≤ 1000000) := ⟨by have := HLE.out; rw [List.length_take] at this; omega⟩
      have HBW := Aside0.mk (below_then HB2.out HB2.out.size HB.out)
      clear hx hacc HX
      cases gk with
      | zero => exact absurd HK.out (by omega)
      | succ k1 =>
        go_wp2_with ((with_reducible refine gate_builtin (b := .append) (xs := #[.tmp 357, .tmp 363]) rfl ?_); at_builtin; refine Kd.R_append (Kd.int .i64) (w0 := w2) w2.heap.size rfl (.tmp 357) (.tmp 363) 50 3 (.int .i64 0) 8 rfl Try.underlying50 info3 rfl (by decide) (by decide) u26 acc n [.int .i64 n] (fun _ => True) (fun _ => False) rfl rfl ?aP (fun _ hk => hk.elim) ?aF ?aO ?aB ?aS ?aL ?_; (case aP => exact rfl); (case aF => exact fun _ _ => trivial); (case aO => exact HO.out); (case aB => exact HB.out); (case aS => exact HB.out.size); (case aL => have := HLT.out; omega); intro v3 w3 ho hb hg hat; have HO3 := Aside0.mk ho; have HB3 := Aside0.mk hb; clear ho hb hg hat)
        go_roundg k1
        case measure => omega
        case rel => exact ⟨j + 1, by go_num, by omega, by have := HK.out; omega, ⟨by rw [HX2.out]; exact HO3.out⟩, HB3⟩
    · have hlb : decide ((j : Int) < (ms.length : Int)) = false := decide_eq_false (by omega)
      obtain rfl : j = ms.length := by omega
      obtain ⟨s, hs⟩ : ∃ s, idsF pAll ms = s := ⟨_, rfl⟩
      have HSS : Aside0 (ms.map (fun x => x.f1) = s) := ⟨by rw [← hs]; unfold idsF pAll; rw [List.filter_eq_self.mpr (fun _ _ => rfl)]⟩
      have hO := HO.out
      rw [List.take_length, hs] at hO
      have HSL : Aside0 (s.length ≤ 100000) := ⟨by have := ids_le pAll ms; rw [hs] at this; omega⟩
      obtain ⟨A9, c9, he9, hc9, hr9⟩ := Kd.R_reads hO
      subst he9
      have HC9 := Aside0.mk hc9
      have HR9 := Aside0.mk hr9
      have HBw := Aside0.mk (below_then HB2.out HB2.out.size HB.out)
      have HGw := Aside0.mk (HG2.out.below HB.out)
      have HOw : Aside0 (Ro wr W.heap.size (.slice A4 ms.length c4) ms) := ⟨Kd.R_below HO2.out HB.out⟩
      clear hs hO hc9 hr9 HO
      go_wp2_with fail
      refine (all_calls W.heap.size g v ms last _ HGw.out (by omega)).mono ?_
      rintro e w5 ⟨A5, c5, rfl, hl5, hr5, hb5⟩
      rw [HSS.out] at hl5 hr5 ⊢
      have HB5 := Aside0.mk (below_then HBw.out HBw.out.size hb5)
      have HG5 := Aside0.mk (HGw.out.below hb5)
      have HO5 : Aside0 (Ro w5 W.heap.size (.slice A4 ms.length c4) ms) := ⟨Kd.R_below HOw.out hb5⟩
      have HR95 := Aside0.mk (Kd.C_below HR9.out hb5)
      have HC5 := Aside0.mk hl5
      have HR5 := Aside0.mk hr5
      clear hl5 hr5 hb5
      go_wp2_with fail
      refine (lsame_calls s HSL.out A5 A9 c5 c9 _ HR5.out HC5.out HR95.out HC9.out).mono ?_
      rintro e w7 ⟨rfl, hb7⟩
      have HB7 := Aside0.mk (below_then HB5.out HB5.out.size hb7)
      have HG7 := Aside0.mk (HG5.out.below hb7)
      have HO7 : Aside0 (Ro w7 W.heap.size (.slice A4 ms.length c4) ms) := ⟨Kd.R_below HO5.out hb7⟩
      clear hb7
      go_wp2_with fail
      exact SwR.mk ms last v rfl HG7 HO7 HGD HB7
end Go.Proofs.Ytbeoillppkcpmaa.Mark
