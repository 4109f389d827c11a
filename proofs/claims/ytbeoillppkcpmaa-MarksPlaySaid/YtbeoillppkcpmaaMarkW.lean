/- The law's switch, walked for Edit. For ranges as the rounds keep them. -/
import Derived.Laws.Cover3
import Derived.Deep.CutBlock
import Derived.Deep.DeepCutAuto
import Derived.Test.YtbeoillppkcpmaaMarkV
namespace Go.Proofs.Ytbeoillppkcpmaa.Mark
open Go.RowKit Go.Proofs.YtbeoillppkcpmaaW.PrintWords Go.Proofs.YtbeoillppkcpmaaW.PrintLast Go.Proofs.YtbeoillppkcpmaaW.PrintMore Go.Proofs.Ytbeoillppkcpmaa.PMarksPlay
attribute [local go_sem] max2_int min2_int max_two min_two max_three min_three max_four min_four
attribute [local go_sem high] eqA28 eqA42
set_option linter.unusedVariables false
set_option linter.unusedSimpArgs false
def movL.T39 : Bool × List (List Nat × List Nat) := (true, [([], []), ([], []), ([0, 1], [0, 1]), ([2], [2]), ([], []), ([4], [4]), ([3, 5], [3, 5]), ([], []), ([7, 6, 6, 0, 1, 2, 3, 4, 5, 6, 7], [6, 7])])
def movL.B39 : List Nat := [0, 0, 3, 7, 0, 16, 63, 0, 255]
theorem movL.tab39 : rtab .any (opsOf Try.f3 39) = movL.T39 := by kernel_rfl
theorem movL.bits39 : waitsOk movL.T39.2 movL.B39 = true := by kernel_rfl
set_option maxHeartbeats 16000000 in
set_option maxRecDepth 100000 in
theorem arm_edit {W : World} {g i q : Nat} {u0 u1 u2 u6 u9 u10 u11 u12 u13 u14 u15 u16 u17 u18 u19 u20 u21 u22 u23 u24 u25 u26 u27 u28 u29 u30 u31 u32 u33 u34 u35 u36 u37 u38 u39 u40 u41 u42 u43 u44 u45 u46 u47 u48 u49 u50 u51 u52 u53 u54 u55 u56 u57 u58 u59 u60 u61 u63 u64 u65 u66 u67 u68 u69 u70 u71 u72 u73 u74 u75 u76 u77 u78 u79 u80 u81 u82 u83 u84 u85 u86 u87 u88 u89 u90 u91 u92 u93 u94 u95 u96 u97 u98 u99 u100 u101 u102 u103 u104 u105 u106 u107 u108 u109 u110 u111 u112 u113 u114 u115 u116 u117 u118 u119 u120 u121 u122 u123 u124 u125 u126 u127 u128 u129 u130 u131 u132 u133 u134 u135 u136 u137 u138 u139 u140 u141 u142 u143 u144 u145 u146 u147 u148 u149 u150 u151 u152 u153 u154 u155 u156 u157 u158 u159 u160 u161 u162 u163 u164 u165 u166 u167 u168 u169 u170 u171 u172 u173 u174 u175 u176 u177 u178 u179 u180 u181 u182 u183 u184 u185 u186 u187 u188 u189 u190 u191 u192 u193 u194 u195 u196 u197 u198 u199 u200 u201 u202 u203 u204 u205 u206 u207 u208 u209 u210 u211 u212 u213 u214 u215 u216 u217 u218 u219 u220 u221 u222 u223 u224 u225 u226 u227 u228 u229 u230 u231 u232 u233 u234 u235 u236 u237 u238 u239 u240 u241 u242 u243 u244 u245 u246 u247 u248 u249 u250 u251 u252 u253 u254 u255 u256 u257 u258 u259 u260 u261 u262 u263 u264 u265 u266 u267 u268 u269 u270 u271 u272 u273 u274 u275 u276 u277 u278 u279 u280 u281 u282 u283 u284 u285 u286 u287 u288 u289 u290 u291 u292 u293 u294 u295 u296 u297 u298 u299 u300 u301 u302 u303 u304 u305 u306 u307 u308 u309 u310 u311 u312 u313 u314 u315 u316 u317 u318 u319 u320 u321 u322 u323 u324 u325 u326 u327 u328 u329 u330 u331 u332 u333 u334 u335 u336 u337 u338 u339 u340 u341 u342 u343 u344 u345 u346 u347 u348 u349 u350 u351 u352 u353 u354 u355 u356 u357 u358 u359 u360 u361 u362 u363 u364 u365 u366 u367 u368 u369 u370 : Value} {ms : List S64} {last : Int} {v : Value} {x1 x2 x3 : Int} {x4 x5 : Bool} {x6 x7 : Int} {xl : List Int} {A3 A4 : Option Addr} {c3 c4 p : Nat} {w2 : World} {K : Act → World → Prop} {Q' : Exit → Act → World → Prop}
    (HG2 : Aside0 (MarksAt W.heap.size w2 g v ms last)) (HO2 : Aside0 (Ro w2 W.heap.size (.slice A4 ms.length c4) ms)) (HGD : Aside0 (Good ms last i)) (HB2 : Aside0 (Below W.heap.size W w2)) (HZ2 : Aside0 (w2.heap[q]? = some (.cells #[.int .i64 2, .int .i64 x1, .int .i64 x2, .int .i64 x3, .bool x4, .bool x5, .int .i64 x6, .int .i64 x7, .slice A3 xl.length c3] 35))) (L3 : Aside0 (xl.length ≤ c3)) (R2 : Aside0 (Kd.C (Kd.int .i32) W A3 xl.length xl)) (HXL : Aside0 (xl.length ≤ 300)) (HI : Aside0 (i ≤ 100)) (HP : Aside0 (Low ms x1 p))
    (hQ : ∀ c a N u w, Q' (.panic c) (Act.put a N u) w → Q' (.panic c) a w) (hK : ∀ a' w', SwR W g i u0 u1 u6 u28 u29 u30 u31 u32 u33 u34 u35 u36 u37 u38 u39 u40 u370 a' w' → K a' w') :
    Code.wp Try.prog swC (Exit.then K Q') ({ tmps := List.toArray (u0 :: u1 :: u2 :: Value.pointer (some ⟨g, 0, none⟩) :: Value.slice A4 ms.length c4 :: Value.int .i64 last :: u6 :: Value.pointer (some ⟨q, 0, none⟩) :: Value.int .i64 (atF ms x1 p) :: u9 :: u10 :: u11 :: u12 :: u13 :: u14 :: u15 :: u16 :: u17 :: u18 :: u19 :: u20 :: u21 :: u22 :: u23 :: u24 :: u25 :: u26 :: u27 :: u28 :: u29 :: u30 :: u31 :: u32 :: u33 :: u34 :: u35 :: u36 :: u37 :: u38 :: u39 :: u40 :: u41 :: u42 :: u43 :: u44 :: u45 :: u46 :: u47 :: u48 :: u49 :: u50 :: u51 :: u52 :: u53 :: u54 :: u55 :: u56 :: u57 :: u58 :: u59 :: u60 :: u61 :: Value.int .i64 2 :: u63 :: u64 :: u65 :: u66 :: u67 :: u68 :: u69 :: u70 :: u71 :: u72 :: u73 :: u74 :: u75 :: u76 :: u77 :: u78 :: u79 :: u80 :: u81 :: u82 :: u83 :: u84 :: u85 :: u86 :: u87 :: u88 :: u89 :: u90 :: u91 :: u92 :: u93 :: u94 :: u95 :: u96 :: u97 :: u98 :: u99 :: u100 :: u101 :: u102 :: u103 :: u104 :: u105 :: u106 :: u107 :: u108 :: u109 :: u110 :: u111 :: u112 :: u113 :: u114 :: u115 :: u116 :: u117 :: u118 :: u119 :: u120 :: u121 :: u122 :: u123 :: u124 :: u125 :: u126 :: u127 :: u128 :: u129 :: u130 :: u131 :: u132 :: u133 :: u134 :: u135 :: u136 :: u137 :: u138 :: u139 :: u140 :: u141 :: u142 :: u143 :: u144 :: u145 :: u146 :: u147 :: u148 :: u149 :: u150 :: u151 :: u152 :: u153 :: u154 :: u155 :: u156 :: u157 :: u158 :: u159 :: u160 :: u161 :: u162 :: u163 :: u164 :: u165 :: u166 :: u167 :: u168 :: u169 :: u170 :: u171 :: u172 :: u173 :: u174 :: u175 :: u176 :: u177 :: u178 :: u179 :: u180 :: u181 :: u182 :: u183 :: u184 :: u185 :: u186 :: u187 :: u188 :: u189 :: u190 :: u191 :: u192 :: u193 :: u194 :: u195 :: u196 :: u197 :: u198 :: u199 :: u200 :: u201 :: u202 :: u203 :: u204 :: u205 :: u206 :: u207 :: u208 :: u209 :: u210 :: u211 :: u212 :: u213 :: u214 :: u215 :: u216 :: u217 :: u218 :: u219 :: u220 :: u221 :: u222 :: u223 :: u224 :: u225 :: u226 :: u227 :: u228 :: u229 :: u230 :: u231 :: u232 :: u233 :: u234 :: u235 :: u236 :: u237 :: u238 :: u239 :: u240 :: u241 :: u242 :: u243 :: u244 :: u245 :: u246 :: u247 :: u248 :: u249 :: u250 :: u251 :: u252 :: u253 :: u254 :: u255 :: u256 :: u257 :: u258 :: u259 :: u260 :: u261 :: u262 :: u263 :: u264 :: u265 :: u266 :: u267 :: u268 :: u269 :: u270 :: u271 :: u272 :: u273 :: u274 :: u275 :: u276 :: u277 :: u278 :: u279 :: u280 :: u281 :: u282 :: u283 :: u284 :: u285 :: u286 :: u287 :: u288 :: u289 :: u290 :: u291 :: u292 :: u293 :: u294 :: u295 :: u296 :: u297 :: u298 :: u299 :: u300 :: u301 :: u302 :: u303 :: u304 :: u305 :: u306 :: u307 :: u308 :: u309 :: u310 :: u311 :: u312 :: u313 :: u314 :: u315 :: u316 :: u317 :: u318 :: u319 :: u320 :: u321 :: u322 :: u323 :: u324 :: u325 :: u326 :: u327 :: u328 :: u329 :: u330 :: u331 :: u332 :: u333 :: u334 :: u335 :: u336 :: u337 :: u338 :: u339 :: u340 :: u341 :: u342 :: u343 :: u344 :: u345 :: u346 :: u347 :: u348 :: u349 :: u350 :: u351 :: u352 :: u353 :: u354 :: u355 :: u356 :: u357 :: u358 :: u359 :: u360 :: u361 :: u362 :: u363 :: u364 :: u365 :: u366 :: u367 :: u368 :: u369 :: u370 :: []), defers := [] } : Act) w2 := by
  have hfew := HGD.out.few
  have hC4 := HO2.out
  obtain ⟨_, _, he4, hc4, hr4⟩ := Ro.open_ hC4
  injection he4 with e1 e2 e3
  subst e1
  subst e3
  have HC4 := Aside0.mk hc4
  have HR4 := Aside0.mk hr4
  clear hC4 hc4 hr4 e2
  conv => arg 2; whnf

  have hxl300 := HXL.out
  have z6 := (blk_cell HZ2.out 6).trans rfl
  have z7 := (blk_cell HZ2.out 7).trans rfl
  have z8 := (blk_cell HZ2.out 8).trans rfl
  go_wp2_with fail
  cases hfb : fairB x6 x7 with
  | false =>
    have HFB := Aside0.mk hfb
    clear hfb
    refine (edit_bad W.heap.size g v ms last x6 x7 A3 c3 xl _ HG2.out (Kd.C_below R2.out HB2.out) L3.out HFB.out).mono ?_
    rintro e we ⟨rfl, hbe⟩
    have HBe := Aside0.mk (below_then HB2.out HB2.out.size hbe)
    have HGe := Aside0.mk (HG2.out.below hbe)
    have HOe : Aside0 (Ro we W.heap.size (.slice A4 ms.length c4) ms) := ⟨Kd.R_below HO2.out hbe⟩
    have HZe := Aside0.mk (blk_below HZ2.out hbe)

    clear hbe z6 z7 z8
    have z6 := (blk_cell HZe.out 6).trans rfl
    have z7 := (blk_cell HZe.out 7).trans rfl
    have z8 := (blk_cell HZe.out 8).trans rfl
    go_wp2_with fail
    refine (stylusref04_Fair.calls x6 x7 A3 c3 xl _ _ (Kd.C_below R2.out HBe.out) L3.out (fairR_f x6 x7 xl)).mono ?_
    rintro e w3 ⟨rfl, hb3⟩
    rw [HFB.out]
    have HB3 := Aside0.mk (below_then HBe.out HBe.out.size hb3)
    have HG3 := Aside0.mk (HGe.out.below hb3)
    have HO3 : Aside0 (Ro w3 W.heap.size (.slice A4 ms.length c4) ms) := ⟨Kd.R_below HOe.out hb3⟩
    have HZ3 := Aside0.mk (blk_below HZe.out hb3)
    have HR3 : Aside0 (Kd.C k42 w3 A4 ms.length (ms.map toR)) := ⟨by have := (Kd.R_reads' HO3.out).2.2; rwa [List.length_map] at this⟩
    clear hb3 z6 z7 z8
    go_wp2_with fail

    go_loopg [13, 14, 15] 1 (fun kq v13 v14 v15 wr => v13 = .bool false ∧ v15 = .int .i64 0 ∧ Aside0 (Below w3.heap.size w3 wr))
    case atStart => exact ⟨rfl, rfl, ⟨Below.refl _ _⟩⟩
    case round =>
      obtain ⟨rfl, rfl, HB⟩ := hrel
      by_cases hz : 0 < ms.length
      · have hzb : decide ((0 : Int) < (ms.length : Int)) = true := decide_eq_true (by omega)
        go_wp2_with fail
        exact SwR.mk ms last v rfl ⟨HG3.out.below HB.out⟩ ⟨Kd.R_below HO3.out HB.out⟩ ⟨HGD.out.next⟩ ⟨below_then HB3.out HB3.out.size HB.out⟩

      · have hzb : decide ((0 : Int) < (ms.length : Int)) = false := decide_eq_false (by omega)
        go_wp2_with fail
        exact SwR.mk ms last v rfl ⟨HG3.out.below HB.out⟩ ⟨Kd.R_below HO3.out HB.out⟩ ⟨HGD.out.next⟩ ⟨below_then HB3.out HB3.out.size HB.out⟩

  | true =>
    have HFB := Aside0.mk hfb
    clear hfb
    obtain ⟨ns, hns⟩ : ∃ ns, ms.map (mv1 x6 x7 xl.length) = ns := ⟨_, rfl⟩
    have HNS := Aside0.mk hns
    have HNL : Aside0 (ns.length = ms.length) := ⟨by rw [← hns, List.length_map]⟩
    have hec := edit_fair W.heap.size g v ms last x6 x7 A3 c3 xl _ HG2.out (Kd.C_below R2.out HB2.out) L3.out HFB.out (by omega) (by omega) HGD.out.may
    rw [hns] at hec
    clear hns
    refine hec.mono ?_
    clear hec
    rintro e we (⟨hall, rfl, hbe⟩ | ⟨hall, rfl, v3, hge, hme⟩)
    · have HALL := Aside0.mk hall
      have HBe := Aside0.mk (below_then HB2.out HB2.out.size hbe)
      have HGe := Aside0.mk (HG2.out.below hbe)
      have HOe : Aside0 (Ro we W.heap.size (.slice A4 ms.length c4) ms) := ⟨Kd.R_below HO2.out hbe⟩
      have HZe := Aside0.mk (blk_below HZ2.out hbe)

      clear hall hbe z6 z7 z8
      have z6 := (blk_cell HZe.out 6).trans rfl
      have z7 := (blk_cell HZe.out 7).trans rfl
      have z8 := (blk_cell HZe.out 8).trans rfl
      go_wp2_with fail
      refine (stylusref04_Fair.calls x6 x7 A3 c3 xl _ _ (Kd.C_below R2.out HBe.out) L3.out (fairR_f x6 x7 xl)).mono ?_
      rintro e w3 ⟨rfl, hb3⟩
      rw [HFB.out]
      have HB3 := Aside0.mk (below_then HBe.out HBe.out.size hb3)
      have HG3 := Aside0.mk (HGe.out.below hb3)
      have HO3 : Aside0 (Ro w3 W.heap.size (.slice A4 ms.length c4) ms) := ⟨Kd.R_below HOe.out hb3⟩
      have HZ3 := Aside0.mk (blk_below HZe.out hb3)
      have HR3 : Aside0 (Kd.C k42 w3 A4 ms.length (ms.map toR)) := ⟨by have := (Kd.R_reads' HO3.out).2.2; rwa [List.length_map] at this⟩
      clear hb3 z6 z7 z8
      go_wp2_with fail
      go_loopg [13, 14, 15] (ms.length + 1) (fun kq v13 v14 v15 wr => ∃ (j : Nat) (f : Bool), v13 = .bool f ∧ v15 = .int .i64 (j : Int) ∧ j ≤ ms.length ∧ kq + j = ms.length + 1 ∧ Aside0 (f = (ns.take j).all mayX) ∧ Aside0 (Kd.R k42 42 wr w3.heap.size (fun _ => True) v14 ((ns.take j).map toR)) ∧ Aside0 (Below w3.heap.size w3 wr))
      case atStart => exact ⟨0, true, rfl, rfl, by omega, by omega, ⟨rfl⟩, ⟨by simpa using Kd.R_nil _ _ _ _ _⟩, ⟨Below.refl _ _⟩⟩
      case round =>
        obtain ⟨j, f, rfl, rfl, hj, hkq, HF, HO, HB⟩ := hrel
        have HK := Aside0.mk hkq
        clear hkq
        by_cases hlt : j < ms.length
        · have hlb : decide ((j : Int) < (ms.length : Int)) = true := decide_eq_true (by omega)
          cases f with
          | false =>
            go_wp2_with fail
            exact SwR.mk ms last v rfl ⟨HG3.out.below HB.out⟩ ⟨Kd.R_below HO3.out HB.out⟩ ⟨HGD.out.next⟩ ⟨below_then HB3.out HB3.out.size HB.out⟩
          | true =>
            obtain ⟨ad, hA4, y0, y1, y2, y3, y4⟩ := at_T42 (Kd.C_below HR3.out HB.out) (j : Int) (by omega) (by omega)
            subst hA4
            rw [Int.toNat_natCast, rd_map ms j hlt] at y0 y1 y2 y3 y4
            have HX := Aside0.mk (show ns.take (j + 1) = ns.take j ++ [mv1 x6 x7 xl.length (ms.getD j z64)] by
              have hjn : j < ns.length := by rw [HNL.out]; exact hlt
              rw [List.take_succ_eq_append_getElem hjn]
              congr 2
              have : ms.getD j z64 = ms[j] := by rw [List.getD_eq_getElem?_getD, List.getElem?_eq_getElem hlt]; rfl
              rw [this]
              simp [← HNS.out])
            have hmj : mayX (ms.getD j z64) = true := by
              rw [show ms.getD j z64 = ms[j] by rw [List.getD_eq_getElem?_getD, List.getElem?_eq_getElem hlt]; rfl]
              exact List.all_eq_true.1 HGD.out.may _ (List.getElem_mem hlt)
            obtain ⟨x, hx⟩ : ∃ x, ms.getD j z64 = x := ⟨_, rfl⟩
            obtain ⟨⟨⟨a, b⟩, c, d⟩, n⟩ := x
            rw [hx] at hmj HX y0 y1 y2 y3 y4
            simp only [toR] at y0 y1 y2 y3 y4
            have HSM := Aside0.mk (sm_of (a := a) (b := b) hmj HFB.out (by omega : xl.length ≤ 100000))
            have HBW := Aside0.mk (below_then HB3.out HB3.out.size HB.out)
            have Y0 := Aside0.mk (show wr.drew.cell? _ = _ from y0)
            have Y1 := Aside0.mk (show wr.drew.cell? _ = _ from y1)
            have Y2 := Aside0.mk (show wr.drew.cell? _ = _ from y2)
            have Y3 := Aside0.mk (show wr.drew.cell? _ = _ from y3)
            have Y4 := Aside0.mk (show wr.drew.cell? _ = _ from y4)
            have HZ := Aside0.mk (blk_below HZ3.out HB.out)
            clear hx y0 y1 y2 y3 y4 hmj
            cases gk with
            | zero => exact absurd HK.out (by omega)
            | succ k1 =>
              go_upto_region 39 with fail
              go_cut [16] from 160 to 166 (fun v16 wc => ∃ gb : Nat, v16 = .pointer (some ⟨gb, 0, none⟩) ∧ Aside0 (wc.heap[gb]? = some (.cells #[.int .i64 (mvFrom a b c d x6 x7 xl.length), .int .i64 (mvTo a b c d x6 x7 xl.length), .bool c, .bool d, .int .i64 n] 42)) ∧ Aside0 (Below wr.heap.size wr wc))
              case first =>
                refine start_ (n := 9) (S := fun w' => w'.cell? (ad.add (j * 5)) = some (.int .i64 a) ∧ w'.cell? ⟨(ad.add (j * 5)).block, (ad.add (j * 5)).off + 1, none⟩ = some (.int .i64 b) ∧ w'.cell? ⟨(ad.add (j * 5)).block, (ad.add (j * 5)).off + 2, none⟩ = some (.bool c) ∧ w'.cell? ⟨(ad.add (j * 5)).block, (ad.add (j * 5)).off + 3, none⟩ = some (.bool d) ∧ w'.cell? ⟨(ad.add (j * 5)).block, (ad.add (j * 5)).off + 4, none⟩ = some (.int .i64 n) ∧ w'.cell? ⟨q, 6, none⟩ = some (.int .i64 x6) ∧ w'.cell? ⟨q, 7, none⟩ = some (.int .i64 x7) ∧ w'.cell? ⟨q, 8, none⟩ = some (.slice A3 xl.length c3)) (ds := [8]) #[false, false, false, false, false, false, false, false, false] (by kernel_rfl) rfl rfl ⟨Y0.out, Y1.out, Y2.out, Y3.out, Y4.out, (blk_cell (blk_drew HZ.out) 6).trans rfl, (blk_cell (blk_drew HZ.out) 7).trans rfl, (blk_cell (blk_drew HZ.out) 8).trans rfl⟩ (fun hHeld => ?_); refine with_tabW movL.tab39 movL.bits39 (fun HT_ HW_ => ?_)
                refine pure_ (i := 0) (N := some 160) (v := ?_) (a' := ?_) #[true, false, false, false, false, false, false, false, false] rfl rfl (any_of HT_.out (by kernel_rfl)) (fun _ _ _ h => hQ _ _ _ _ _ h) (Or.inl ⟨by rfl, ?_⟩) ?_ ?_
                rotate_left
                · intro w'
                  go_simp
                  with_reducible rfl
                rotate_left
                · simp only [Act.put, List.setIfInBounds_toArray, List.set_cons_zero, List.set_cons_succ, i64_w, i32_w]
                  rfl
                refine pure_ (i := 1) (N := some 161) (v := ?_) (a' := ?_) #[true, true, false, false, false, false, false, false, false] rfl rfl (any_of HT_.out (by kernel_rfl)) (fun _ _ _ h => hQ _ _ _ _ _ h) (Or.inl ⟨by rfl, ?_⟩) ?_ ?_
                rotate_left
                · intro w'
                  go_simp
                  with_reducible rfl
                rotate_left
                · simp only [Act.put, List.setIfInBounds_toArray, List.set_cons_zero, List.set_cons_succ, i64_w, i32_w]
                  rfl
                refine pure_ (i := 2) (N := some 162) (v := ?_) (a' := ?_) #[true, true, true, false, false, false, false, false, false] rfl rfl (any_of HT_.out (by kernel_rfl)) (fun _ _ _ h => hQ _ _ _ _ _ h) (Or.inl ⟨by rfl, ?_⟩) ?_ ?_
                rotate_left
                · intro w'
                  go_simp
                  with_reducible rfl
                rotate_left
                · simp only [Act.put, List.setIfInBounds_toArray, List.set_cons_zero, List.set_cons_succ, i64_w, i32_w]
                  rfl
                refine take_ (i := 3) (N := some 163) (v := ?_) (a' := ?_) #[true, true, true, true, false, false, false, false, false] rfl rfl (take_ofW HT_.out HW_.out (by kernel_rfl)) (fun _ _ _ h => hQ _ _ _ _ _ h) (Or.inl ⟨by rfl, ?_⟩) hHeld ?_ ?_
                rotate_left
                · rintro w' ⟨s0, s1, s2, s3, s4, s5, s6, s7⟩
                  go_simp
                  with_reducible rfl
                rotate_left
                · simp only [Act.put, List.setIfInBounds_toArray, List.set_cons_zero, List.set_cons_succ, i64_w, i32_w]
                  rfl
                refine pure_ (i := 4) (N := some 164) (v := ?_) (a' := ?_) #[true, true, true, true, true, false, false, false, false] rfl rfl (any_of HT_.out (by kernel_rfl)) (fun _ _ _ h => hQ _ _ _ _ _ h) (Or.inl ⟨by rfl, ?_⟩) ?_ ?_
                rotate_left
                · intro w'
                  go_simp
                  with_reducible rfl
                rotate_left
                · simp only [Act.put, List.setIfInBounds_toArray, List.set_cons_zero, List.set_cons_succ, i64_w, i32_w]
                  rfl
                refine take_ (i := 5) (N := some 165) (v := ?_) (a' := ?_) #[true, true, true, true, true, true, false, false, false] rfl rfl (take_ofW HT_.out HW_.out (by kernel_rfl)) (fun _ _ _ h => hQ _ _ _ _ _ h) (Or.inl ⟨by rfl, ?_⟩) hHeld ?_ ?_
                rotate_left
                · rintro w' ⟨s0, s1, s2, s3, s4, s5, s6, s7⟩
                  go_simp
                  with_reducible rfl
                rotate_left
                · simp only [Act.put, List.setIfInBounds_toArray, List.set_cons_zero, List.set_cons_succ, i64_w, i32_w]
                  rfl
                refine two_ (i := 6) (j := 7) (Ni := some 166) (Nj := some 16) #[true, true, true, true, true, true, true, false, false] #[true, true, true, true, true, true, false, true, false] rfl rfl rfl rfl (two_of HT_.out (by kernel_rfl)) (by decide) (by decide) (fun K hK => ?_) (fun K hK => ?_)
                · refine goes_ Try.func13 (by kernel_rfl) rfl #[.agg #[.int .i64 a, .int .i64 b, .bool c, .bool d, .int .i64 n], .agg #[.int .i64 x6, .int .i64 x7, .slice A3 xl.length c3]] (by rfl) rfl rfl (by (try simp only [List.map_toArray, List.map_cons, List.map_nil]); first | done | rfl) ?_
                  refine (stylusref04_Move.calls a b c d n x6 x7 A3 c3 xl _ _ _ _ _ _ (Kd.C_below R2.out HBW.out.drew) L3.out (movedR_f a b c d n x6 x7 xl HSM.out.1 HSM.out.2)).mono ?_
                  rintro e w5 ⟨rfl, hb5⟩
                  have HW5 := Aside0.mk (below_then (Below.refl wr.heap.size wr).drew (Below.refl wr.heap.size wr).drew.size hb5)
                  refine ⟨_, rfl, ?_⟩
                  refine hK.out _ _ ⟨pw_cell_below hb5 Y0.out, pw_cell_below hb5 Y1.out, pw_cell_below hb5 Y2.out, pw_cell_below hb5 Y3.out, pw_cell_below hb5 Y4.out, (blk_cell (blk_below (blk_drew HZ.out) hb5) 6).trans rfl, (blk_cell (blk_below (blk_drew HZ.out) hb5) 7).trans rfl, (blk_cell (blk_below (blk_drew HZ.out) hb5) 8).trans rfl⟩ (fun hHeld => ?_)
                  clear hb5
                  clear hK K
                  refine norm_ (a' := ?_) ?_ ?_
                  rotate_left
                  · show Act.put _ (some 166) _ = _
                    simp only [Act.put, List.setIfInBounds_toArray, List.set_cons_zero, List.set_cons_succ, i64_w, i32_w]
                    rfl
                  refine one_ (i := 7) (N := some 16) #[true, true, true, true, true, true, true, true, false] rfl rfl (one_of HT_.out (by kernel_rfl)) (by decide) (fun K hK => ?_)
                  refine value_ (by rfl) rfl (v := .pointer (some ⟨w5.heap.size, 0, none⟩)) (w1 := w5.alloc (.cells #[.int .i64 0, .int .i64 0, .bool false, .bool false, .int .i64 0] 42)) ?hr ?_
                  case hr => go_simp
                  refine hK.out _ _ ⟨pw_cell_below (below_alloc (Below.refl _ _) _) (pw_cell_below HW5.out Y0.out), pw_cell_below (below_alloc (Below.refl _ _) _) (pw_cell_below HW5.out Y1.out), pw_cell_below (below_alloc (Below.refl _ _) _) (pw_cell_below HW5.out Y2.out), pw_cell_below (below_alloc (Below.refl _ _) _) (pw_cell_below HW5.out Y3.out), pw_cell_below (below_alloc (Below.refl _ _) _) (pw_cell_below HW5.out Y4.out), (blk_cell (blk_alloc (blk_below HZ.out HW5.out) _) 6).trans rfl, (blk_cell (blk_alloc (blk_below HZ.out HW5.out) _) 7).trans rfl, (blk_cell (blk_alloc (blk_below HZ.out HW5.out) _) 8).trans rfl⟩ (fun hHeld => ?_)
                  clear hK K
                  refine norm_ (a' := ?_) ?_ ?_
                  rotate_left
                  · show Act.put _ (some 16) _ = _
                    simp only [Act.put, List.setIfInBounds_toArray, List.set_cons_zero, List.set_cons_succ, i64_w, i32_w]
                    rfl
                  have XG : Aside0 ((w5.alloc (.cells #[.int .i64 0, .int .i64 0, .bool false, .bool false, .int .i64 0] 42)).heap[w5.heap.size]? = some (.cells #[.int .i64 0, .int .i64 0, .bool false, .bool false, .int .i64 0] 42)) := ⟨blk_new w5 _⟩
                  have HWG : Aside0 (Below wr.heap.size wr (w5.alloc (.cells #[.int .i64 0, .int .i64 0, .bool false, .bool false, .int .i64 0] 42))) := ⟨below_alloc HW5.out _⟩
                  have HGE : Aside0 (wr.heap.size ≤ w5.heap.size) := ⟨HW5.out.size⟩
                  refine last_ (i := 8) (N := none) #[true, true, true, true, true, true, true, true, true] rfl rfl (one_of HT_.out (by kernel_rfl)) (by decide) (fun K hK => ?_)
                  have f0 := blk_frozen XG.out 0
                  have f1 := blk_frozen XG.out 1
                  have f2 := blk_frozen XG.out 2
                  have f3 := blk_frozen XG.out 3
                  have f4 := blk_frozen XG.out 4
                  have g0 := (blk_cell XG.out 0).trans rfl
                  have g1 := (blk_cell XG.out 1).trans rfl
                  have g2 := (blk_cell XG.out 2).trans rfl
                  have g3 := (blk_cell XG.out 3).trans rfl
                  have g4 := (blk_cell XG.out 4).trans rfl
                  refine skip_ (by rfl) rfl (w1 := (w5.alloc (.cells #[.int .i64 0, .int .i64 0, .bool false, .bool false, .int .i64 0] 42)).setCells w5.heap.size 0 [.int .i64 (mvFrom a b c d x6 x7 xl.length), .int .i64 (mvTo a b c d x6 x7 xl.length), .bool c, .bool d, .int .i64 n]) ?hr ?_
                  case hr =>
                    simp only [World.setCells]
                    go_simp
                  refine hK.out _ _ ?_
                  clear f0 f1 f2 f3 f4 g0 g1 g2 g3 g4
                  clear hK K
                  refine done_ (done_of HT_.out (by kernel_rfl)) ?_
                  skip
                  go_wp2_with fail
                  go_meet
                  case rel => exact ⟨w5.heap.size, rfl, ⟨by simpa [putAt] using blk_setCells w5.heap.size 42 [.int .i64 (mvFrom a b c d x6 x7 xl.length), .int .i64 (mvTo a b c d x6 x7 xl.length), .bool c, .bool d, .int .i64 n] _ 0 _ XG.out⟩, ⟨below_setCells w5.heap.size [.int .i64 (mvFrom a b c d x6 x7 xl.length), .int .i64 (mvTo a b c d x6 x7 xl.length), .bool c, .bool d, .int .i64 n] 0 HWG.out HGE.out⟩⟩
                · have HA6 : Aside0 (Below wr.heap.size wr ((wr.drew).alloc (.cells #[.int .i64 0, .int .i64 0, .bool false, .bool false, .int .i64 0] 42))) := ⟨below_alloc (Below.refl _ _).drew _⟩
                  refine value_ (by rfl) rfl (v := .pointer (some ⟨wr.heap.size, 0, none⟩)) (w1 := (wr.drew).alloc (.cells #[.int .i64 0, .int .i64 0, .bool false, .bool false, .int .i64 0] 42)) ?hr ?_
                  case hr => go_simp
                  refine hK.out _ _ ⟨pw_cell_below (below_alloc (Below.refl _ _) _) Y0.out, pw_cell_below (below_alloc (Below.refl _ _) _) Y1.out, pw_cell_below (below_alloc (Below.refl _ _) _) Y2.out, pw_cell_below (below_alloc (Below.refl _ _) _) Y3.out, pw_cell_below (below_alloc (Below.refl _ _) _) Y4.out, (blk_cell (blk_alloc (blk_drew HZ.out) _) 6).trans rfl, (blk_cell (blk_alloc (blk_drew HZ.out) _) 7).trans rfl, (blk_cell (blk_alloc (blk_drew HZ.out) _) 8).trans rfl⟩ (fun hHeld => ?_)
                  clear hK K
                  refine norm_ (a' := ?_) ?_ ?_
                  rotate_left
                  · show Act.put _ (some 16) _ = _
                    simp only [Act.put, List.setIfInBounds_toArray, List.set_cons_zero, List.set_cons_succ, i64_w, i32_w]
                    rfl
                  refine one_ (i := 6) (N := some 166) #[true, true, true, true, true, true, true, true, false] rfl rfl (one_of HT_.out (by kernel_rfl)) (by decide) (fun K hK => ?_)
                  refine goes_ Try.func13 (by kernel_rfl) rfl #[.agg #[.int .i64 a, .int .i64 b, .bool c, .bool d, .int .i64 n], .agg #[.int .i64 x6, .int .i64 x7, .slice A3 xl.length c3]] (by rfl) rfl rfl (by (try simp only [List.map_toArray, List.map_cons, List.map_nil]); first | done | rfl) ?_
                  refine (stylusref04_Move.calls a b c d n x6 x7 A3 c3 xl _ _ _ _ _ _ (Kd.C_below R2.out (below_alloc HBW.out.drew _)) L3.out (movedR_f a b c d n x6 x7 xl HSM.out.1 HSM.out.2)).mono ?_
                  rintro e w5 ⟨rfl, hb5⟩
                  have HW5 := Aside0.mk (below_then HA6.out HA6.out.size hb5)
                  have XG : Aside0 (w5.heap[wr.heap.size]? = some (.cells #[.int .i64 0, .int .i64 0, .bool false, .bool false, .int .i64 0] 42)) := ⟨blk_below (blk_new (wr.drew) (.cells #[.int .i64 0, .int .i64 0, .bool false, .bool false, .int .i64 0] 42)) hb5⟩
                  have HWG := HW5
                  have HGE : Aside0 (wr.heap.size ≤ wr.heap.size) := ⟨Nat.le_refl _⟩
                  refine ⟨_, rfl, ?_⟩
                  refine hK.out _ _ ⟨pw_cell_below HW5.out Y0.out, pw_cell_below HW5.out Y1.out, pw_cell_below HW5.out Y2.out, pw_cell_below HW5.out Y3.out, pw_cell_below HW5.out Y4.out, (blk_cell (blk_below HZ.out HW5.out) 6).trans rfl, (blk_cell (blk_below HZ.out HW5.out) 7).trans rfl, (blk_cell (blk_below HZ.out HW5.out) 8).trans rfl⟩ (fun hHeld => ?_)
                  clear hb5
                  clear hK K
                  refine norm_ (a' := ?_) ?_ ?_
                  rotate_left
                  · show Act.put _ (some 166) _ = _
                    simp only [Act.put, List.setIfInBounds_toArray, List.set_cons_zero, List.set_cons_succ, i64_w, i32_w]
                    rfl
                  refine last_ (i := 8) (N := none) #[true, true, true, true, true, true, true, true, true] rfl rfl (one_of HT_.out (by kernel_rfl)) (by decide) (fun K hK => ?_)
                  have f0 := blk_frozen XG.out 0
                  have f1 := blk_frozen XG.out 1
                  have f2 := blk_frozen XG.out 2
                  have f3 := blk_frozen XG.out 3
                  have f4 := blk_frozen XG.out 4
                  have g0 := (blk_cell XG.out 0).trans rfl
                  have g1 := (blk_cell XG.out 1).trans rfl
                  have g2 := (blk_cell XG.out 2).trans rfl
                  have g3 := (blk_cell XG.out 3).trans rfl
                  have g4 := (blk_cell XG.out 4).trans rfl
                  refine skip_ (by rfl) rfl (w1 := w5.setCells wr.heap.size 0 [.int .i64 (mvFrom a b c d x6 x7 xl.length), .int .i64 (mvTo a b c d x6 x7 xl.length), .bool c, .bool d, .int .i64 n]) ?hr ?_
                  case hr =>
                    simp only [World.setCells]
                    go_simp
                  refine hK.out _ _ ?_
                  clear f0 f1 f2 f3 f4 g0 g1 g2 g3 g4
                  clear hK K
                  refine done_ (done_of HT_.out (by kernel_rfl)) ?_
                  skip
                  go_wp2_with fail
                  go_meet
                  case rel => exact ⟨wr.heap.size, rfl, ⟨by simpa [putAt] using blk_setCells wr.heap.size 42 [.int .i64 (mvFrom a b c d x6 x7 xl.length), .int .i64 (mvTo a b c d x6 x7 xl.length), .bool c, .bool d, .int .i64 n] _ 0 _ XG.out⟩, ⟨below_setCells wr.heap.size [.int .i64 (mvFrom a b c d x6 x7 xl.length), .int .i64 (mvTo a b c d x6 x7 xl.length), .bool c, .bool d, .int .i64 n] 0 HWG.out HGE.out⟩⟩
              case rest =>
                obtain ⟨gb, rfl, XG, HWc⟩ := hcut
                have HBC := Aside0.mk (below_then HB.out HB.out.size HWc.out)
                have HOC := Aside0.mk (Kd.R_below HO.out HWc.out)
                have g0 := (blk_cell XG.out 0).trans rfl
                have g1 := (blk_cell XG.out 1).trans rfl
                have g2 := (blk_cell XG.out 2).trans rfl
                have g3 := (blk_cell XG.out 3).trans rfl
                have g4 := (blk_cell XG.out 4).trans rfl
                go_wp2_with fail
                refine (stylusref04_May.calls (mvFrom a b c d x6 x7 xl.length) (mvTo a b c d x6 x7 xl.length) c d n _ _ (mayR_f (mvFrom a b c d x6 x7 xl.length) (mvTo a b c d x6 x7 xl.length) c d n)).mono ?_
                rintro e w7 ⟨rfl, hb7⟩
                have HB7 := Aside0.mk (below_then HBC.out HBC.out.size hb7)
                have HO7 := Aside0.mk (Kd.R_below HOC.out hb7)
                have XG7 := Aside0.mk (blk_below XG.out hb7)
                have HF2 : Aside0 (mayB (mvFrom a b c d x6 x7 xl.length) (mvTo a b c d x6 x7 xl.length) = (ns.take (j + 1)).all mayX) := ⟨by rw [HX.out, List.all_append, ← HF.out, Bool.true_and]; simp [mayX, mv1]⟩
                obtain ⟨f2, hf2⟩ : ∃ f2, mayB (mvFrom a b c d x6 x7 xl.length) (mvTo a b c d x6 x7 xl.length) = f2 := ⟨_, rfl⟩
                rw [hf2] at HF2 ⊢
                obtain ⟨acc, hacc⟩ : ∃ acc, (ns.take j).map toR = acc := ⟨_, rfl⟩
                have HAL : Aside0 (acc.length ≤ 1000000) := ⟨by rw [← hacc, List.length_map, List.length_take]; omega⟩
                have HX2 : Aside0 ((ns.take (j + 1)).map toR = acc ++ [⟨(mvFrom a b c d x6 x7 xl.length), (mvTo a b c d x6 x7 xl.length), c, d, n⟩]) := ⟨by rw [HX.out, List.map_append, hacc]; rfl⟩
                rw [hacc] at HO7
                clear hb7 g0 g1 g2 g3 g4 hf2 hacc HO HOC HX HF
                have g0 := (blk_cell XG7.out 0).trans rfl
                have g1 := (blk_cell XG7.out 1).trans rfl
                have g2 := (blk_cell XG7.out 2).trans rfl
                have g3 := (blk_cell XG7.out 3).trans rfl
                have g4 := (blk_cell XG7.out 4).trans rfl
                go_wp2_with ((with_reducible refine gate_builtin (b := .append) (xs := #[.tmp 169, .tmp 171]) rfl ?_); at_builtin; refine Kd.R_append k42 (w0 := w3) w3.heap.size rfl (.tmp 169) (.tmp 171) 26 42 _ 32 rfl Try.underlying26 info42 (by rfl) (by decide) (by decide) u14 acc (⟨(mvFrom a b c d x6 x7 xl.length), (mvTo a b c d x6 x7 xl.length), c, d, n⟩ : S42) [.int .i64 (mvFrom a b c d x6 x7 xl.length), .int .i64 (mvTo a b c d x6 x7 xl.length), .bool c, .bool d, .int .i64 n] (fun _ => True) (fun _ => False) rfl rfl ?aP (fun _ hk => hk.elim) ?aF ?aO ?aB ?aS ?aL ?_; (case aP => exact k42_mkM _ _ _ ⟨(mvFrom a b c d x6 x7 xl.length), (mvTo a b c d x6 x7 xl.length), c, d, n⟩); (case aF => exact fun _ _ => trivial); (case aO => exact HO7.out); (case aB => exact HB7.out); (case aS => exact HB7.out.size); (case aL => have := HAL.out; omega); intro v8 w8 ho hb hg hat; have HO8 := Aside0.mk ho; have HB8 := Aside0.mk hb; clear ho hb hg hat)
                go_roundg k1
                case measure => omega
                case rel => exact ⟨j + 1, f2, rfl, by go_num, by omega, by have := HK.out; omega, HF2, ⟨by rw [HX2.out]; exact HO8.out⟩, HB8⟩
        · have hlb : decide ((j : Int) < (ms.length : Int)) = false := decide_eq_false (by omega)
          obtain rfl : j = ms.length := by omega
          have hns : ns.take ms.length = ns := by rw [← HNL.out, List.take_length]
          rw [hns] at HF
          have hft : f = false := HF.out.trans HALL.out
          subst hft
          go_wp2_with fail
          exact SwR.mk ms last v rfl ⟨HG3.out.below HB.out⟩ ⟨Kd.R_below HO3.out HB.out⟩ ⟨HGD.out.next⟩ ⟨below_then HB3.out HB3.out.size HB.out⟩

    · have HALL := Aside0.mk hall
      have HBe := Aside0.mk (HB2.out.trans hme.below)
      have HGe := Aside0.mk hge
      have HOe := Aside0.mk (row_mv HO2.out HG2.out hme)
      have HZe := Aside0.mk (hme.blk HG2.out HZ2.out (by decide) (by decide))
      clear hall hge hme z6 z7 z8
      have z6 := (blk_cell HZe.out 6).trans rfl
      have z7 := (blk_cell HZe.out 7).trans rfl
      have z8 := (blk_cell HZe.out 8).trans rfl
      go_wp2_with fail
      refine (stylusref04_Fair.calls x6 x7 A3 c3 xl _ _ (Kd.C_below R2.out HBe.out) L3.out (fairR_f x6 x7 xl)).mono ?_
      rintro e w3 ⟨rfl, hb3⟩
      rw [HFB.out]
      have HB3 := Aside0.mk (below_then HBe.out HBe.out.size hb3)
      have HG3 := Aside0.mk (HGe.out.below hb3)
      have HO3 : Aside0 (Ro w3 W.heap.size (.slice A4 ms.length c4) ms) := ⟨Kd.R_below HOe.out hb3⟩
      have HZ3 := Aside0.mk (blk_below HZe.out hb3)
      have HR3 : Aside0 (Kd.C k42 w3 A4 ms.length (ms.map toR)) := ⟨by have := (Kd.R_reads' HO3.out).2.2; rwa [List.length_map] at this⟩
      clear hb3 z6 z7 z8
      go_wp2_with fail
      go_loopg [13, 14, 15] (ms.length + 1) (fun kq v13 v14 v15 wr => ∃ (j : Nat) (f : Bool), v13 = .bool f ∧ v15 = .int .i64 (j : Int) ∧ j ≤ ms.length ∧ kq + j = ms.length + 1 ∧ Aside0 (f = (ns.take j).all mayX) ∧ Aside0 (Kd.R k42 42 wr w3.heap.size (fun _ => True) v14 ((ns.take j).map toR)) ∧ Aside0 (Below w3.heap.size w3 wr))
      case atStart => exact ⟨0, true, rfl, rfl, by omega, by omega, ⟨rfl⟩, ⟨by simpa using Kd.R_nil _ _ _ _ _⟩, ⟨Below.refl _ _⟩⟩
      case round =>
        obtain ⟨j, f, rfl, rfl, hj, hkq, HF, HO, HB⟩ := hrel
        have HK := Aside0.mk hkq
        clear hkq
        by_cases hlt : j < ms.length
        · have hlb : decide ((j : Int) < (ms.length : Int)) = true := decide_eq_true (by omega)
          cases f with
          | false =>
            have hall' := HALL.out
            have h2 : (ns.take j).all mayX = true := by
              rw [← List.take_append_drop j ns, List.all_append, Bool.and_eq_true] at hall'
              exact hall'.1
            rw [h2] at HF
            exact absurd HF.out (by decide)
          | true =>
            obtain ⟨ad, hA4, y0, y1, y2, y3, y4⟩ := at_T42 (Kd.C_below HR3.out HB.out) (j : Int) (by omega) (by omega)
            subst hA4
            rw [Int.toNat_natCast, rd_map ms j hlt] at y0 y1 y2 y3 y4
            have HX := Aside0.mk (show ns.take (j + 1) = ns.take j ++ [mv1 x6 x7 xl.length (ms.getD j z64)] by
              have hjn : j < ns.length := by rw [HNL.out]; exact hlt
              rw [List.take_succ_eq_append_getElem hjn]
              congr 2
              have : ms.getD j z64 = ms[j] := by rw [List.getD_eq_getElem?_getD, List.getElem?_eq_getElem hlt]; rfl
              rw [this]
              simp [← HNS.out])
            have hmj : mayX (ms.getD j z64) = true := by
              rw [show ms.getD j z64 = ms[j] by rw [List.getD_eq_getElem?_getD, List.getElem?_eq_getElem hlt]; rfl]
              exact List.all_eq_true.1 HGD.out.may _ (List.getElem_mem hlt)
            obtain ⟨x, hx⟩ : ∃ x, ms.getD j z64 = x := ⟨_, rfl⟩
            obtain ⟨⟨⟨a, b⟩, c, d⟩, n⟩ := x
            rw [hx] at hmj HX y0 y1 y2 y3 y4
            simp only [toR] at y0 y1 y2 y3 y4
            have HSM := Aside0.mk (sm_of (a := a) (b := b) hmj HFB.out (by omega : xl.length ≤ 100000))
            have HBW := Aside0.mk (below_then HB3.out HB3.out.size HB.out)
            have Y0 := Aside0.mk (show wr.drew.cell? _ = _ from y0)
            have Y1 := Aside0.mk (show wr.drew.cell? _ = _ from y1)
            have Y2 := Aside0.mk (show wr.drew.cell? _ = _ from y2)
            have Y3 := Aside0.mk (show wr.drew.cell? _ = _ from y3)
            have Y4 := Aside0.mk (show wr.drew.cell? _ = _ from y4)
            have HZ := Aside0.mk (blk_below HZ3.out HB.out)
            clear hx y0 y1 y2 y3 y4 hmj
            cases gk with
            | zero => exact absurd HK.out (by omega)
            | succ k1 =>
              go_upto_region 39 with fail
              go_cut [16] from 160 to 166 (fun v16 wc => ∃ gb : Nat, v16 = .pointer (some ⟨gb, 0, none⟩) ∧ Aside0 (wc.heap[gb]? = some (.cells #[.int .i64 (mvFrom a b c d x6 x7 xl.length), .int .i64 (mvTo a b c d x6 x7 xl.length), .bool c, .bool d, .int .i64 n] 42)) ∧ Aside0 (Below wr.heap.size wr wc))
              case first =>
                refine start_ (n := 9) (S := fun w' => w'.cell? (ad.add (j * 5)) = some (.int .i64 a) ∧ w'.cell? ⟨(ad.add (j * 5)).block, (ad.add (j * 5)).off + 1, none⟩ = some (.int .i64 b) ∧ w'.cell? ⟨(ad.add (j * 5)).block, (ad.add (j * 5)).off + 2, none⟩ = some (.bool c) ∧ w'.cell? ⟨(ad.add (j * 5)).block, (ad.add (j * 5)).off + 3, none⟩ = some (.bool d) ∧ w'.cell? ⟨(ad.add (j * 5)).block, (ad.add (j * 5)).off + 4, none⟩ = some (.int .i64 n) ∧ w'.cell? ⟨q, 6, none⟩ = some (.int .i64 x6) ∧ w'.cell? ⟨q, 7, none⟩ = some (.int .i64 x7) ∧ w'.cell? ⟨q, 8, none⟩ = some (.slice A3 xl.length c3)) (ds := [8]) #[false, false, false, false, false, false, false, false, false] (by kernel_rfl) rfl rfl ⟨Y0.out, Y1.out, Y2.out, Y3.out, Y4.out, (blk_cell (blk_drew HZ.out) 6).trans rfl, (blk_cell (blk_drew HZ.out) 7).trans rfl, (blk_cell (blk_drew HZ.out) 8).trans rfl⟩ (fun hHeld => ?_); refine with_tabW movL.tab39 movL.bits39 (fun HT_ HW_ => ?_)
                refine pure_ (i := 0) (N := some 160) (v := ?_) (a' := ?_) #[true, false, false, false, false, false, false, false, false] rfl rfl (any_of HT_.out (by kernel_rfl)) (fun _ _ _ h => hQ _ _ _ _ _ h) (Or.inl ⟨by rfl, ?_⟩) ?_ ?_
                rotate_left
                · intro w'
                  go_simp
                  with_reducible rfl
                rotate_left
                · simp only [Act.put, List.setIfInBounds_toArray, List.set_cons_zero, List.set_cons_succ, i64_w, i32_w]
                  rfl
                refine pure_ (i := 1) (N := some 161) (v := ?_) (a' := ?_) #[true, true, false, false, false, false, false, false, false] rfl rfl (any_of HT_.out (by kernel_rfl)) (fun _ _ _ h => hQ _ _ _ _ _ h) (Or.inl ⟨by rfl, ?_⟩) ?_ ?_
                rotate_left
                · intro w'
                  go_simp
                  with_reducible rfl
                rotate_left
                · simp only [Act.put, List.setIfInBounds_toArray, List.set_cons_zero, List.set_cons_succ, i64_w, i32_w]
                  rfl
                refine pure_ (i := 2) (N := some 162) (v := ?_) (a' := ?_) #[true, true, true, false, false, false, false, false, false] rfl rfl (any_of HT_.out (by kernel_rfl)) (fun _ _ _ h => hQ _ _ _ _ _ h) (Or.inl ⟨by rfl, ?_⟩) ?_ ?_
                rotate_left
                · intro w'
                  go_simp
                  with_reducible rfl
                rotate_left
                · simp only [Act.put, List.setIfInBounds_toArray, List.set_cons_zero, List.set_cons_succ, i64_w, i32_w]
                  rfl
                refine take_ (i := 3) (N := some 163) (v := ?_) (a' := ?_) #[true, true, true, true, false, false, false, false, false] rfl rfl (take_ofW HT_.out HW_.out (by kernel_rfl)) (fun _ _ _ h => hQ _ _ _ _ _ h) (Or.inl ⟨by rfl, ?_⟩) hHeld ?_ ?_
                rotate_left
                · rintro w' ⟨s0, s1, s2, s3, s4, s5, s6, s7⟩
                  go_simp
                  with_reducible rfl
                rotate_left
                · simp only [Act.put, List.setIfInBounds_toArray, List.set_cons_zero, List.set_cons_succ, i64_w, i32_w]
                  rfl
                refine pure_ (i := 4) (N := some 164) (v := ?_) (a' := ?_) #[true, true, true, true, true, false, false, false, false] rfl rfl (any_of HT_.out (by kernel_rfl)) (fun _ _ _ h => hQ _ _ _ _ _ h) (Or.inl ⟨by rfl, ?_⟩) ?_ ?_
                rotate_left
                · intro w'
                  go_simp
                  with_reducible rfl
                rotate_left
                · simp only [Act.put, List.setIfInBounds_toArray, List.set_cons_zero, List.set_cons_succ, i64_w, i32_w]
                  rfl
                refine take_ (i := 5) (N := some 165) (v := ?_) (a' := ?_) #[true, true, true, true, true, true, false, false, false] rfl rfl (take_ofW HT_.out HW_.out (by kernel_rfl)) (fun _ _ _ h => hQ _ _ _ _ _ h) (Or.inl ⟨by rfl, ?_⟩) hHeld ?_ ?_
                rotate_left
                · rintro w' ⟨s0, s1, s2, s3, s4, s5, s6, s7⟩
                  go_simp
                  with_reducible rfl
                rotate_left
                · simp only [Act.put, List.setIfInBounds_toArray, List.set_cons_zero, List.set_cons_succ, i64_w, i32_w]
                  rfl
                refine two_ (i := 6) (j := 7) (Ni := some 166) (Nj := some 16) #[true, true, true, true, true, true, true, false, false] #[true, true, true, true, true, true, false, true, false] rfl rfl rfl rfl (two_of HT_.out (by kernel_rfl)) (by decide) (by decide) (fun K hK => ?_) (fun K hK => ?_)
                · refine goes_ Try.func13 (by kernel_rfl) rfl #[.agg #[.int .i64 a, .int .i64 b, .bool c, .bool d, .int .i64 n], .agg #[.int .i64 x6, .int .i64 x7, .slice A3 xl.length c3]] (by rfl) rfl rfl (by (try simp only [List.map_toArray, List.map_cons, List.map_nil]); first | done | rfl) ?_
                  refine (stylusref04_Move.calls a b c d n x6 x7 A3 c3 xl _ _ _ _ _ _ (Kd.C_below R2.out HBW.out.drew) L3.out (movedR_f a b c d n x6 x7 xl HSM.out.1 HSM.out.2)).mono ?_
                  rintro e w5 ⟨rfl, hb5⟩
                  have HW5 := Aside0.mk (below_then (Below.refl wr.heap.size wr).drew (Below.refl wr.heap.size wr).drew.size hb5)
                  refine ⟨_, rfl, ?_⟩
                  refine hK.out _ _ ⟨pw_cell_below hb5 Y0.out, pw_cell_below hb5 Y1.out, pw_cell_below hb5 Y2.out, pw_cell_below hb5 Y3.out, pw_cell_below hb5 Y4.out, (blk_cell (blk_below (blk_drew HZ.out) hb5) 6).trans rfl, (blk_cell (blk_below (blk_drew HZ.out) hb5) 7).trans rfl, (blk_cell (blk_below (blk_drew HZ.out) hb5) 8).trans rfl⟩ (fun hHeld => ?_)
                  clear hb5
                  clear hK K
                  refine norm_ (a' := ?_) ?_ ?_
                  rotate_left
                  · show Act.put _ (some 166) _ = _
                    simp only [Act.put, List.setIfInBounds_toArray, List.set_cons_zero, List.set_cons_succ, i64_w, i32_w]
                    rfl
                  refine one_ (i := 7) (N := some 16) #[true, true, true, true, true, true, true, true, false] rfl rfl (one_of HT_.out (by kernel_rfl)) (by decide) (fun K hK => ?_)
                  refine value_ (by rfl) rfl (v := .pointer (some ⟨w5.heap.size, 0, none⟩)) (w1 := w5.alloc (.cells #[.int .i64 0, .int .i64 0, .bool false, .bool false, .int .i64 0] 42)) ?hr ?_
                  case hr => go_simp
                  refine hK.out _ _ ⟨pw_cell_below (below_alloc (Below.refl _ _) _) (pw_cell_below HW5.out Y0.out), pw_cell_below (below_alloc (Below.refl _ _) _) (pw_cell_below HW5.out Y1.out), pw_cell_below (below_alloc (Below.refl _ _) _) (pw_cell_below HW5.out Y2.out), pw_cell_below (below_alloc (Below.refl _ _) _) (pw_cell_below HW5.out Y3.out), pw_cell_below (below_alloc (Below.refl _ _) _) (pw_cell_below HW5.out Y4.out), (blk_cell (blk_alloc (blk_below HZ.out HW5.out) _) 6).trans rfl, (blk_cell (blk_alloc (blk_below HZ.out HW5.out) _) 7).trans rfl, (blk_cell (blk_alloc (blk_below HZ.out HW5.out) _) 8).trans rfl⟩ (fun hHeld => ?_)
                  clear hK K
                  refine norm_ (a' := ?_) ?_ ?_
                  rotate_left
                  · show Act.put _ (some 16) _ = _
                    simp only [Act.put, List.setIfInBounds_toArray, List.set_cons_zero, List.set_cons_succ, i64_w, i32_w]
                    rfl
                  have XG : Aside0 ((w5.alloc (.cells #[.int .i64 0, .int .i64 0, .bool false, .bool false, .int .i64 0] 42)).heap[w5.heap.size]? = some (.cells #[.int .i64 0, .int .i64 0, .bool false, .bool false, .int .i64 0] 42)) := ⟨blk_new w5 _⟩
                  have HWG : Aside0 (Below wr.heap.size wr (w5.alloc (.cells #[.int .i64 0, .int .i64 0, .bool false, .bool false, .int .i64 0] 42))) := ⟨below_alloc HW5.out _⟩
                  have HGE : Aside0 (wr.heap.size ≤ w5.heap.size) := ⟨HW5.out.size⟩
                  refine last_ (i := 8) (N := none) #[true, true, true, true, true, true, true, true, true] rfl rfl (one_of HT_.out (by kernel_rfl)) (by decide) (fun K hK => ?_)
                  have f0 := blk_frozen XG.out 0
                  have f1 := blk_frozen XG.out 1
                  have f2 := blk_frozen XG.out 2
                  have f3 := blk_frozen XG.out 3
                  have f4 := blk_frozen XG.out 4
                  have g0 := (blk_cell XG.out 0).trans rfl
                  have g1 := (blk_cell XG.out 1).trans rfl
                  have g2 := (blk_cell XG.out 2).trans rfl
                  have g3 := (blk_cell XG.out 3).trans rfl
                  have g4 := (blk_cell XG.out 4).trans rfl
                  refine skip_ (by rfl) rfl (w1 := (w5.alloc (.cells #[.int .i64 0, .int .i64 0, .bool false, .bool false, .int .i64 0] 42)).setCells w5.heap.size 0 [.int .i64 (mvFrom a b c d x6 x7 xl.length), .int .i64 (mvTo a b c d x6 x7 xl.length), .bool c, .bool d, .int .i64 n]) ?hr ?_
                  case hr =>
                    simp only [World.setCells]
                    go_simp
                  refine hK.out _ _ ?_
                  clear f0 f1 f2 f3 f4 g0 g1 g2 g3 g4
                  clear hK K
                  refine done_ (done_of HT_.out (by kernel_rfl)) ?_
                  skip
                  go_wp2_with fail
                  go_meet
                  case rel => exact ⟨w5.heap.size, rfl, ⟨by simpa [putAt] using blk_setCells w5.heap.size 42 [.int .i64 (mvFrom a b c d x6 x7 xl.length), .int .i64 (mvTo a b c d x6 x7 xl.length), .bool c, .bool d, .int .i64 n] _ 0 _ XG.out⟩, ⟨below_setCells w5.heap.size [.int .i64 (mvFrom a b c d x6 x7 xl.length), .int .i64 (mvTo a b c d x6 x7 xl.length), .bool c, .bool d, .int .i64 n] 0 HWG.out HGE.out⟩⟩
                · have HA6 : Aside0 (Below wr.heap.size wr ((wr.drew).alloc (.cells #[.int .i64 0, .int .i64 0, .bool false, .bool false, .int .i64 0] 42))) := ⟨below_alloc (Below.refl _ _).drew _⟩
                  refine value_ (by rfl) rfl (v := .pointer (some ⟨wr.heap.size, 0, none⟩)) (w1 := (wr.drew).alloc (.cells #[.int .i64 0, .int .i64 0, .bool false, .bool false, .int .i64 0] 42)) ?hr ?_
                  case hr => go_simp
                  refine hK.out _ _ ⟨pw_cell_below (below_alloc (Below.refl _ _) _) Y0.out, pw_cell_below (below_alloc (Below.refl _ _) _) Y1.out, pw_cell_below (below_alloc (Below.refl _ _) _) Y2.out, pw_cell_below (below_alloc (Below.refl _ _) _) Y3.out, pw_cell_below (below_alloc (Below.refl _ _) _) Y4.out, (blk_cell (blk_alloc (blk_drew HZ.out) _) 6).trans rfl, (blk_cell (blk_alloc (blk_drew HZ.out) _) 7).trans rfl, (blk_cell (blk_alloc (blk_drew HZ.out) _) 8).trans rfl⟩ (fun hHeld => ?_)
                  clear hK K
                  refine norm_ (a' := ?_) ?_ ?_
                  rotate_left
                  · show Act.put _ (some 16) _ = _
                    simp only [Act.put, List.setIfInBounds_toArray, List.set_cons_zero, List.set_cons_succ, i64_w, i32_w]
                    rfl
                  refine one_ (i := 6) (N := some 166) #[true, true, true, true, true, true, true, true, false] rfl rfl (one_of HT_.out (by kernel_rfl)) (by decide) (fun K hK => ?_)
                  refine goes_ Try.func13 (by kernel_rfl) rfl #[.agg #[.int .i64 a, .int .i64 b, .bool c, .bool d, .int .i64 n], .agg #[.int .i64 x6, .int .i64 x7, .slice A3 xl.length c3]] (by rfl) rfl rfl (by (try simp only [List.map_toArray, List.map_cons, List.map_nil]); first | done | rfl) ?_
                  refine (stylusref04_Move.calls a b c d n x6 x7 A3 c3 xl _ _ _ _ _ _ (Kd.C_below R2.out (below_alloc HBW.out.drew _)) L3.out (movedR_f a b c d n x6 x7 xl HSM.out.1 HSM.out.2)).mono ?_
                  rintro e w5 ⟨rfl, hb5⟩
                  have HW5 := Aside0.mk (below_then HA6.out HA6.out.size hb5)
                  have XG : Aside0 (w5.heap[wr.heap.size]? = some (.cells #[.int .i64 0, .int .i64 0, .bool false, .bool false, .int .i64 0] 42)) := ⟨blk_below (blk_new (wr.drew) (.cells #[.int .i64 0, .int .i64 0, .bool false, .bool false, .int .i64 0] 42)) hb5⟩
                  have HWG := HW5
                  have HGE : Aside0 (wr.heap.size ≤ wr.heap.size) := ⟨Nat.le_refl _⟩
                  refine ⟨_, rfl, ?_⟩
                  refine hK.out _ _ ⟨pw_cell_below HW5.out Y0.out, pw_cell_below HW5.out Y1.out, pw_cell_below HW5.out Y2.out, pw_cell_below HW5.out Y3.out, pw_cell_below HW5.out Y4.out, (blk_cell (blk_below HZ.out HW5.out) 6).trans rfl, (blk_cell (blk_below HZ.out HW5.out) 7).trans rfl, (blk_cell (blk_below HZ.out HW5.out) 8).trans rfl⟩ (fun hHeld => ?_)
                  clear hb5
                  clear hK K
                  refine norm_ (a' := ?_) ?_ ?_
                  rotate_left
                  · show Act.put _ (some 166) _ = _
                    simp only [Act.put, List.setIfInBounds_toArray, List.set_cons_zero, List.set_cons_succ, i64_w, i32_w]
                    rfl
                  refine last_ (i := 8) (N := none) #[true, true, true, true, true, true, true, true, true] rfl rfl (one_of HT_.out (by kernel_rfl)) (by decide) (fun K hK => ?_)
                  have f0 := blk_frozen XG.out 0
                  have f1 := blk_frozen XG.out 1
                  have f2 := blk_frozen XG.out 2
                  have f3 := blk_frozen XG.out 3
                  have f4 := blk_frozen XG.out 4
                  have g0 := (blk_cell XG.out 0).trans rfl
                  have g1 := (blk_cell XG.out 1).trans rfl
                  have g2 := (blk_cell XG.out 2).trans rfl
                  have g3 := (blk_cell XG.out 3).trans rfl
                  have g4 := (blk_cell XG.out 4).trans rfl
                  refine skip_ (by rfl) rfl (w1 := w5.setCells wr.heap.size 0 [.int .i64 (mvFrom a b c d x6 x7 xl.length), .int .i64 (mvTo a b c d x6 x7 xl.length), .bool c, .bool d, .int .i64 n]) ?hr ?_
                  case hr =>
                    simp only [World.setCells]
                    go_simp
                  refine hK.out _ _ ?_
                  clear f0 f1 f2 f3 f4 g0 g1 g2 g3 g4
                  clear hK K
                  refine done_ (done_of HT_.out (by kernel_rfl)) ?_
                  skip
                  go_wp2_with fail
                  go_meet
                  case rel => exact ⟨wr.heap.size, rfl, ⟨by simpa [putAt] using blk_setCells wr.heap.size 42 [.int .i64 (mvFrom a b c d x6 x7 xl.length), .int .i64 (mvTo a b c d x6 x7 xl.length), .bool c, .bool d, .int .i64 n] _ 0 _ XG.out⟩, ⟨below_setCells wr.heap.size [.int .i64 (mvFrom a b c d x6 x7 xl.length), .int .i64 (mvTo a b c d x6 x7 xl.length), .bool c, .bool d, .int .i64 n] 0 HWG.out HGE.out⟩⟩
              case rest =>
                obtain ⟨gb, rfl, XG, HWc⟩ := hcut
                have HBC := Aside0.mk (below_then HB.out HB.out.size HWc.out)
                have HOC := Aside0.mk (Kd.R_below HO.out HWc.out)
                have g0 := (blk_cell XG.out 0).trans rfl
                have g1 := (blk_cell XG.out 1).trans rfl
                have g2 := (blk_cell XG.out 2).trans rfl
                have g3 := (blk_cell XG.out 3).trans rfl
                have g4 := (blk_cell XG.out 4).trans rfl
                go_wp2_with fail
                refine (stylusref04_May.calls (mvFrom a b c d x6 x7 xl.length) (mvTo a b c d x6 x7 xl.length) c d n _ _ (mayR_f (mvFrom a b c d x6 x7 xl.length) (mvTo a b c d x6 x7 xl.length) c d n)).mono ?_
                rintro e w7 ⟨rfl, hb7⟩
                have HB7 := Aside0.mk (below_then HBC.out HBC.out.size hb7)
                have HO7 := Aside0.mk (Kd.R_below HOC.out hb7)
                have XG7 := Aside0.mk (blk_below XG.out hb7)
                have HF2 : Aside0 (mayB (mvFrom a b c d x6 x7 xl.length) (mvTo a b c d x6 x7 xl.length) = (ns.take (j + 1)).all mayX) := ⟨by rw [HX.out, List.all_append, ← HF.out, Bool.true_and]; simp [mayX, mv1]⟩
                obtain ⟨f2, hf2⟩ : ∃ f2, mayB (mvFrom a b c d x6 x7 xl.length) (mvTo a b c d x6 x7 xl.length) = f2 := ⟨_, rfl⟩
                rw [hf2] at HF2 ⊢
                obtain ⟨acc, hacc⟩ : ∃ acc, (ns.take j).map toR = acc := ⟨_, rfl⟩
                have HAL : Aside0 (acc.length ≤ 1000000) := ⟨by rw [← hacc, List.length_map, List.length_take]; omega⟩
                have HX2 : Aside0 ((ns.take (j + 1)).map toR = acc ++ [⟨(mvFrom a b c d x6 x7 xl.length), (mvTo a b c d x6 x7 xl.length), c, d, n⟩]) := ⟨by rw [HX.out, List.map_append, hacc]; rfl⟩
                rw [hacc] at HO7
                clear hb7 g0 g1 g2 g3 g4 hf2 hacc HO HOC HX HF
                have g0 := (blk_cell XG7.out 0).trans rfl
                have g1 := (blk_cell XG7.out 1).trans rfl
                have g2 := (blk_cell XG7.out 2).trans rfl
                have g3 := (blk_cell XG7.out 3).trans rfl
                have g4 := (blk_cell XG7.out 4).trans rfl
                go_wp2_with ((with_reducible refine gate_builtin (b := .append) (xs := #[.tmp 169, .tmp 171]) rfl ?_); at_builtin; refine Kd.R_append k42 (w0 := w3) w3.heap.size rfl (.tmp 169) (.tmp 171) 26 42 _ 32 rfl Try.underlying26 info42 (by rfl) (by decide) (by decide) u14 acc (⟨(mvFrom a b c d x6 x7 xl.length), (mvTo a b c d x6 x7 xl.length), c, d, n⟩ : S42) [.int .i64 (mvFrom a b c d x6 x7 xl.length), .int .i64 (mvTo a b c d x6 x7 xl.length), .bool c, .bool d, .int .i64 n] (fun _ => True) (fun _ => False) rfl rfl ?aP (fun _ hk => hk.elim) ?aF ?aO ?aB ?aS ?aL ?_; (case aP => exact k42_mkM _ _ _ ⟨(mvFrom a b c d x6 x7 xl.length), (mvTo a b c d x6 x7 xl.length), c, d, n⟩); (case aF => exact fun _ _ => trivial); (case aO => exact HO7.out); (case aB => exact HB7.out); (case aS => exact HB7.out.size); (case aL => have := HAL.out; omega); intro v8 w8 ho hb hg hat; have HO8 := Aside0.mk ho; have HB8 := Aside0.mk hb; clear ho hb hg hat)
                go_roundg k1
                case measure => omega
                case rel => exact ⟨j + 1, f2, rfl, by go_num, by omega, by have := HK.out; omega, HF2, ⟨by rw [HX2.out]; exact HO8.out⟩, HB8⟩
        · have hlb : decide ((j : Int) < (ms.length : Int)) = false := decide_eq_false (by omega)
          obtain rfl : j = ms.length := by omega
          have hns : ns.take ms.length = ns := by rw [← HNL.out, List.take_length]
          rw [hns] at HF HO
          have hft : f = true := HF.out.trans HALL.out
          subst hft
          go_wp2_with fail
          exact SwR.mk ns last v3 rfl ⟨HG3.out.below HB.out⟩ ⟨Kd.R_lower HO.out HB3.out.size⟩ ⟨by have := HGD.out.moved (mv1 x6 x7 xl.length) (fun _ => rfl) (by rw [HNS.out]; exact HALL.out); rwa [HNS.out] at this⟩ ⟨below_then HB3.out HB3.out.size HB.out⟩

end Go.Proofs.Ytbeoillppkcpmaa.Mark
