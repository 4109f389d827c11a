/- The law's switch, walked for Add. For ranges as the rounds keep them. -/
import Derived.Laws.Cover3
import Derived.Deep.CutBlock
import Derived.Deep.DeepCutAuto
import Derived.Test.YtbeoillppkcpmaaMarkU
namespace Go.Proofs.Ytbeoillppkcpmaa.Mark
open Go.RowKit Go.Proofs.YtbeoillppkcpmaaW.PrintWords Go.Proofs.YtbeoillppkcpmaaW.PrintLast Go.Proofs.YtbeoillppkcpmaaW.PrintMore Go.Proofs.Ytbeoillppkcpmaa.PMarksPlay
attribute [local go_sem] max2_int min2_int max_two min_two max_three min_three max_four min_four
attribute [local go_sem high] eqA28 eqA42
set_option linter.unusedVariables false
set_option linter.unusedSimpArgs false

theorem mayR_f (a b : Int) (c d : Bool) (i : Int) : stylusref04_May.f a b c d i = some (mayB a b) := by
  unfold stylusref04_May.f mayB
  by_cases h1 : 0 ≤ a
  · rw [if_pos h1]
    by_cases h2 : a ≤ b
    · rw [if_pos h2]
      by_cases h3 : b ≤ 2147483648
      · rw [decide_eq_true h3, decide_eq_true ⟨h1, h2, h3⟩]
      · rw [decide_eq_false h3, decide_eq_false (fun h => h3 h.2.2)]
    · rw [if_neg h2, decide_eq_false (fun h => h2 h.2.1)]
  · rw [if_neg h1, decide_eq_false (fun h => h1 h.1)]
def addL.T25 : Bool × List (List Nat × List Nat) := (true, [([], []), ([], []), ([0, 1], [0, 1]), ([], []), ([3], [3]), ([], []), ([4, 5, 2], [4, 5]), ([6], [6]), ([2, 7, 6], [2, 7]), ([8, 8, 0, 1, 2, 3, 4, 5, 6, 7, 8], [1, 8])])
def addL.B25 : List Nat := [0, 0, 3, 0, 8, 0, 63, 127, 255, 511]
theorem addL.tab25 : rtab .any (opsOf Try.f3 25) = addL.T25 := by kernel_rfl
theorem addL.bits25 : waitsOk addL.T25.2 addL.B25 = true := by kernel_rfl
set_option maxHeartbeats 16000000 in
set_option maxRecDepth 100000 in
theorem arm_add {W : World} {g i q : Nat} {u0 u1 u2 u6 u9 u10 u11 u12 u13 u14 u15 u16 u17 u18 u19 u20 u21 u22 u23 u24 u25 u26 u27 u28 u29 u30 u31 u32 u33 u34 u35 u36 u37 u38 u39 u40 u41 u42 u43 u44 u45 u46 u47 u48 u49 u50 u51 u52 u53 u54 u55 u56 u57 u58 u59 u60 u61 u63 u64 u65 u66 u67 u68 u69 u70 u71 u72 u73 u74 u75 u76 u77 u78 u79 u80 u81 u82 u83 u84 u85 u86 u87 u88 u89 u90 u91 u92 u93 u94 u95 u96 u97 u98 u99 u100 u101 u102 u103 u104 u105 u106 u107 u108 u109 u110 u111 u112 u113 u114 u115 u116 u117 u118 u119 u120 u121 u122 u123 u124 u125 u126 u127 u128 u129 u130 u131 u132 u133 u134 u135 u136 u137 u138 u139 u140 u141 u142 u143 u144 u145 u146 u147 u148 u149 u150 u151 u152 u153 u154 u155 u156 u157 u158 u159 u160 u161 u162 u163 u164 u165 u166 u167 u168 u169 u170 u171 u172 u173 u174 u175 u176 u177 u178 u179 u180 u181 u182 u183 u184 u185 u186 u187 u188 u189 u190 u191 u192 u193 u194 u195 u196 u197 u198 u199 u200 u201 u202 u203 u204 u205 u206 u207 u208 u209 u210 u211 u212 u213 u214 u215 u216 u217 u218 u219 u220 u221 u222 u223 u224 u225 u226 u227 u228 u229 u230 u231 u232 u233 u234 u235 u236 u237 u238 u239 u240 u241 u242 u243 u244 u245 u246 u247 u248 u249 u250 u251 u252 u253 u254 u255 u256 u257 u258 u259 u260 u261 u262 u263 u264 u265 u266 u267 u268 u269 u270 u271 u272 u273 u274 u275 u276 u277 u278 u279 u280 u281 u282 u283 u284 u285 u286 u287 u288 u289 u290 u291 u292 u293 u294 u295 u296 u297 u298 u299 u300 u301 u302 u303 u304 u305 u306 u307 u308 u309 u310 u311 u312 u313 u314 u315 u316 u317 u318 u319 u320 u321 u322 u323 u324 u325 u326 u327 u328 u329 u330 u331 u332 u333 u334 u335 u336 u337 u338 u339 u340 u341 u342 u343 u344 u345 u346 u347 u348 u349 u350 u351 u352 u353 u354 u355 u356 u357 u358 u359 u360 u361 u362 u363 u364 u365 u366 u367 u368 u369 u370 : Value} {ms : List S64} {last : Int} {v : Value} {x1 x2 x3 : Int} {x4 x5 : Bool} {x6 x7 : Int} {xl : List Int} {A3 A4 : Option Addr} {c3 c4 p : Nat} {w2 : World} {K : Act → World → Prop} {Q' : Exit → Act → World → Prop}
    (HG2 : Aside0 (MarksAt W.heap.size w2 g v ms last)) (HO2 : Aside0 (Ro w2 W.heap.size (.slice A4 ms.length c4) ms)) (HGD : Aside0 (Good ms last i)) (HB2 : Aside0 (Below W.heap.size W w2)) (HZ2 : Aside0 (w2.heap[q]? = some (.cells #[.int .i64 0, .int .i64 x1, .int .i64 x2, .int .i64 x3, .bool x4, .bool x5, .int .i64 x6, .int .i64 x7, .slice A3 xl.length c3] 35))) (L3 : Aside0 (xl.length ≤ c3)) (R2 : Aside0 (Kd.C (Kd.int .i32) W A3 xl.length xl)) (HXL : Aside0 (xl.length ≤ 300)) (HI : Aside0 (i ≤ 100)) (HP : Aside0 (Low ms x1 p))
    (hQ : ∀ c a N u w, Q' (.panic c) (Act.put a N u) w → Q' (.panic c) a w) (hK : ∀ a' w', SwR W g i u0 u1 u6 u28 u29 u30 u31 u32 u33 u34 u35 u36 u37 u38 u39 u40 u370 a' w' → K a' w') :
    Code.wp Try.prog swC (Exit.then K Q') ({ tmps := List.toArray (u0 :: u1 :: u2 :: Value.pointer (some ⟨g, 0, none⟩) :: Value.slice A4 ms.length c4 :: Value.int .i64 last :: u6 :: Value.pointer (some ⟨q, 0, none⟩) :: Value.int .i64 (atF ms x1 p) :: u9 :: u10 :: u11 :: u12 :: u13 :: u14 :: u15 :: u16 :: u17 :: u18 :: u19 :: u20 :: u21 :: u22 :: u23 :: u24 :: u25 :: u26 :: u27 :: u28 :: u29 :: u30 :: u31 :: u32 :: u33 :: u34 :: u35 :: u36 :: u37 :: u38 :: u39 :: u40 :: u41 :: u42 :: u43 :: u44 :: u45 :: u46 :: u47 :: u48 :: u49 :: u50 :: u51 :: u52 :: u53 :: u54 :: u55 :: u56 :: u57 :: u58 :: u59 :: u60 :: u61 :: Value.int .i64 0 :: u63 :: u64 :: u65 :: u66 :: u67 :: u68 :: u69 :: u70 :: u71 :: u72 :: u73 :: u74 :: u75 :: u76 :: u77 :: u78 :: u79 :: u80 :: u81 :: u82 :: u83 :: u84 :: u85 :: u86 :: u87 :: u88 :: u89 :: u90 :: u91 :: u92 :: u93 :: u94 :: u95 :: u96 :: u97 :: u98 :: u99 :: u100 :: u101 :: u102 :: u103 :: u104 :: u105 :: u106 :: u107 :: u108 :: u109 :: u110 :: u111 :: u112 :: u113 :: u114 :: u115 :: u116 :: u117 :: u118 :: u119 :: u120 :: u121 :: u122 :: u123 :: u124 :: u125 :: u126 :: u127 :: u128 :: u129 :: u130 :: u131 :: u132 :: u133 :: u134 :: u135 :: u136 :: u137 :: u138 :: u139 :: u140 :: u141 :: u142 :: u143 :: u144 :: u145 :: u146 :: u147 :: u148 :: u149 :: u150 :: u151 :: u152 :: u153 :: u154 :: u155 :: u156 :: u157 :: u158 :: u159 :: u160 :: u161 :: u162 :: u163 :: u164 :: u165 :: u166 :: u167 :: u168 :: u169 :: u170 :: u171 :: u172 :: u173 :: u174 :: u175 :: u176 :: u177 :: u178 :: u179 :: u180 :: u181 :: u182 :: u183 :: u184 :: u185 :: u186 :: u187 :: u188 :: u189 :: u190 :: u191 :: u192 :: u193 :: u194 :: u195 :: u196 :: u197 :: u198 :: u199 :: u200 :: u201 :: u202 :: u203 :: u204 :: u205 :: u206 :: u207 :: u208 :: u209 :: u210 :: u211 :: u212 :: u213 :: u214 :: u215 :: u216 :: u217 :: u218 :: u219 :: u220 :: u221 :: u222 :: u223 :: u224 :: u225 :: u226 :: u227 :: u228 :: u229 :: u230 :: u231 :: u232 :: u233 :: u234 :: u235 :: u236 :: u237 :: u238 :: u239 :: u240 :: u241 :: u242 :: u243 :: u244 :: u245 :: u246 :: u247 :: u248 :: u249 :: u250 :: u251 :: u252 :: u253 :: u254 :: u255 :: u256 :: u257 :: u258 :: u259 :: u260 :: u261 :: u262 :: u263 :: u264 :: u265 :: u266 :: u267 :: u268 :: u269 :: u270 :: u271 :: u272 :: u273 :: u274 :: u275 :: u276 :: u277 :: u278 :: u279 :: u280 :: u281 :: u282 :: u283 :: u284 :: u285 :: u286 :: u287 :: u288 :: u289 :: u290 :: u291 :: u292 :: u293 :: u294 :: u295 :: u296 :: u297 :: u298 :: u299 :: u300 :: u301 :: u302 :: u303 :: u304 :: u305 :: u306 :: u307 :: u308 :: u309 :: u310 :: u311 :: u312 :: u313 :: u314 :: u315 :: u316 :: u317 :: u318 :: u319 :: u320 :: u321 :: u322 :: u323 :: u324 :: u325 :: u326 :: u327 :: u328 :: u329 :: u330 :: u331 :: u332 :: u333 :: u334 :: u335 :: u336 :: u337 :: u338 :: u339 :: u340 :: u341 :: u342 :: u343 :: u344 :: u345 :: u346 :: u347 :: u348 :: u349 :: u350 :: u351 :: u352 :: u353 :: u354 :: u355 :: u356 :: u357 :: u358 :: u359 :: u360 :: u361 :: u362 :: u363 :: u364 :: u365 :: u366 :: u367 :: u368 :: u369 :: u370 :: []), defers := [] } : Act) w2 := by
  have hfew := HGD.out.few
  have hC4 := HO2.out
  obtain ⟨_, _, he4, hc4, hr4⟩ := Ro.open_ hC4
  injection he4 with e1 e2 e3
  subst e1
  subst e3
  have HC4 := Aside0.mk hc4
  have HR4 := Aside0.mk hr4
  clear hC4 hc4 hr4 e2
  conv => arg 2; whnf

  have hlo := HGD.out.low
  have hhi := HGD.out.high
  have hi100 := HI.out
  have z0 := (blk_cell HZ2.out 0).trans rfl
  have z2 := (blk_cell HZ2.out 2).trans rfl
  have z3 := (blk_cell HZ2.out 3).trans rfl
  have z4 := (blk_cell HZ2.out 4).trans rfl
  have z5 := (blk_cell HZ2.out 5).trans rfl
  go_wp2_with fail
  cases hmb : mayB x2 x3 with
  | false =>
    have HMB := Aside0.mk hmb
    clear hmb
    refine (add_bad W.heap.size g v ms last x2 x3 x4 x5 _ HG2.out HMB.out).mono ?_
    rintro e wd ⟨rfl, hbd⟩
    have HBB := Aside0.mk (below_then HB2.out HB2.out.size hbd)
    have HAD := Aside0.mk hbd
    have HZd := Aside0.mk (blk_below HZ2.out hbd)
    clear hbd z0 z2 z3 z4 z5
    have z2 := (blk_cell HZd.out 2).trans rfl
    have z3 := (blk_cell HZd.out 3).trans rfl
    have z4 := (blk_cell HZd.out 4).trans rfl
    have z5 := (blk_cell HZd.out 5).trans rfl
    go_wp2_with fail
    refine (styluslaw04_as.calls x2 x3 x4 x5 0 x2 x3 x4 x5 0 _ rfl).mono ?_
    rintro e wa ⟨rfl, hba⟩
    have HBa := Aside0.mk (below_then HBB.out HBB.out.size hba)
    have HAa := Aside0.mk hba
    clear hba
    go_wp2_with fail
    refine (stylusref04_May.calls x2 x3 x4 x5 0 _ _ (mayR_f x2 x3 x4 x5 0)).mono ?_
    rintro e w3 ⟨rfl, hb3⟩
    rw [HMB.out]
    have HAb := Aside0.mk (below_then HAa.out HAa.out.size hb3)
    have HB3 := Aside0.mk (below_then HBa.out HBa.out.size hb3)
    clear hb3
    have HAC := Aside0.mk (below_then HAD.out HAD.out.size HAb.out)
    go_wp2_with fail
    exact SwR.mk ms last v rfl ⟨HG2.out.below HAC.out⟩ ⟨Kd.R_below HO2.out HAC.out⟩ ⟨HGD.out.next⟩ HB3

  | true =>
    have HMB := Aside0.mk hmb
    clear hmb
    by_cases hfl : 60 ≤ ms.length
    · have hfb : decide ((60 : Int) ≤ (ms.length : Int)) = true := decide_eq_true (by omega)
      refine (add_full W.heap.size g v ms last x2 x3 x4 x5 _ HG2.out HMB.out hfl).mono ?_
      rintro e wd ⟨rfl, hbd⟩
      have HBB := Aside0.mk (below_then HB2.out HB2.out.size hbd)
      have HAD := Aside0.mk hbd
      have HZd := Aside0.mk (blk_below HZ2.out hbd)
      clear hbd z0 z2 z3 z4 z5
      have z2 := (blk_cell HZd.out 2).trans rfl
      have z3 := (blk_cell HZd.out 3).trans rfl
      have z4 := (blk_cell HZd.out 4).trans rfl
      have z5 := (blk_cell HZd.out 5).trans rfl
      go_wp2_with fail
      refine (styluslaw04_as.calls x2 x3 x4 x5 0 x2 x3 x4 x5 0 _ rfl).mono ?_
      rintro e wa ⟨rfl, hba⟩
      have HBa := Aside0.mk (below_then HBB.out HBB.out.size hba)
      have HAa := Aside0.mk hba
      clear hba
      go_wp2_with fail
      refine (stylusref04_May.calls x2 x3 x4 x5 0 _ _ (mayR_f x2 x3 x4 x5 0)).mono ?_
      rintro e w3 ⟨rfl, hb3⟩
      rw [HMB.out]
      have HAb := Aside0.mk (below_then HAa.out HAa.out.size hb3)
      have HB3 := Aside0.mk (below_then HBa.out HBa.out.size hb3)
      clear hb3
      have HAC := Aside0.mk (below_then HAD.out HAD.out.size HAb.out)
      go_wp2_with fail
      exact SwR.mk ms last v rfl ⟨HG2.out.below HAC.out⟩ ⟨Kd.R_below HO2.out HAC.out⟩ ⟨HGD.out.next⟩ HB3

    · have hfb : decide ((60 : Int) ≤ (ms.length : Int)) = false := decide_eq_false (by omega)
      refine (add_ok W.heap.size g v ms last x2 x3 x4 x5 _ HG2.out HMB.out (by omega) hlo (by omega)).mono ?_
      rintro e wd ⟨v3, rfl, hgd, hmd⟩
      have HBB := Aside0.mk (HB2.out.trans hmd.below)
      have HGd := Aside0.mk hgd
      have HOd := Aside0.mk (row_mv HO2.out HG2.out hmd)
      have HZd := Aside0.mk (hmd.blk HG2.out HZ2.out (by decide) (by decide))
      clear hgd hmd z0 z2 z3 z4 z5
      have z2 := (blk_cell HZd.out 2).trans rfl
      have z3 := (blk_cell HZd.out 3).trans rfl
      have z4 := (blk_cell HZd.out 4).trans rfl
      have z5 := (blk_cell HZd.out 5).trans rfl
      go_wp2_with fail
      refine (styluslaw04_as.calls x2 x3 x4 x5 0 x2 x3 x4 x5 0 _ rfl).mono ?_
      rintro e wa ⟨rfl, hba⟩
      have HBa := Aside0.mk (below_then HBB.out HBB.out.size hba)
      have HAa := Aside0.mk hba
      clear hba
      go_wp2_with fail
      refine (stylusref04_May.calls x2 x3 x4 x5 0 _ _ (mayR_f x2 x3 x4 x5 0)).mono ?_
      rintro e w3 ⟨rfl, hb3⟩
      rw [HMB.out]
      have HAb := Aside0.mk (below_then HAa.out HAa.out.size hb3)
      have HB3 := Aside0.mk (below_then HBa.out HBa.out.size hb3)
      clear hb3

      have HZ3 := Aside0.mk (blk_below HZd.out HAb.out)
      have HG3 := Aside0.mk (HGd.out.below HAb.out)
      have HR3 : Aside0 (Kd.C k42 w3 A4 ms.length (ms.map toR)) := ⟨by have := (Kd.R_reads' (Kd.R_below HOd.out HAb.out)).2.2; rwa [List.length_map] at this⟩
      have HW4 : Aside0 (Below w3.heap.size w3 ((w3.drew).alloc (.cells #[] 42))) := ⟨below_alloc (Below.refl _ _).drew _⟩
      have hid : ((last + 1) == (last + 1)) = true := beq_self_eq_true _
      clear z2 z3 z4 z5
      go_wp2_with fail
      refine start_ (n := 10) (S := fun w' => w'.cell? ⟨q, 2, none⟩ = some (.int .i64 x2) ∧ w'.cell? ⟨q, 3, none⟩ = some (.int .i64 x3) ∧ w'.cell? ⟨q, 4, none⟩ = some (.bool x4) ∧ w'.cell? ⟨q, 5, none⟩ = some (.bool x5)) (ds := [6, 7, 8]) #[false, false, false, false, false, false, false, false, false, false] (by kernel_rfl) rfl rfl ⟨(blk_cell (blk_drew HZ3.out) 2).trans rfl, (blk_cell (blk_drew HZ3.out) 3).trans rfl, (blk_cell (blk_drew HZ3.out) 4).trans rfl, (blk_cell (blk_drew HZ3.out) 5).trans rfl⟩ (fun hHeld => ?_); refine with_tabW addL.tab25 addL.bits25 (fun HT_ HW_ => ?_)
      refine pure_ (i := 1) (N := some 102) (v := ?_) (a' := ?_) #[false, true, false, false, false, false, false, false, false, false] rfl rfl (any_of HT_.out (by kernel_rfl)) (fun _ _ _ h => hQ _ _ _ _ _ h) (Or.inl ⟨by rfl, ?_⟩) ?_ ?_
      rotate_left
      · intro w'
        go_simp
        with_reducible rfl
      rotate_left
      · simp only [Act.put, List.setIfInBounds_toArray, List.set_cons_zero, List.set_cons_succ, i64_w, i32_w]
        rfl
      refine pure_ (i := 3) (N := some 104) (v := ?_) (a' := ?_) #[false, true, false, true, false, false, false, false, false, false] rfl rfl (any_of HT_.out (by kernel_rfl)) (fun _ _ _ h => hQ _ _ _ _ _ h) (Or.inl ⟨by rfl, ?_⟩) ?_ ?_
      rotate_left
      · intro w'
        go_simp
        with_reducible rfl
      rotate_left
      · simp only [Act.put, List.setIfInBounds_toArray, List.set_cons_zero, List.set_cons_succ, i64_w, i32_w]
        rfl
      refine take_ (i := 4) (N := some 105) (v := ?_) (a' := ?_) #[false, true, false, true, true, false, false, false, false, false] rfl rfl (take_ofW HT_.out HW_.out (by kernel_rfl)) (fun _ _ _ h => hQ _ _ _ _ _ h) (Or.inl ⟨by rfl, ?_⟩) hHeld ?_ ?_
      rotate_left
      · rintro w' ⟨s0, s1, s2, s3⟩
        go_simp
        with_reducible rfl
      rotate_left
      · simp only [Act.put, List.setIfInBounds_toArray, List.set_cons_zero, List.set_cons_succ, i64_w, i32_w]
        rfl
      refine pure_ (i := 5) (N := some 106) (v := ?_) (a' := ?_) #[false, true, false, true, true, true, false, false, false, false] rfl rfl (any_of HT_.out (by kernel_rfl)) (fun _ _ _ h => hQ _ _ _ _ _ h) (Or.inl ⟨by rfl, ?_⟩) ?_ ?_
      rotate_left
      · intro w'
        go_simp
        with_reducible rfl
      rotate_left
      · simp only [Act.put, List.setIfInBounds_toArray, List.set_cons_zero, List.set_cons_succ, i64_w, i32_w]
        rfl
      refine one_ (i := 0) (N := some 101) #[true, true, false, true, true, true, false, false, false, false] rfl rfl (one_of HT_.out (by kernel_rfl)) (by decide) (fun K hK => ?_)
      refine value_ (by rfl) rfl (v := .slice (some ⟨w3.heap.size, 0, none⟩) 0 0) (w1 := (w3.drew).alloc (.cells #[] 42)) ?hr ?_
      case hr => go_simp
      refine hK.out _ _ ⟨(blk_cell (blk_alloc (blk_drew HZ3.out) _) 2).trans rfl, (blk_cell (blk_alloc (blk_drew HZ3.out) _) 3).trans rfl, (blk_cell (blk_alloc (blk_drew HZ3.out) _) 4).trans rfl, (blk_cell (blk_alloc (blk_drew HZ3.out) _) 5).trans rfl⟩ (fun hHeld => ?_)
      clear hK K
      refine norm_ (a' := ?_) ?_ ?_
      rotate_left
      · show Act.put _ (some 101) _ = _
        simp only [Act.put, List.setIfInBounds_toArray, List.set_cons_zero, List.set_cons_succ, i64_w, i32_w]
        rfl
      refine one_ (i := 2) (N := some 103) #[true, true, true, true, true, true, false, false, false, false] rfl rfl (one_of HT_.out (by kernel_rfl)) (by decide) (fun K hK => ?_)
      refine Kd.R_append_rows_step k42 (Rr := k42.K ((w3.drew).alloc (.cells #[] 42))) (w0 := (w3.drew).alloc (.cells #[] 42)) w3.heap.size (by rfl) _ _ 26 42 _ 32 (by rfl) Try.underlying26 info42 (by rfl) (by decide) (by decide) (.slice (some ⟨w3.heap.size, 0, none⟩) 0 0) [] (ms.map toR) A4 ms.length c4 (fun _ => True) (fun _ => False) (by rfl) (by rfl) (ro_new w3.drew) (Kd.C_below HR3.out HW4.out) (fun x cs hk => by obtain rfl := k42_open hk; exact k42_mkM _ _ _ x) (fun _ hk => hk.elim) (fun _ _ => trivial) (Below.refl _ _) HW4.out.size (by simp only [List.length_nil]; omega) ?_
      intro v5 w5 ho5 hb5 hg5 hat5
      have HO5 := Aside0.mk ho5
      have HW5 := Aside0.mk (HW4.out.trans hb5)
      clear ho5 hb5 hg5 hat5
      refine hK.out _ _ ⟨(blk_cell (blk_below HZ3.out HW5.out) 2).trans rfl, (blk_cell (blk_below HZ3.out HW5.out) 3).trans rfl, (blk_cell (blk_below HZ3.out HW5.out) 4).trans rfl, (blk_cell (blk_below HZ3.out HW5.out) 5).trans rfl⟩ (fun hHeld => ?_)
      clear hK K
      refine norm_ (a' := ?_) ?_ ?_
      rotate_left
      · show Act.put _ (some 103) _ = _
        simp only [Act.put, List.setIfInBounds_toArray, List.set_cons_zero, List.set_cons_succ, i64_w, i32_w]
        rfl
      refine last_ (i := 6) (N := some 107) #[true, true, true, true, true, true, true, false, false, false] rfl rfl (one_of HT_.out (by kernel_rfl)) (by decide) (fun K hK => ?_)
      refine goes_ Try.func9 (by kernel_rfl) rfl #[.agg #[.int .i64 x2, .int .i64 x3, .bool x4, .bool x5], .int .i64 (last + 1)] (by rfl) rfl rfl (by (try simp only [List.map_toArray, List.map_cons, List.map_nil]); first | done | rfl) ?_
      refine (styluslaw04_as.calls x2 x3 x4 x5 (last + 1) x2 x3 x4 x5 (last + 1) _ rfl).mono ?_
      rintro e w6 ⟨rfl, hb6⟩
      have HW6 := Aside0.mk (below_then HW5.out HW5.out.size hb6)
      have HO6 := Aside0.mk (Kd.R_below HO5.out hb6)
      clear hb6
      refine ⟨_, rfl, ?_⟩
      refine hK.out _ _ ?_
      clear hK K
      refine norm_ (a' := ?_) ?_ ?_
      rotate_left
      · show Act.put _ (some 107) _ = _
        simp only [Act.put, List.setIfInBounds_toArray, List.set_cons_zero, List.set_cons_succ, i64_w, i32_w]
        rfl
      refine last_ (i := 7) (N := some 108) #[true, true, true, true, true, true, true, true, false, false] rfl rfl (one_of HT_.out (by kernel_rfl)) (by decide) (fun K hK => ?_)
      refine value_ (by rfl) rfl (v := .slice (some ⟨w6.heap.size, 0, none⟩) 1 1) (w1 := w6.alloc (.cells #[.int .i64 x2, .int .i64 x3, .bool x4, .bool x5, .int .i64 (last + 1)] 42)) ?hr ?_
      case hr => go_simp
      refine hK.out _ _ ?_
      clear hK K
      refine norm_ (a' := ?_) ?_ ?_
      rotate_left
      · show Act.put _ (some 108) _ = _
        simp only [Act.put, List.setIfInBounds_toArray, List.set_cons_zero, List.set_cons_succ, i64_w, i32_w]
        rfl
      refine last_ (i := 8) (N := some 109) #[true, true, true, true, true, true, true, true, true, false] rfl rfl (one_of HT_.out (by kernel_rfl)) (by decide) (fun K hK => ?_)
      refine Kd.R_append_step k42 (w0 := w6) (W := w6) w3.heap.size (by rfl) _ _ 26 42 _ 32 (by rfl) Try.underlying26 info42 (by rfl) (by decide) (by decide) v5 ([] ++ ms.map toR) (⟨x2, x3, x4, x5, last + 1⟩ : S42) [.int .i64 x2, .int .i64 x3, .bool x4, .bool x5, .int .i64 (last + 1)] (fun _ => True) (fun _ => False) (by rfl) (by rfl) (k42_mkM _ _ _ (⟨x2, x3, x4, x5, last + 1⟩ : S42)) (fun _ hk => hk.elim) (fun _ _ => trivial) HO6.out (Below.refl _ _) HW6.out.size (by simp only [List.nil_append, List.length_map]; omega) ?_
      intro v7 w7 ho7 hb7 hg7 hat7
      have HO7 := Aside0.mk ho7
      have HW7 := Aside0.mk (HW6.out.trans hb7)
      clear ho7 hb7 hg7 hat7
      refine hK.out _ _ ?_
      clear hK K
      refine norm_ (a' := ?_) ?_ ?_
      rotate_left
      · show Act.put _ (some 109) _ = _
        simp only [Act.put, List.setIfInBounds_toArray, List.set_cons_zero, List.set_cons_succ, i64_w, i32_w]
        rfl
      refine pure_ (i := 9) (N := some 4) (v := ?_) (a' := ?_) #[true, true, true, true, true, true, true, true, true, true] rfl rfl (any_of HT_.out (by kernel_rfl)) (fun _ _ _ h => hQ _ _ _ _ _ h) (Or.inl ⟨by rfl, ?_⟩) ?_ ?_
      rotate_left
      · intro w'
        go_simp
        with_reducible rfl
      rotate_left
      · simp only [Act.put, List.setIfInBounds_toArray, List.set_cons_zero, List.set_cons_succ, i64_w, i32_w]
        rfl
      refine done_ (done_of HT_.out (by kernel_rfl)) ?_
      skip
      go_wp2_with fail
      exact SwR.mk (ms ++ [(⟨⟨⟨x2, x3⟩, x4, x5⟩, last + 1⟩ : S64)]) (last + 1) v3 rfl ⟨HG3.out.below HW7.out⟩ ⟨by have := Kd.R_lower HO7.out HB3.out.size; rwa [List.nil_append, show ms.map toR ++ [(⟨x2, x3, x4, x5, last + 1⟩ : S42)] = (ms ++ [(⟨⟨⟨x2, x3⟩, x4, x5⟩, last + 1⟩ : S64)]).map toR by rw [List.map_append]; rfl] at this⟩ ⟨HGD.out.add (⟨⟨⟨x2, x3⟩, x4, x5⟩, last + 1⟩ : S64) HMB.out rfl (by omega)⟩ ⟨below_then HB3.out HB3.out.size HW7.out⟩
end Go.Proofs.Ytbeoillppkcpmaa.Mark
