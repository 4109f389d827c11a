/- The law's switch, walked for Remove. For ranges as the rounds keep them. -/
import Derived.Laws.Cover3
import Derived.Deep.CutBlock
import Derived.Deep.DeepCutAuto
import Derived.Test.YtbeoillppkcpmaaMarkS
namespace Go.Proofs.Ytbeoillppkcpmaa.Mark
open Go.RowKit Go.Proofs.YtbeoillppkcpmaaW.PrintWords Go.Proofs.YtbeoillppkcpmaaW.PrintLast Go.Proofs.YtbeoillppkcpmaaW.PrintMore Go.Proofs.Ytbeoillppkcpmaa.PMarksPlay
attribute [local go_sem] max2_int min2_int max_two min_two max_three min_three max_four min_four
attribute [local go_sem high] eqA28 eqA42
set_option linter.unusedVariables false
set_option linter.unusedSimpArgs false

theorem info42 : (Try.prog.info? 42).map (fun i => (i.zero, i.size, i.bytes)) = some (some (.agg #[.int .i64 0, .int .i64 0, .bool false, .bool false, .int .i64 0]), 5, 32) := by kernel_rfl
theorem ro_new (W : World) : Kd.R k42 42 (W.alloc (.cells #[] 42)) W.heap.size (fun _ => True) (.slice (some ⟨W.heap.size, 0, none⟩) 0 0) [] :=
  ⟨fun _ _ => trivial, [], ⟨rfl, .inr ⟨W.heap.size, 0, #[], rfl, Nat.le_refl _, blk_new W _, Nat.le_refl _, by simp [maxLen], rfl, rfl⟩⟩, Reps.none _ _⟩
theorem cut_lo (A : Option Addr) (n c p : Nat) (h : p ≤ n) (hc : n ≤ c) (W : World) : (Instr.slice 26 (.slice A n c) none (some (.int .i64 (p : Int))) none).run Try.prog W = .ok (.slice A p c) W := by
  obtain ⟨i, hi, _⟩ := Option.map_eq_some_iff.1 info42
  have := cut_to 26 42 .i64 Try.underlying26 hi A n c (p : Int) (by omega) (by omega) hc W
  simpa using this
theorem cut_hi (A : Option Addr) (n c p : Nat) (h : p + 1 ≤ n) (W : World) : (Instr.slice 26 (.slice A n c) (some (.int .i64 ((p : Int) + 1))) none none).run Try.prog W = .ok (.slice (if c = p + 1 then A else A.map (·.add ((p + 1) * 5))) (n - (p + 1)) (c - (p + 1))) W := by
  obtain ⟨i, hi, he⟩ := Option.map_eq_some_iff.1 info42
  simp only [Prod.mk.injEq] at he
  have := cut_from 26 42 .i64 Try.underlying26 hi 5 he.2.1 A n c ((p : Int) + 1) (by omega) (by omega) W
  rw [show ((p : Int) + 1).toNat = p + 1 by omega] at this
  exact this
theorem erase_map (ms : List S64) (p : Nat) : ((ms.map toR).take p ++ (ms.map toR).drop (p + 1)) = (ms.eraseIdx p).map toR := by
  rw [List.eraseIdx_eq_take_drop_succ, List.map_append, List.map_take, List.map_drop]
def remM.T31 : Bool × List (List Nat × List Nat) := (true, [([], []), ([], []), ([], []), ([1, 2], [1, 2]), ([0, 3], [0, 3]), ([], []), ([], []), ([6], [6]), ([5, 7], [5, 7]), ([4, 8, 4], [4, 8]), ([9, 9, 0, 1, 2, 3, 4, 5, 6, 7, 8, 9], [1, 5, 9])])
def remM.B31 : List Nat := [0, 0, 0, 6, 15, 0, 0, 64, 224, 511, 1023]
theorem remM.tab31 : rtab .any (opsOf Try.f3 31) = remM.T31 := by kernel_rfl
theorem remM.bits31 : waitsOk remM.T31.2 remM.B31 = true := by kernel_rfl
set_option maxHeartbeats 16000000 in
set_option maxRecDepth 100000 in
theorem arm_remove {W : World} {g i q : Nat} {u0 u1 u2 u6 u9 u10 u11 u12 u13 u14 u15 u16 u17 u18 u19 u20 u21 u22 u23 u24 u25 u26 u27 u28 u29 u30 u31 u32 u33 u34 u35 u36 u37 u38 u39 u40 u41 u42 u43 u44 u45 u46 u47 u48 u49 u50 u51 u52 u53 u54 u55 u56 u57 u58 u59 u60 u61 u63 u64 u65 u66 u67 u68 u69 u70 u71 u72 u73 u74 u75 u76 u77 u78 u79 u80 u81 u82 u83 u84 u85 u86 u87 u88 u89 u90 u91 u92 u93 u94 u95 u96 u97 u98 u99 u100 u101 u102 u103 u104 u105 u106 u107 u108 u109 u110 u111 u112 u113 u114 u115 u116 u117 u118 u119 u120 u121 u122 u123 u124 u125 u126 u127 u128 u129 u130 u131 u132 u133 u134 u135 u136 u137 u138 u139 u140 u141 u142 u143 u144 u145 u146 u147 u148 u149 u150 u151 u152 u153 u154 u155 u156 u157 u158 u159 u160 u161 u162 u163 u164 u165 u166 u167 u168 u169 u170 u171 u172 u173 u174 u175 u176 u177 u178 u179 u180 u181 u182 u183 u184 u185 u186 u187 u188 u189 u190 u191 u192 u193 u194 u195 u196 u197 u198 u199 u200 u201 u202 u203 u204 u205 u206 u207 u208 u209 u210 u211 u212 u213 u214 u215 u216 u217 u218 u219 u220 u221 u222 u223 u224 u225 u226 u227 u228 u229 u230 u231 u232 u233 u234 u235 u236 u237 u238 u239 u240 u241 u242 u243 u244 u245 u246 u247 u248 u249 u250 u251 u252 u253 u254 u255 u256 u257 u258 u259 u260 u261 u262 u263 u264 u265 u266 u267 u268 u269 u270 u271 u272 u273 u274 u275 u276 u277 u278 u279 u280 u281 u282 u283 u284 u285 u286 u287 u288 u289 u290 u291 u292 u293 u294 u295 u296 u297 u298 u299 u300 u301 u302 u303 u304 u305 u306 u307 u308 u309 u310 u311 u312 u313 u314 u315 u316 u317 u318 u319 u320 u321 u322 u323 u324 u325 u326 u327 u328 u329 u330 u331 u332 u333 u334 u335 u336 u337 u338 u339 u340 u341 u342 u343 u344 u345 u346 u347 u348 u349 u350 u351 u352 u353 u354 u355 u356 u357 u358 u359 u360 u361 u362 u363 u364 u365 u366 u367 u368 u369 u370 : Value} {ms : List S64} {last : Int} {v : Value} {x1 x2 x3 : Int} {x4 x5 : Bool} {x6 x7 : Int} {xl : List Int} {A3 A4 : Option Addr} {c3 c4 p : Nat} {w2 : World} {K : Act → World → Prop} {Q' : Exit → Act → World → Prop}
    (HG2 : Aside0 (MarksAt W.heap.size w2 g v ms last)) (HO2 : Aside0 (Ro w2 W.heap.size (.slice A4 ms.length c4) ms)) (HGD : Aside0 (Good ms last i)) (HB2 : Aside0 (Below W.heap.size W w2)) (HZ2 : Aside0 (w2.heap[q]? = some (.cells #[.int .i64 1, .int .i64 x1, .int .i64 x2, .int .i64 x3, .bool x4, .bool x5, .int .i64 x6, .int .i64 x7, .slice A3 xl.length c3] 35))) (L3 : Aside0 (xl.length ≤ c3)) (R2 : Aside0 (Kd.C (Kd.int .i32) W A3 xl.length xl)) (HXL : Aside0 (xl.length ≤ 300)) (HI : Aside0 (i ≤ 100)) (HP : Aside0 (Low ms x1 p))
    (hQ : ∀ c a N u w, Q' (.panic c) (Act.put a N u) w → Q' (.panic c) a w) (hK : ∀ a' w', SwR W g i u0 u1 u6 u28 u29 u30 u31 u32 u33 u34 u35 u36 u37 u38 u39 u40 u370 a' w' → K a' w') :
    Code.wp Try.prog swC (Exit.then K Q') ({ tmps := List.toArray (u0 :: u1 :: u2 :: Value.pointer (some ⟨g, 0, none⟩) :: Value.slice A4 ms.length c4 :: Value.int .i64 last :: u6 :: Value.pointer (some ⟨q, 0, none⟩) :: Value.int .i64 (atF ms x1 p) :: u9 :: u10 :: u11 :: u12 :: u13 :: u14 :: u15 :: u16 :: u17 :: u18 :: u19 :: u20 :: u21 :: u22 :: u23 :: u24 :: u25 :: u26 :: u27 :: u28 :: u29 :: u30 :: u31 :: u32 :: u33 :: u34 :: u35 :: u36 :: u37 :: u38 :: u39 :: u40 :: u41 :: u42 :: u43 :: u44 :: u45 :: u46 :: u47 :: u48 :: u49 :: u50 :: u51 :: u52 :: u53 :: u54 :: u55 :: u56 :: u57 :: u58 :: u59 :: u60 :: u61 :: Value.int .i64 1 :: u63 :: u64 :: u65 :: u66 :: u67 :: u68 :: u69 :: u70 :: u71 :: u72 :: u73 :: u74 :: u75 :: u76 :: u77 :: u78 :: u79 :: u80 :: u81 :: u82 :: u83 :: u84 :: u85 :: u86 :: u87 :: u88 :: u89 :: u90 :: u91 :: u92 :: u93 :: u94 :: u95 :: u96 :: u97 :: u98 :: u99 :: u100 :: u101 :: u102 :: u103 :: u104 :: u105 :: u106 :: u107 :: u108 :: u109 :: u110 :: u111 :: u112 :: u113 :: u114 :: u115 :: u116 :: u117 :: u118 :: u119 :: u120 :: u121 :: u122 :: u123 :: u124 :: u125 :: u126 :: u127 :: u128 :: u129 :: u130 :: u131 :: u132 :: u133 :: u134 :: u135 :: u136 :: u137 :: u138 :: u139 :: u140 :: u141 :: u142 :: u143 :: u144 :: u145 :: u146 :: u147 :: u148 :: u149 :: u150 :: u151 :: u152 :: u153 :: u154 :: u155 :: u156 :: u157 :: u158 :: u159 :: u160 :: u161 :: u162 :: u163 :: u164 :: u165 :: u166 :: u167 :: u168 :: u169 :: u170 :: u171 :: u172 :: u173 :: u174 :: u175 :: u176 :: u177 :: u178 :: u179 :: u180 :: u181 :: u182 :: u183 :: u184 :: u185 :: u186 :: u187 :: u188 :: u189 :: u190 :: u191 :: u192 :: u193 :: u194 :: u195 :: u196 :: u197 :: u198 :: u199 :: u200 :: u201 :: u202 :: u203 :: u204 :: u205 :: u206 :: u207 :: u208 :: u209 :: u210 :: u211 :: u212 :: u213 :: u214 :: u215 :: u216 :: u217 :: u218 :: u219 :: u220 :: u221 :: u222 :: u223 :: u224 :: u225 :: u226 :: u227 :: u228 :: u229 :: u230 :: u231 :: u232 :: u233 :: u234 :: u235 :: u236 :: u237 :: u238 :: u239 :: u240 :: u241 :: u242 :: u243 :: u244 :: u245 :: u246 :: u247 :: u248 :: u249 :: u250 :: u251 :: u252 :: u253 :: u254 :: u255 :: u256 :: u257 :: u258 :: u259 :: u260 :: u261 :: u262 :: u263 :: u264 :: u265 :: u266 :: u267 :: u268 :: u269 :: u270 :: u271 :: u272 :: u273 :: u274 :: u275 :: u276 :: u277 :: u278 :: u279 :: u280 :: u281 :: u282 :: u283 :: u284 :: u285 :: u286 :: u287 :: u288 :: u289 :: u290 :: u291 :: u292 :: u293 :: u294 :: u295 :: u296 :: u297 :: u298 :: u299 :: u300 :: u301 :: u302 :: u303 :: u304 :: u305 :: u306 :: u307 :: u308 :: u309 :: u310 :: u311 :: u312 :: u313 :: u314 :: u315 :: u316 :: u317 :: u318 :: u319 :: u320 :: u321 :: u322 :: u323 :: u324 :: u325 :: u326 :: u327 :: u328 :: u329 :: u330 :: u331 :: u332 :: u333 :: u334 :: u335 :: u336 :: u337 :: u338 :: u339 :: u340 :: u341 :: u342 :: u343 :: u344 :: u345 :: u346 :: u347 :: u348 :: u349 :: u350 :: u351 :: u352 :: u353 :: u354 :: u355 :: u356 :: u357 :: u358 :: u359 :: u360 :: u361 :: u362 :: u363 :: u364 :: u365 :: u366 :: u367 :: u368 :: u369 :: u370 :: []), defers := [] } : Act) w2 := by
  have hfew := HGD.out.few
  have hC4 := HO2.out
  obtain ⟨_, _, he4, hc4, hr4⟩ := Ro.open_ hC4
  injection he4 with e1 e2 e3
  subst e1
  subst e3
  have HC4 := Aside0.mk hc4
  have HR4 := Aside0.mk hr4
  clear hC4 hc4 hr4 e2
  conv => arg 2; whnf

  have z0 := (blk_cell HZ2.out 0).trans rfl
  have z1 := (blk_cell HZ2.out 1).trans rfl
  go_wp2_with fail
  refine (remove_calls W.heap.size g v ms last x1 _ HG2.out (by omega) HGD.out.rise).mono ?_
  rintro e w3 ⟨i', hlow, hq⟩
  obtain rfl := low_one HP.out hlow
  clear hlow z0 z1
  rcases hq with ⟨hh, rfl, hb3⟩ | ⟨hh, rfl, v3, hg3, hm3⟩
  · have hat : atF ms x1 p = -1 := by unfold atF; rw [hh]; rfl
    have HB3 := Aside0.mk (below_then HB2.out HB2.out.size hb3)
    have HG3 := Aside0.mk (HG2.out.below hb3)
    have HO3 : Aside0 (Ro w3 W.heap.size (.slice A4 ms.length c4) ms) := ⟨Kd.R_below HO2.out hb3⟩
    clear hh hb3
    rw [hat]
    go_wp2_with fail
    exact SwR.mk ms last v rfl HG3 HO3 ⟨HGD.out.next⟩ HB3
  · have hat : atF ms x1 p = (p : Int) := by unfold atF; rw [if_pos hh]
    have hpl : p < ms.length := (of_decide_eq_true hh).1
    have HB3 := Aside0.mk (HB2.out.trans hm3.below)
    have HG3 := Aside0.mk hg3
    have HO3 := Aside0.mk (row_mv HO2.out HG2.out hm3)
    have HL : Aside0 ((ms.map toR).length = ms.length) := ⟨List.length_map _⟩
    have hr3 := (Kd.R_reads' HO3.out).2.2
    have ht1 := Kd.C_take hr3 (m := p) (by rw [HL.out]; omega)
    have ht2 := Kd.C_drop hr3 (m := p + 1) (c := c4) (by rw [HL.out]; omega) (by rw [HL.out]; exact HC4.out)
    rw [List.length_take, HL.out, Nat.min_eq_left (by omega)] at ht1
    rw [List.length_drop, HL.out] at ht2
    obtain ⟨AD, hAD⟩ : ∃ AD, (if c4 = p + 1 then A4 else A4.map (·.add ((p + 1) * 5))) = AD := ⟨_, rfl⟩
    have hAD' : (if c4 = p + 1 then A4 else A4.map (·.add ((p + 1) * k42.sz))) = AD := hAD
    rw [hAD'] at ht2
    have HC1 := cut_lo A4 ms.length c4 p (by omega) HC4.out
    have HC2 := cut_hi A4 ms.length c4 p (by omega)
    rw [hAD] at HC2
    have HE := Aside0.mk (erase_map ms p)
    obtain ⟨x1s, hx1s⟩ : ∃ x, (ms.map toR).take p = x := ⟨_, rfl⟩
    obtain ⟨x2s, hx2s⟩ : ∃ x, (ms.map toR).drop (p + 1) = x := ⟨_, rfl⟩
    have HL1 : Aside0 (x1s.length = p) := ⟨by rw [← hx1s, List.length_take, HL.out]; omega⟩
    rw [hx1s] at ht1 HE
    rw [hx2s] at ht2 HE
    have HT1 := Aside0.mk ht1
    have HT2 := Aside0.mk ht2
    have HW4 : Aside0 (Below w3.heap.size w3 ((w3.drew).alloc (.cells #[] 42))) := ⟨below_alloc (Below.refl _ _).drew _⟩
    clear hh hg3 hm3 hr3 ht1 ht2 hAD hAD' hx1s hx2s
    rw [hat]
    go_wp2_with fail
    refine start_ (n := 11) (S := fun _ => True) (ds := []) #[false, false, false, false, false, false, false, false, false, false, false] (by kernel_rfl) rfl rfl trivial (fun hHeld => ?_); refine with_tabW remM.tab31 remM.bits31 (fun HT_ HW_ => ?_)
    refine pure_ (i := 1) (N := some 133) (v := ?_) (a' := ?_) #[false, true, false, false, false, false, false, false, false, false, false] rfl rfl (any_of HT_.out (by kernel_rfl)) (fun _ _ _ h => hQ _ _ _ _ _ h) (Or.inl ⟨by rfl, ?_⟩) ?_ ?_
    rotate_left
    · intro w'
      go_simp
      with_reducible rfl
    rotate_left
    · simp only [Act.put, List.setIfInBounds_toArray, List.set_cons_zero, List.set_cons_succ, i64_w, i32_w]
      rfl
    refine pure_ (i := 2) (N := some 134) (v := ?_) (a' := ?_) #[false, true, true, false, false, false, false, false, false, false, false] rfl rfl (any_of HT_.out (by kernel_rfl)) (fun _ _ _ h => hQ _ _ _ _ _ h) (Or.inl ⟨by rfl, ?_⟩) ?_ ?_
    rotate_left
    · intro w'
      go_simp
      with_reducible rfl
    rotate_left
    · simp only [Act.put, List.setIfInBounds_toArray, List.set_cons_zero, List.set_cons_succ, i64_w, i32_w]
      rfl
    refine pure_ (i := 3) (N := some 135) (v := .slice A4 p c4) (a' := ?paremM_3_1) #[false, true, true, true, false, false, false, false, false, false, false] rfl rfl (any_of HT_.out (by kernel_rfl)) (fun _ _ _ h => hQ _ _ _ _ _ h) (Or.inl ⟨by rfl, ?pyremM_3_1⟩) ?peremM_3_1 ?prremM_3_1
    case peremM_3_1 =>
      simp only [Act.put, List.setIfInBounds_toArray, List.set_cons_zero, List.set_cons_succ, i64_w, i32_w]
      rfl
    case pyremM_3_1 =>
      intro w'
      go_simp
    refine pure_ (i := 5) (N := some 137) (v := ?_) (a' := ?_) #[false, true, true, true, false, true, false, false, false, false, false] rfl rfl (any_of HT_.out (by kernel_rfl)) (fun _ _ _ h => hQ _ _ _ _ _ h) (Or.inl ⟨by rfl, ?_⟩) ?_ ?_
    rotate_left
    · intro w'
      go_simp
      with_reducible rfl
    rotate_left
    · simp only [Act.put, List.setIfInBounds_toArray, List.set_cons_zero, List.set_cons_succ, i64_w, i32_w]
      rfl
    refine pure_ (i := 6) (N := some 138) (v := ?_) (a' := ?_) #[false, true, true, true, false, true, true, false, false, false, false] rfl rfl (any_of HT_.out (by kernel_rfl)) (fun _ _ _ h => hQ _ _ _ _ _ h) (Or.inl ⟨by rfl, ?_⟩) ?_ ?_
    rotate_left
    · intro w'
      go_simp
      with_reducible rfl
    rotate_left
    · simp only [Act.put, List.setIfInBounds_toArray, List.set_cons_zero, List.set_cons_succ, i64_w, i32_w]
      rfl
    refine pure_ (i := 7) (N := some 139) (v := .int .i64 ((p : Int) + 1)) (a' := ?paremM_7_2) #[false, true, true, true, false, true, true, true, false, false, false] rfl rfl (any_of HT_.out (by kernel_rfl)) (fun _ _ _ h => hQ _ _ _ _ _ h) (Or.inl ⟨by rfl, ?pyremM_7_2⟩) ?peremM_7_2 ?prremM_7_2
    case peremM_7_2 =>
      simp only [Act.put, List.setIfInBounds_toArray, List.set_cons_zero, List.set_cons_succ, i64_w, i32_w]
      rfl
    case pyremM_7_2 =>
      intro w'
      go_simp
      first | done | exact IntWalk.i64_in _ (by omega)
    refine pure_ (i := 8) (N := some 140) (v := .slice AD (ms.length - (p + 1)) (c4 - (p + 1))) (a' := ?paremM_8_3) #[false, true, true, true, false, true, true, true, true, false, false] rfl rfl (any_of HT_.out (by kernel_rfl)) (fun _ _ _ h => hQ _ _ _ _ _ h) (Or.inl ⟨by rfl, ?pyremM_8_3⟩) ?peremM_8_3 ?prremM_8_3
    case peremM_8_3 =>
      simp only [Act.put, List.setIfInBounds_toArray, List.set_cons_zero, List.set_cons_succ, i64_w, i32_w]
      rfl
    case pyremM_8_3 =>
      intro w'
      go_simp
    refine one_ (i := 0) (N := some 132) #[true, true, true, true, false, true, true, true, true, false, false] rfl rfl (one_of HT_.out (by kernel_rfl)) (by decide) (fun K hK => ?_)
    refine value_ (by rfl) rfl (v := .slice (some ⟨w3.heap.size, 0, none⟩) 0 0) (w1 := (w3.drew).alloc (.cells #[] 42)) ?hr ?_
    case hr => go_simp
    refine hK.out _ _ trivial (fun hHeld => ?_)
    clear hK K
    refine norm_ (a' := ?_) ?_ ?_
    rotate_left
    · show Act.put _ (some 132) _ = _
      simp only [Act.put, List.setIfInBounds_toArray, List.set_cons_zero, List.set_cons_succ, i64_w, i32_w]
      rfl
    refine one_ (i := 4) (N := some 136) #[true, true, true, true, true, true, true, true, true, false, false] rfl rfl (one_of HT_.out (by kernel_rfl)) (by decide) (fun K hK => ?_)
    refine Kd.R_append_rows_step k42 (Rr := k42.K ((w3.drew).alloc (.cells #[] 42))) (w0 := (w3.drew).alloc (.cells #[] 42)) w3.heap.size (by rfl) _ _ 26 42 _ 32 (by rfl) Try.underlying26 info42 (by rfl) (by decide) (by decide) (.slice (some ⟨w3.heap.size, 0, none⟩) 0 0) [] x1s A4 p c4 (fun _ => True) (fun _ => False) (by rfl) (by rfl) (ro_new w3.drew) (Kd.C_below HT1.out HW4.out) (fun x cs hk => by obtain rfl := k42_open hk; exact k42_mkM _ _ _ x) (fun _ hk => hk.elim) (fun _ _ => trivial) (Below.refl _ _) HW4.out.size (by simp only [List.length_nil]; omega) ?_
    intro v5 w5 ho5 hb5 hg5 hat5
    have HO5 := Aside0.mk ho5
    have HW5 := Aside0.mk (HW4.out.trans hb5)
    clear ho5 hb5 hg5 hat5
    refine hK.out _ _ trivial (fun hHeld => ?_)
    clear hK K
    refine norm_ (a' := ?_) ?_ ?_
    rotate_left
    · show Act.put _ (some 136) _ = _
      simp only [Act.put, List.setIfInBounds_toArray, List.set_cons_zero, List.set_cons_succ, i64_w, i32_w]
      rfl
    refine one_ (i := 9) (N := some 141) #[true, true, true, true, true, true, true, true, true, true, false] rfl rfl (one_of HT_.out (by kernel_rfl)) (by decide) (fun K hK => ?_)
    refine Kd.R_append_rows_step k42 (Rr := k42.K w5) (w0 := w5) w3.heap.size (by rfl) _ _ 26 42 _ 32 (by rfl) Try.underlying26 info42 (by rfl) (by decide) (by decide) v5 ([] ++ x1s) x2s AD (ms.length - (p + 1)) (c4 - (p + 1)) (fun _ => True) (fun _ => False) (by rfl) (by rfl) HO5.out (Kd.C_below HT2.out HW5.out) (fun x cs hk => by obtain rfl := k42_open hk; exact k42_mkM _ _ _ x) (fun _ hk => hk.elim) (fun _ _ => trivial) (Below.refl _ _) HW5.out.size (by simp only [List.nil_append, HL1.out]; omega) ?_
    intro v6 w6 ho6 hb6 hg6 hat6
    have HO6 := Aside0.mk ho6
    have HW6 := Aside0.mk (HW5.out.trans hb6)
    clear ho6 hb6 hg6 hat6
    refine hK.out _ _ trivial (fun hHeld => ?_)
    clear hK K
    refine norm_ (a' := ?_) ?_ ?_
    rotate_left
    · show Act.put _ (some 141) _ = _
      simp only [Act.put, List.setIfInBounds_toArray, List.set_cons_zero, List.set_cons_succ, i64_w, i32_w]
      rfl
    refine pure_ (i := 10) (N := some 4) (v := ?_) (a' := ?_) #[true, true, true, true, true, true, true, true, true, true, true] rfl rfl (any_of HT_.out (by kernel_rfl)) (fun _ _ _ h => hQ _ _ _ _ _ h) (Or.inl ⟨by rfl, ?_⟩) ?_ ?_
    rotate_left
    · intro w'
      go_simp
      with_reducible rfl
    rotate_left
    · simp only [Act.put, List.setIfInBounds_toArray, List.set_cons_zero, List.set_cons_succ, i64_w, i32_w]
      rfl
    refine done_ (done_of HT_.out (by kernel_rfl)) ?_
    skip
    go_wp2_with fail
    exact SwR.mk (ms.eraseIdx p) last v3 rfl ⟨HG3.out.below HW6.out⟩ ⟨by have := Kd.R_lower HO6.out HB3.out.size; rwa [List.nil_append, HE.out] at this⟩ ⟨HGD.out.cut p hpl⟩ ⟨below_then HB3.out HB3.out.size HW6.out⟩
end Go.Proofs.Ytbeoillppkcpmaa.Mark
