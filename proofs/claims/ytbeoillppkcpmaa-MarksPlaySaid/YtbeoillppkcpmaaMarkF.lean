/- Remove takes a range away, or tells that there is none. For ranges of rising numbers, at most 100000. -/
import Derived.Laws.Cover3
import Derived.Test.YtbeoillppkcpmaaMarkE
namespace Go.Proofs.Ytbeoillppkcpmaa.Mark
open Go.RowKit Go.Proofs.YtbeoillppkcpmaaW.PrintWords Go.Proofs.YtbeoillppkcpmaaW.PrintLast Go.Proofs.YtbeoillppkcpmaaW.PrintMore Go.Proofs.Ytbeoillppkcpmaa.PMarksPlay
attribute [local go_sem] max2_int min2_int max_two min_two max_three min_three max_four min_four
set_option linter.unusedVariables false
set_option linter.unusedSimpArgs false
/-! ### A row of items is its items' cells, one behind another -/
def enc5 (x : S64) : List Value := [.int .i64 x.f0.f0.f0, .int .i64 x.f0.f0.f1, .bool x.f0.f1, .bool x.f0.f2, .int .i64 x.f1]
def flat (ms : List S64) : List Value := ms.flatMap enc5
theorem flat_len (ms : List S64) : (flat ms).length = ms.length * 5 := by
  induction ms with
  | nil => rfl
  | cons x ms ih =>
    show (enc5 x ++ flat ms).length = _
    rw [List.length_append, ih]
    simp [enc5]
    omega
theorem flat_append (a b : List S64) : flat (a ++ b) = flat a ++ flat b := by simp [flat]
theorem flat_take (ms : List S64) (k : Nat) : (flat ms).take (k * 5) = flat (ms.take k) := by
  have h : flat ms = flat (ms.take k) ++ flat (ms.drop k) := by rw [← flat_append, List.take_append_drop]
  rcases Nat.le_total k ms.length with hk | hk
  · rw [h, List.take_append_of_le_length (by rw [flat_len, List.length_take]; omega), List.take_of_length_le (by rw [flat_len, List.length_take]; omega)]
  · rw [List.take_of_length_le (by rw [flat_len]; omega), List.take_of_length_le hk]
theorem flat_drop (ms : List S64) (k : Nat) : (flat ms).drop (k * 5) = flat (ms.drop k) := by
  have h : flat ms = flat (ms.take k) ++ flat (ms.drop k) := by rw [← flat_append, List.take_append_drop]
  rcases Nat.le_total k ms.length with hk | hk
  · have e : k * 5 = (flat (ms.take k)).length := by rw [flat_len, List.length_take]; omega
    rw [h, e, List.drop_left]
  · rw [List.drop_of_length_le (by rw [flat_len]; omega), List.drop_of_length_le hk]; rfl
theorem flat_one (ms : List S64) : ∀ u ∈ flat ms, u.oneCell' = true := by
  intro u hu
  obtain ⟨x, _, hx⟩ := List.mem_flatMap.1 hu
  simp only [enc5, List.mem_cons, List.not_mem_nil, or_false] at hx
  rcases hx with rfl | rfl | rfl | rfl | rfl <;> rfl
theorem reps_flat {R : S64 → List Value → Prop} (hR : ∀ x cs, R x cs → cs = enc5 x) (ms : List S64) : ∀ inner, Reps R 5 ms inner → inner = flat ms := by
  induction ms with
  | nil =>
    intro inner h
    exact List.eq_nil_of_length_eq_zero (by simpa using h.1)
  | cons x ms ih =>
    intro inner h
    have hl : inner.length = (ms.length + 1) * 5 := by simpa using h.1
    have h0 := hR _ _ (h.2 0 x rfl)
    have h1 : Reps R 5 ms (inner.drop 5) := by
      refine ⟨by rw [List.length_drop, hl]; omega, fun j p hj => ?_⟩
      have := h.2 (j + 1) p (by simpa using hj)
      rwa [List.drop_drop, show 5 + j * 5 = (j + 1) * 5 from by omega]
    show inner = enc5 x ++ flat ms
    rw [← ih _ h1, ← h0]
    simp
theorem flat_reps {R : S64 → List Value → Prop} (hR : ∀ x, R x (enc5 x)) (ms : List S64) : Reps R 5 ms (flat ms) := by
  refine ⟨flat_len ms, fun j p hj => ?_⟩
  obtain ⟨hl, rfl⟩ := List.getElem?_eq_some_iff.1 hj
  rw [flat_drop, List.drop_eq_getElem_cons hl]
  have : (flat (ms[j] :: ms.drop (j + 1))).take 5 = enc5 ms[j] := by
    show (enc5 ms[j] ++ flat (ms.drop (j + 1))).take 5 = _
    rw [List.take_append_of_le_length (by simp [enc5]), List.take_of_length_le (by simp [enc5])]
  rw [this]
  exact hR _
theorem ow_flat {W : World} {base : Nat} {v : Value} {ms : List S64} (h : Ow W base v ms) : W.ownsRow base 64 5 v ms.length (flat ms) := by
  obtain ⟨_, inner, ho, hr⟩ := h
  have : inner = flat ms := reps_flat (fun x cs hx => k64_openM hx) ms inner hr
  rw [← this]
  exact ho
theorem flat_ow {W : World} {base : Nat} {v : Value} {ms : List S64} (h : W.ownsRow base 64 5 v ms.length (flat ms)) : Ow W base v ms :=
  ⟨fun _ _ => trivial, flat ms, h, flat_reps (fun x => k64_mkM W base _ x) ms⟩
theorem erase_flat (ms : List S64) (i m cap : Nat) (cur : Array Value) (hn : ms.length = i + m + 1) (hc : i + m + 1 ≤ cap) (hs : cur.size = cap * 5) (ht : cur.toList.take (ms.length * 5) = flat ms) :
    (cutCells cur i m).toList.take ((i + m) * 5) = flat (ms.eraseIdx i) := by
  have e1 : (cur.toList.drop ((i + 1) * 5)).take (m * 5) = flat (ms.drop (i + 1)) := by
    rw [← flat_drop, ← ht, List.drop_take]
    congr 1
    omega
  have e2 : flat (ms.take i) = cur.toList.take (i * 5) := by
    rw [← flat_take, ← ht, List.take_take]
    congr 1
    omega
  rw [List.eraseIdx_eq_take_drop_succ, flat_append]
  unfold cutCells
  rw [e1]
  have hl2 : (flat (ms.drop (i + 1))).length = m * 5 := by rw [flat_len, List.length_drop]; omega
  have hl1 : (flat (ms.take i)).length = i * 5 := by rw [flat_len, List.length_take]; omega
  apply List.ext_getElem?
  intro k
  rw [List.getElem?_take]
  by_cases hk : k < (i + m) * 5
  · rw [if_pos hk, Array.getElem?_toList, putAt_get _ _ _ _ (by rw [putAt_size, hs]; simp only [z5, List.length_cons, List.length_nil]; omega), if_neg (by omega), putAt_get _ _ _ _ (by rw [hs, hl2]; omega), hl2]
    by_cases hk2 : i * 5 ≤ k
    · rw [if_pos ⟨hk2, by omega⟩, List.getElem?_append_right (by omega), hl1]
    · rw [if_neg (by omega), List.getElem?_append_left (by omega), e2, List.getElem?_take, if_pos (by omega), Array.getElem?_toList]
  · rw [if_neg hk, List.getElem?_eq_none (by rw [List.length_append, hl1, hl2]; omega)]
set_option maxHeartbeats 2000000 in
theorem remove_calls (base g : Nat) (v : Value) (ms : List S64) (last n : Int) (W : World) (h : MarksAt base W g v ms last) (hl : ms.length ≤ 100000) (hs : Rising ms) :
    Calls Try.prog 10 #[.pointer (some ⟨g, 0, none⟩), .int .i64 n] W fun e w' => ∃ i, Low ms n i ∧
      ((hit ms i n = false ∧ e = .returned (.int .i64 4) ∧ Below W.heap.size W w') ∨
       (hit ms i n = true ∧ e = .returned (.int .i64 0) ∧ ∃ v', MarksAt base w' g v' (ms.eraseIdx i) last ∧ Mv base g v v' W w')) := by
  have HS := Aside0.mk hs
  have H := Aside0.mk h
  clear h hs
  go_enter Try.func10, Try.ntmps10
  go_wp2_with fail
  refine (find_calls base g v ms last n _ H.out (by omega) HS.out).mono ?_
  rintro e w1 ⟨i, hlow, rfl, hb1⟩
  have HB1 := Aside0.mk hb1
  have HL := Aside0.mk hlow
  have H1 := Aside0.mk (H.out.below hb1)
  clear hb1 hlow
  cases hh : hit ms i n with
  | false =>
    have HH := Aside0.mk hh
    clear hh
    go_wp2_with fail
    go_ret
    exact ⟨i, HL.out, .inl ⟨HH.out, rfl, HB1.out⟩⟩
  | true =>
    have HH := Aside0.mk hh
    have hi : i < ms.length := (of_decide_eq_true hh).1
    obtain ⟨m, hm⟩ : ∃ m, ms.length = i + m + 1 := ⟨ms.length - i - 1, by omega⟩
    obtain ⟨hfl, hcase⟩ := ow_flat H1.out.2.2
    rcases hcase with ⟨_, h0⟩ | ⟨gb, cap, cur, rfl, hgb, hcur, hcap, hmax, hsz, htk⟩
    · omega
    have hne : gb ≠ g := blk_ne hcur H1.out.1 (by decide)
    have HD := Aside0.mk (delete_one gb cap i m cur w1 hcur hsz (by omega) (by simpa [maxLen] using hmax) (fun u hu => by
      have : (cur.toList.drop ((i + 1) * 5)).take (m * 5) = flat (ms.drop (i + 1)) := by
        rw [← flat_drop, ← htk, List.drop_take]
        congr 1
        omega
      rw [this] at hu
      exact flat_one _ u hu) (by omega))
    have EF := Aside0.mk (erase_flat ms i m cap cur hm (by omega) hsz htk)
    have hel : (ms.eraseIdx i).length = i + m := by rw [List.length_eraseIdx_of_lt hi]; omega
    have HEL := Aside0.mk hel
    have HC := Aside0.mk (And.intro hgb (And.intro (show i + m ≤ cap by omega) (And.intro hmax (And.intro hsz hne))))
    have hq0 := (blk_cell H1.out.1 0).trans rfl
    have hib : (i : Int) ≤ 1000000 := by omega
    rw [hm] at hq0
    clear hh hfl hgb hcur hcap hmax hsz htk hel hne
    go_wp2_with fail
    refine HD.out.mono ?_
    rintro e w2 ⟨rfl, hb2, hfar, hsize, hbel⟩
    have HG2 : Aside0 (w2.heap[g]? = some (.cells #[.slice (some ⟨gb, 0, none⟩) ms.length cap, .int .i64 last] 60 (0, 0))) := ⟨(hfar g (Ne.symm HC.out.2.2.2.2)).trans H1.out.1⟩
    have HB2 := Aside0.mk hb2
    have HF2 := Aside0.mk (And.intro hfar (And.intro hsize hbel))
    have hf0 := blk_frozen HG2.out 0
    have hc0 := (blk_cell HG2.out 0).trans rfl
    clear hb2 hfar hsize hbel hq0
    go_wp2_with fail
    go_ret
    refine ⟨i, HL.out, .inr ⟨HH.out, rfl, .slice (some ⟨gb, 0, none⟩) (i + m) cap, ⟨by simpa using blk_set HG2.out 0 _, H1.out.2.1, ?_⟩, ?_⟩⟩
    · exact flat_ow ⟨flat_len _, .inr ⟨gb, cap, cutCells cur i m, by rw [HEL.out], HC.out.1, blk_far HB2.out (p := ⟨g, 0, none⟩) HC.out.2.2.2.2 _, by rw [HEL.out]; exact HC.out.2.1, HC.out.2.2.1, by unfold cutCells; rw [putAt_size, putAt_size]; exact HC.out.2.2.2.1, by rw [HEL.out]; exact EF.out⟩⟩
    · refine ⟨((below_lower HB1.out H.out.hb).trans (HF2.out.2.2 base HC.out.1)).setCell H.out.2.1 _, ⟨?_, fun k hk hg hr => ?_⟩, fun k hk => .inl hk⟩
      · have := HB1.out.size
        have := HF2.out.2.1
        simp only [World.setCell]
        simp
        omega
      · have hkb : k ≠ gb := fun e => hr (by rw [e]; rfl)
        exact (Below.heap_setCell w2 ⟨g, 0, none⟩ _ k hg).trans ((HF2.out.1 k hkb).trans (HB1.out.block k hk))
end Go.Proofs.Ytbeoillppkcpmaa.Mark
