/- ids, All, Stab and Over answer the numbers of those ranges of which something is so. For at most 1000000 ranges. -/
import Derived.Laws.Cover3
import Derived.Test.YtbeoillppkcpmaaMarkC
namespace Go.Proofs.Ytbeoillppkcpmaa.Mark
open Go.RowKit Go.Proofs.YtbeoillppkcpmaaW.PrintWords Go.Proofs.YtbeoillppkcpmaaW.PrintLast Go.Proofs.YtbeoillppkcpmaaW.PrintMore Go.Proofs.Ytbeoillppkcpmaa.PMarksPlay
attribute [local go_sem] max2_int min2_int max_two min_two max_three min_three max_four min_four
set_option linter.unusedVariables false
set_option linter.unusedSimpArgs false

theorem info3 : (Try.prog.info? 3).map (fun i => (i.zero, i.size, i.bytes)) = some (some (.int .i64 0), 1, 8) := by kernel_rfl
/-! ### The function values that are handed to ids -/
def pAll (_ _ : Int) : Bool := true
theorem all1_calls (a b : Int) (c d : Bool) (W : World) : Calls Try.prog 38 #[.agg #[.int .i64 a, .int .i64 b, .bool c, .bool d]] W fun e w' => e = .returned (.bool (pAll a b)) ∧ Below W.heap.size W w' := by
  go_enter Try.func38, Try.ntmps38
  go_wp2_with fail
  go_ret
  exact ⟨rfl, below_alloc (Below.refl _ _) _⟩
def pStab (n a b : Int) : Bool := decide (a ≤ n) && decide (n < b)
theorem stab1_calls (n : Int) (q : Nat) (a b : Int) (c d : Bool) (W : World) (hq : W.heap[q]? = some (.cells #[.int .i64 n] 3 (0, 0))) : Calls Try.prog 30 #[.agg #[.int .i64 a, .int .i64 b, .bool c, .bool d], .pointer (some ⟨q, 0, none⟩)] W fun e w' => e = .returned (.bool (pStab n a b)) ∧ Below W.heap.size W w' := by
  have hn : (W.alloc (.cells #[.int .i64 a, .int .i64 b, .bool c, .bool d] 30)).cell? ⟨q, 0, none⟩ = some (.int .i64 n) := (blk_cell (blk_alloc hq _) 0).trans rfl
  have HW : Aside0 (Below W.heap.size W (W.alloc (.cells #[.int .i64 a, .int .i64 b, .bool c, .bool d] 30))) := ⟨below_alloc (Below.refl _ _) _⟩
  clear hq
  by_cases h1 : a ≤ n
  · have h1b : decide (a ≤ n) = true := decide_eq_true h1
    have E : Aside0 (pStab n a b = decide (n < b)) := ⟨by unfold pStab; rw [h1b]; rfl⟩
    go_enter Try.func30, Try.ntmps30
    go_wp2_with fail
    go_ret
    exact ⟨by rw [E.out]; rfl, HW.out⟩
  · have h1b : decide (a ≤ n) = false := decide_eq_false h1
    have E : Aside0 (pStab n a b = false) := ⟨by unfold pStab; rw [h1b]; rfl⟩
    go_enter Try.func30, Try.ntmps30
    go_wp2_with fail
    go_ret
    exact ⟨by rw [E.out]; rfl, HW.out⟩
def pOver (f t a b : Int) : Bool := decide (a < t) && decide (f < b)
theorem over1_calls (f t : Int) (q : Nat) (a b : Int) (c d : Bool) (W : World) (hq : W.heap[q]? = some (.cells #[.int .i64 f, .int .i64 t] 28 (0, 0))) : Calls Try.prog 31 #[.agg #[.int .i64 a, .int .i64 b, .bool c, .bool d], .pointer (some ⟨q, 0, none⟩)] W fun e w' => e = .returned (.bool (pOver f t a b)) ∧ Below W.heap.size W w' := by
  have hn : (W.alloc (.cells #[.int .i64 a, .int .i64 b, .bool c, .bool d] 30)).cell? ⟨q, 0, none⟩ = some (.int .i64 f) := (blk_cell (blk_alloc hq _) 0).trans rfl
  have hm : (W.alloc (.cells #[.int .i64 a, .int .i64 b, .bool c, .bool d] 30)).cell? ⟨q, 1, none⟩ = some (.int .i64 t) := (blk_cell (blk_alloc hq _) 1).trans rfl
  have HW : Aside0 (Below W.heap.size W (W.alloc (.cells #[.int .i64 a, .int .i64 b, .bool c, .bool d] 30))) := ⟨below_alloc (Below.refl _ _) _⟩
  clear hq
  by_cases h1 : a < t
  · have h1b : decide (a < t) = true := decide_eq_true h1
    have E : Aside0 (pOver f t a b = decide (f < b)) := ⟨by unfold pOver; rw [h1b]; rfl⟩
    go_enter Try.func31, Try.ntmps31
    go_wp2_with fail
    go_ret
    exact ⟨by rw [E.out]; rfl, HW.out⟩
  · have h1b : decide (a < t) = false := decide_eq_false h1
    have E : Aside0 (pOver f t a b = false) := ⟨by unfold pOver; rw [h1b]; rfl⟩
    go_enter Try.func31, Try.ntmps31
    go_wp2_with fail
    go_ret
    exact ⟨by rw [E.out]; rfl, HW.out⟩
/-! ### ids -/
def idsF (p : Int → Int → Bool) (ms : List S64) : List Int := (ms.filter fun x => p x.f0.f0.f0 x.f0.f0.f1).map (·.f1)
theorem ids_snoc (p : Int → Int → Bool) (ms : List S64) (j : Nat) (h : j < ms.length) (a b : Int) (c d : Bool) (i : Int) (hx : ms.getD j z64 = ⟨⟨⟨a, b⟩, c, d⟩, i⟩) : idsF p (ms.take (j + 1)) = idsF p (ms.take j) ++ (if p a b = true then [i] else []) := by
  have e : ms.take (j + 1) = ms.take j ++ [ms.getD j z64] := by
    rw [List.take_succ_eq_append_getElem h]
    simp [List.getD_eq_getElem?_getD, List.getElem?_eq_getElem h]
  rw [e, hx]
  unfold idsF
  rw [List.filter_append, List.map_append]
  congr 1
  by_cases hp : p a b = true <;> simp [hp]
theorem ids_le (p : Int → Int → Bool) (ms : List S64) : (idsF p ms).length ≤ ms.length := by
  unfold idsF
  rw [List.length_map]
  exact List.length_filter_le _ _
/-- What ids comes to. -/
def IdsR (r : List Int) (W : World) (e : Ending) (w' : World) : Prop := ∃ A c, e = .returned (.slice A r.length c) ∧ r.length ≤ c ∧ Kd.C (Kd.int .i64) w' A r.length r ∧ Below W.heap.size W w'

set_option maxHeartbeats 2000000 in
theorem ids38 (base g : Nat) (v : Value) (ms : List S64) (last : Int)  (W : World) (h : MarksAt base W g v ms last) (hl : ms.length ≤ 1000000)  :
    Calls Try.prog 29 #[.pointer (some ⟨g, 0, none⟩), .func (.func 38) #[] #[]] W (IdsR (idsF pAll ms) W) := by
  obtain ⟨A, cc, rfl, hc, hc0, hc1, hf0, hf1, hr⟩ := h.open_
  have H := Aside0.mk h
  have HR := Aside0.mk hr
  skip
  clear h hr hc0 hc1 hf0 hf1
  go_enter Try.func29, Try.ntmps29
  go_wp2_with fail
  refine (rows_calls base g _ ms last _ H.out).mono ?_
  rintro e w1 ⟨rfl, hb1⟩
  have HB1 := Aside0.mk hb1
  clear hb1
  go_wp2_with fail
  go_loopg [5, 7, 11] (ms.length + 1) (fun kq v5 v7 v11 wr => ∃ j : Nat, v11 = .int .i64 (j : Int) ∧ j ≤ ms.length ∧ kq + j = ms.length + 1 ∧ Aside0 (Kd.R (Kd.int .i64) 3 wr W.heap.size (fun _ => True) v5 (idsF pAll (ms.take j))) ∧ Aside0 (Below W.heap.size W wr))
  case atStart => exact ⟨0, rfl, by omega, by omega, ⟨by simpa [idsF] using Kd.R_nil _ _ _ _ _⟩, HB1⟩
  case round =>
    obtain ⟨j, rfl, hj, hk, HO, HB⟩ := hrel
    have HK := Aside0.mk hk
    clear hk
    by_cases hlt : j < ms.length
    · obtain ⟨ad, a, b, c, d, rfl, hx, y0, y1, y2, y3, y4⟩ := at_item (Kd.C_below HR.out HB.out) j hlt
      have HX := Aside0.mk (ids_snoc pAll ms j hlt a b c d _ hx)
      have HW : Aside0 (Below wr.heap.size wr (wr.alloc (.cells #[.int .i64 a, .int .i64 b, .bool c, .bool d, .int .i64 (idAt ms j)] 64))) := ⟨below_alloc (Below.refl _ _) _⟩
      have HBW := Aside0.mk (below_then HB.out HB.out.size HW.out)
      have HLE := Aside0.mk (ids_le pAll (ms.take j))
      clear hx
      cases gk with
      | zero => exact absurd HK.out (by omega)
      | succ k1 =>
        go_wp2_with fail
        refine (all1_calls a b c d _).mono ?_
        rintro e w2 ⟨rfl, hb2⟩
        have HB2 := Aside0.mk (below_then HBW.out HBW.out.size hb2)
        have hk4 : w2.cell? ⟨wr.heap.size, 4, none⟩ = some (.int .i64 (idAt ms j)) := (blk_cell (blk_below (blk_new wr (.cells #[.int .i64 a, .int .i64 b, .bool c, .bool d, .int .i64 (idAt ms j)] 64)) hb2) 4).trans rfl
        have HO2 := Aside0.mk (Kd.R_below (Kd.R_below HO.out HW.out) hb2)
        clear hb2 y0 y1 y2 y3 y4
        cases hp : pAll a b with
        | true =>
          have HX2 : Aside0 (idsF pAll (ms.take (j + 1)) = idsF pAll (ms.take j) ++ [idAt ms j]) := ⟨by rw [HX.out, if_pos hp]⟩
          clear hp
          obtain ⟨acc, hacc⟩ : ∃ acc, idsF pAll (ms.take j) = acc := ⟨_, rfl⟩
          rw [hacc] at HO2 HX2 HLE
          have HLT : Aside0 (acc.length ≤ 1000000) := ⟨by have := HLE.out; rw [List.length_take] at this; omega⟩
          clear hacc HO HX
          go_wp2_with ((with_reducible refine gate_builtin (b := .append) (xs := #[.tmp 19, .tmp 22]) rfl ?_); at_builtin; refine Kd.R_append (Kd.int .i64) (w0 := W) W.heap.size rfl (.tmp 19) (.tmp 22) 50 3 (.int .i64 0) 8 rfl Try.underlying50 info3 rfl (by decide) (by omega) u5 acc (idAt ms j) [.int .i64 (idAt ms j)] (fun _ => True) (fun _ => False) rfl rfl ?aP (fun _ hk => hk.elim) ?aF ?aO ?aB ?aS ?aL ?_; (case aP => exact rfl); (case aF => exact fun _ _ => trivial); (case aO => exact HO2.out); (case aB => exact HB2.out); (case aS => exact HB2.out.size); (case aL => have := HLT.out; omega); intro v3 w3 ho hb hg hat; have HO3 := Aside0.mk ho; have HB3 := Aside0.mk hb; clear ho hb hg hat)
          go_roundg k1
          case measure => omega
          case rel => exact ⟨j + 1, by go_num, by omega, by have := HK.out; omega, ⟨by rw [HX2.out]; exact HO3.out⟩, HB3⟩
        | false =>
          have HX2 : Aside0 (idsF pAll (ms.take (j + 1)) = idsF pAll (ms.take j)) := ⟨by rw [HX.out, if_neg (by rw [hp]; decide), List.append_nil]⟩
          clear hp
          go_wp2_with fail
          go_roundg k1
          case measure => omega
          case rel => exact ⟨j + 1, by go_num, by omega, by have := HK.out; omega, ⟨by rw [HX2.out]; exact HO2.out⟩, HB2⟩
    · obtain rfl : j = ms.length := by omega
      have HO2 : Aside0 (Kd.R (Kd.int .i64) 3 wr W.heap.size (fun _ => True) u5 (idsF pAll ms)) := ⟨by have := HO.out; rwa [List.take_length] at this⟩
      obtain ⟨A5, c5, rfl, hl5, hr5⟩ := Kd.R_reads HO2.out
      have HL5 := Aside0.mk hl5
      have HR5 := Aside0.mk hr5
      clear hl5 hr5 HO
      go_wp2_with fail
      go_ret
      exact ⟨A5, c5, rfl, HL5.out, HR5.out, HB.out⟩

set_option maxHeartbeats 2000000 in
theorem ids30 (base g : Nat) (v : Value) (ms : List S64) (last : Int) (n : Int) (q : Nat) (W : World) (h : MarksAt base W g v ms last) (hl : ms.length ≤ 1000000) (hq : W.heap[q]? = some (.cells #[.int .i64 n] 3 (0, 0))) :
    Calls Try.prog 29 #[.pointer (some ⟨g, 0, none⟩), .func (.func 30) #[] #[.pointer (some ⟨q, 0, none⟩)]] W (IdsR (idsF (pStab n) ms) W) := by
  obtain ⟨A, cc, rfl, hc, hc0, hc1, hf0, hf1, hr⟩ := h.open_
  have H := Aside0.mk h
  have HR := Aside0.mk hr
  have HQ := Aside0.mk hq
  clear hq
  clear h hr hc0 hc1 hf0 hf1
  go_enter Try.func29, Try.ntmps29
  go_wp2_with fail
  refine (rows_calls base g _ ms last _ H.out).mono ?_
  rintro e w1 ⟨rfl, hb1⟩
  have HB1 := Aside0.mk hb1
  clear hb1
  go_wp2_with fail
  go_loopg [5, 7, 11] (ms.length + 1) (fun kq v5 v7 v11 wr => ∃ j : Nat, v11 = .int .i64 (j : Int) ∧ j ≤ ms.length ∧ kq + j = ms.length + 1 ∧ Aside0 (Kd.R (Kd.int .i64) 3 wr W.heap.size (fun _ => True) v5 (idsF (pStab n) (ms.take j))) ∧ Aside0 (Below W.heap.size W wr))
  case atStart => exact ⟨0, rfl, by omega, by omega, ⟨by simpa [idsF] using Kd.R_nil _ _ _ _ _⟩, HB1⟩
  case round =>
    obtain ⟨j, rfl, hj, hk, HO, HB⟩ := hrel
    have HK := Aside0.mk hk
    clear hk
    by_cases hlt : j < ms.length
    · obtain ⟨ad, a, b, c, d, rfl, hx, y0, y1, y2, y3, y4⟩ := at_item (Kd.C_below HR.out HB.out) j hlt
      have HX := Aside0.mk (ids_snoc (pStab n) ms j hlt a b c d _ hx)
      have HW : Aside0 (Below wr.heap.size wr (wr.alloc (.cells #[.int .i64 a, .int .i64 b, .bool c, .bool d, .int .i64 (idAt ms j)] 64))) := ⟨below_alloc (Below.refl _ _) _⟩
      have HBW := Aside0.mk (below_then HB.out HB.out.size HW.out)
      have HLE := Aside0.mk (ids_le (pStab n) (ms.take j))
      clear hx
      cases gk with
      | zero => exact absurd HK.out (by omega)
      | succ k1 =>
        go_wp2_with fail
        refine (stab1_calls n q a b c d _ (blk_below HQ.out HBW.out)).mono ?_
        rintro e w2 ⟨rfl, hb2⟩
        have HB2 := Aside0.mk (below_then HBW.out HBW.out.size hb2)
        have hk4 : w2.cell? ⟨wr.heap.size, 4, none⟩ = some (.int .i64 (idAt ms j)) := (blk_cell (blk_below (blk_new wr (.cells #[.int .i64 a, .int .i64 b, .bool c, .bool d, .int .i64 (idAt ms j)] 64)) hb2) 4).trans rfl
        have HO2 := Aside0.mk (Kd.R_below (Kd.R_below HO.out HW.out) hb2)
        clear hb2 y0 y1 y2 y3 y4
        cases hp : (pStab n) a b with
        | true =>
          have HX2 : Aside0 (idsF (pStab n) (ms.take (j + 1)) = idsF (pStab n) (ms.take j) ++ [idAt ms j]) := ⟨by rw [HX.out, if_pos hp]⟩
          clear hp
          obtain ⟨acc, hacc⟩ : ∃ acc, idsF (pStab n) (ms.take j) = acc := ⟨_, rfl⟩
          rw [hacc] at HO2 HX2 HLE
          have HLT : Aside0 (acc.length ≤ 1000000) := ⟨by have := HLE.out; rw [List.length_take] at this; omega⟩
          clear hacc HO HX
          go_wp2_with ((with_reducible refine gate_builtin (b := .append) (xs := #[.tmp 19, .tmp 22]) rfl ?_); at_builtin; refine Kd.R_append (Kd.int .i64) (w0 := W) W.heap.size rfl (.tmp 19) (.tmp 22) 50 3 (.int .i64 0) 8 rfl Try.underlying50 info3 rfl (by decide) (by omega) u5 acc (idAt ms j) [.int .i64 (idAt ms j)] (fun _ => True) (fun _ => False) rfl rfl ?aP (fun _ hk => hk.elim) ?aF ?aO ?aB ?aS ?aL ?_; (case aP => exact rfl); (case aF => exact fun _ _ => trivial); (case aO => exact HO2.out); (case aB => exact HB2.out); (case aS => exact HB2.out.size); (case aL => have := HLT.out; omega); intro v3 w3 ho hb hg hat; have HO3 := Aside0.mk ho; have HB3 := Aside0.mk hb; clear ho hb hg hat)
          go_roundg k1
          case measure => omega
          case rel => exact ⟨j + 1, by go_num, by omega, by have := HK.out; omega, ⟨by rw [HX2.out]; exact HO3.out⟩, HB3⟩
        | false =>
          have HX2 : Aside0 (idsF (pStab n) (ms.take (j + 1)) = idsF (pStab n) (ms.take j)) := ⟨by rw [HX.out, if_neg (by rw [hp]; decide), List.append_nil]⟩
          clear hp
          go_wp2_with fail
          go_roundg k1
          case measure => omega
          case rel => exact ⟨j + 1, by go_num, by omega, by have := HK.out; omega, ⟨by rw [HX2.out]; exact HO2.out⟩, HB2⟩
    · obtain rfl : j = ms.length := by omega
      have HO2 : Aside0 (Kd.R (Kd.int .i64) 3 wr W.heap.size (fun _ => True) u5 (idsF (pStab n) ms)) := ⟨by have := HO.out; rwa [List.take_length] at this⟩
      obtain ⟨A5, c5, rfl, hl5, hr5⟩ := Kd.R_reads HO2.out
      have HL5 := Aside0.mk hl5
      have HR5 := Aside0.mk hr5
      clear hl5 hr5 HO
      go_wp2_with fail
      go_ret
      exact ⟨A5, c5, rfl, HL5.out, HR5.out, HB.out⟩

set_option maxHeartbeats 2000000 in
theorem ids31 (base g : Nat) (v : Value) (ms : List S64) (last : Int) (f t : Int) (q : Nat) (W : World) (h : MarksAt base W g v ms last) (hl : ms.length ≤ 1000000) (hq : W.heap[q]? = some (.cells #[.int .i64 f, .int .i64 t] 28 (0, 0))) :
    Calls Try.prog 29 #[.pointer (some ⟨g, 0, none⟩), .func (.func 31) #[] #[.pointer (some ⟨q, 0, none⟩)]] W (IdsR (idsF (pOver f t) ms) W) := by
  obtain ⟨A, cc, rfl, hc, hc0, hc1, hf0, hf1, hr⟩ := h.open_
  have H := Aside0.mk h
  have HR := Aside0.mk hr
  have HQ := Aside0.mk hq
  clear hq
  clear h hr hc0 hc1 hf0 hf1
  go_enter Try.func29, Try.ntmps29
  go_wp2_with fail
  refine (rows_calls base g _ ms last _ H.out).mono ?_
  rintro e w1 ⟨rfl, hb1⟩
  have HB1 := Aside0.mk hb1
  clear hb1
  go_wp2_with fail
  go_loopg [5, 7, 11] (ms.length + 1) (fun kq v5 v7 v11 wr => ∃ j : Nat, v11 = .int .i64 (j : Int) ∧ j ≤ ms.length ∧ kq + j = ms.length + 1 ∧ Aside0 (Kd.R (Kd.int .i64) 3 wr W.heap.size (fun _ => True) v5 (idsF (pOver f t) (ms.take j))) ∧ Aside0 (Below W.heap.size W wr))
  case atStart => exact ⟨0, rfl, by omega, by omega, ⟨by simpa [idsF] using Kd.R_nil _ _ _ _ _⟩, HB1⟩
  case round =>
    obtain ⟨j, rfl, hj, hk, HO, HB⟩ := hrel
    have HK := Aside0.mk hk
    clear hk
    by_cases hlt : j < ms.length
    · obtain ⟨ad, a, b, c, d, rfl, hx, y0, y1, y2, y3, y4⟩ := at_item (Kd.C_below HR.out HB.out) j hlt
      have HX := Aside0.mk (ids_snoc (pOver f t) ms j hlt a b c d _ hx)
      have HW : Aside0 (Below wr.heap.size wr (wr.alloc (.cells #[.int .i64 a, .int .i64 b, .bool c, .bool d, .int .i64 (idAt ms j)] 64))) := ⟨below_alloc (Below.refl _ _) _⟩
      have HBW := Aside0.mk (below_then HB.out HB.out.size HW.out)
      have HLE := Aside0.mk (ids_le (pOver f t) (ms.take j))
      clear hx
      cases gk with
      | zero => exact absurd HK.out (by omega)
      | succ k1 =>
        go_wp2_with fail
        refine (over1_calls f t q a b c d _ (blk_below HQ.out HBW.out)).mono ?_
        rintro e w2 ⟨rfl, hb2⟩
        have HB2 := Aside0.mk (below_then HBW.out HBW.out.size hb2)
        have hk4 : w2.cell? ⟨wr.heap.size, 4, none⟩ = some (.int .i64 (idAt ms j)) := (blk_cell (blk_below (blk_new wr (.cells #[.int .i64 a, .int .i64 b, .bool c, .bool d, .int .i64 (idAt ms j)] 64)) hb2) 4).trans rfl
        have HO2 := Aside0.mk (Kd.R_below (Kd.R_below HO.out HW.out) hb2)
        clear hb2 y0 y1 y2 y3 y4
        cases hp : (pOver f t) a b with
        | true =>
          have HX2 : Aside0 (idsF (pOver f t) (ms.take (j + 1)) = idsF (pOver f t) (ms.take j) ++ [idAt ms j]) := ⟨by rw [HX.out, if_pos hp]⟩
          clear hp
          obtain ⟨acc, hacc⟩ : ∃ acc, idsF (pOver f t) (ms.take j) = acc := ⟨_, rfl⟩
          rw [hacc] at HO2 HX2 HLE
          have HLT : Aside0 (acc.length ≤ 1000000) := ⟨by have := HLE.out; rw [List.length_take] at this; omega⟩
          clear hacc HO HX
          go_wp2_with ((with_reducible refine gate_builtin (b := .append) (xs := #[.tmp 19, .tmp 22]) rfl ?_); at_builtin; refine Kd.R_append (Kd.int .i64) (w0 := W) W.heap.size rfl (.tmp 19) (.tmp 22) 50 3 (.int .i64 0) 8 rfl Try.underlying50 info3 rfl (by decide) (by omega) u5 acc (idAt ms j) [.int .i64 (idAt ms j)] (fun _ => True) (fun _ => False) rfl rfl ?aP (fun _ hk => hk.elim) ?aF ?aO ?aB ?aS ?aL ?_; (case aP => exact rfl); (case aF => exact fun _ _ => trivial); (case aO => exact HO2.out); (case aB => exact HB2.out); (case aS => exact HB2.out.size); (case aL => have := HLT.out; omega); intro v3 w3 ho hb hg hat; have HO3 := Aside0.mk ho; have HB3 := Aside0.mk hb; clear ho hb hg hat)
          go_roundg k1
          case measure => omega
          case rel => exact ⟨j + 1, by go_num, by omega, by have := HK.out; omega, ⟨by rw [HX2.out]; exact HO3.out⟩, HB3⟩
        | false =>
          have HX2 : Aside0 (idsF (pOver f t) (ms.take (j + 1)) = idsF (pOver f t) (ms.take j)) := ⟨by rw [HX.out, if_neg (by rw [hp]; decide), List.append_nil]⟩
          clear hp
          go_wp2_with fail
          go_roundg k1
          case measure => omega
          case rel => exact ⟨j + 1, by go_num, by omega, by have := HK.out; omega, ⟨by rw [HX2.out]; exact HO2.out⟩, HB2⟩
    · obtain rfl : j = ms.length := by omega
      have HO2 : Aside0 (Kd.R (Kd.int .i64) 3 wr W.heap.size (fun _ => True) u5 (idsF (pOver f t) ms)) := ⟨by have := HO.out; rwa [List.take_length] at this⟩
      obtain ⟨A5, c5, rfl, hl5, hr5⟩ := Kd.R_reads HO2.out
      have HL5 := Aside0.mk hl5
      have HR5 := Aside0.mk hr5
      clear hl5 hr5 HO
      go_wp2_with fail
      go_ret
      exact ⟨A5, c5, rfl, HL5.out, HR5.out, HB.out⟩

theorem all_calls (base g : Nat) (v : Value) (ms : List S64) (last : Int) (W : World) (h : MarksAt base W g v ms last) (hl : ms.length ≤ 1000000) :
    Calls Try.prog 20 #[.pointer (some ⟨g, 0, none⟩)] W (IdsR (ms.map (·.f1)) W) := by
  have e : ms.map (·.f1) = idsF pAll ms := by
    have : ms.filter (fun x => pAll x.f0.f0.f0 x.f0.f0.f1) = ms := List.filter_eq_self.mpr (fun _ _ => rfl)
    unfold idsF
    rw [this]
  rw [e]
  have H := Aside0.mk h
  clear h e
  go_enter Try.func20, Try.ntmps20
  go_wp2_with fail
  refine (ids38 base g v ms last _ H.out hl).mono ?_
  rintro e w1 ⟨A, c, rfl, hl1, hr1, hb1⟩
  have H1 := Aside0.mk (And.intro hl1 (And.intro hr1 hb1))
  clear hl1 hr1 hb1
  go_wp2_with fail
  go_ret
  exact ⟨A, c, rfl, H1.out⟩
theorem stab_calls (base g : Nat) (v : Value) (ms : List S64) (last n : Int) (W : World) (h : MarksAt base W g v ms last) (hl : ms.length ≤ 1000000) :
    Calls Try.prog 15 #[.pointer (some ⟨g, 0, none⟩), .int .i64 n] W (IdsR (idsF (pStab n) ms) W) := by
  have HW : Aside0 (Below W.heap.size W (W.alloc (.cells #[.int .i64 n] 3))) := ⟨below_alloc (Below.refl _ _) _⟩
  have H := Aside0.mk h
  have hmf := fun (fn : Fn) (first cap : Array Value) (w : World) => (show (Instr.makeFunc fn first cap).run Try.prog w = .ok (.func fn first cap) w from rfl)
  clear h
  go_enter Try.func15, Try.ntmps15
  go_wp2_with fail
  refine (ids30 base g v ms last n W.heap.size _ (H.out.below HW.out) hl (blk_new W _)).mono ?_
  rintro e w1 ⟨A, c, rfl, hl1, hr1, hb1⟩
  have H1 := Aside0.mk (And.intro hl1 (And.intro hr1 (below_then HW.out HW.out.size hb1)))
  clear hl1 hr1 hb1
  go_wp2_with fail
  go_ret
  exact ⟨A, c, rfl, H1.out⟩
theorem over_calls (base g : Nat) (v : Value) (ms : List S64) (last f t : Int) (W : World) (h : MarksAt base W g v ms last) (hl : ms.length ≤ 1000000) :
    Calls Try.prog 16 #[.pointer (some ⟨g, 0, none⟩), .agg #[.int .i64 f, .int .i64 t]] W (IdsR (idsF (pOver f t) ms) W) := by
  have HW : Aside0 (Below W.heap.size W (W.alloc (.cells #[.int .i64 f, .int .i64 t] 28))) := ⟨below_alloc (Below.refl _ _) _⟩
  have H := Aside0.mk h
  have hmf := fun (fn : Fn) (first cap : Array Value) (w : World) => (show (Instr.makeFunc fn first cap).run Try.prog w = .ok (.func fn first cap) w from rfl)
  clear h
  go_enter Try.func16, Try.ntmps16
  go_wp2_with fail
  refine (ids31 base g v ms last f t W.heap.size _ (H.out.below HW.out) hl (blk_new W _)).mono ?_
  rintro e w1 ⟨A, c, rfl, hl1, hr1, hb1⟩
  have H1 := Aside0.mk (And.intro hl1 (And.intro hr1 (below_then HW.out HW.out.size hb1)))
  clear hl1 hr1 hb1
  go_wp2_with fail
  go_ret
  exact ⟨A, c, rfl, H1.out⟩
theorem all_nil (W : World) : Calls Try.prog 20 #[.pointer none] W fun e w' => e = .returned (.slice none 0 0) ∧ Below W.heap.size W w' := by
  have h29 : Calls Try.prog 29 #[.pointer none, .func (.func 38) #[] #[]] W fun e w' => e = .returned (.slice none 0 0) ∧ Below W.heap.size W w' := by
    go_enter Try.func29, Try.ntmps29
    go_wp2_with fail
    refine (rows_nil _).mono ?_
    rintro e w1 ⟨rfl, hb1⟩
    have HB1 := Aside0.mk hb1
    clear hb1
    go_wp2_with fail
    go_loopg [5, 7, 11] 1 (fun kq v5 v7 v11 wr => v11 = .int .i64 0 ∧ v5 = .slice none 0 0 ∧ Aside0 (Below W.heap.size W wr))
    case atStart => exact ⟨rfl, rfl, HB1⟩
    case round =>
      obtain ⟨rfl, rfl, HB⟩ := hrel
      go_wp2_with fail
      go_ret
      exact ⟨rfl, HB.out⟩
  have H := Aside0.mk h29
  clear h29
  go_enter Try.func20, Try.ntmps20
  go_wp2_with fail
  refine (H.out).mono ?_
  rintro e w1 ⟨rfl, hb1⟩
  go_wp2_with fail
  go_ret
  exact ⟨rfl, hb1⟩
end Go.Proofs.Ytbeoillppkcpmaa.Mark
