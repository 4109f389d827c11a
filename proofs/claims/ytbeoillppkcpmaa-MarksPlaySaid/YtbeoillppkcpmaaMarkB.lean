/- slices.BinarySearchFunc and find tell where a number's range is. For ranges of rising numbers, at most 1000000. -/
import Derived.Laws.Cover3
import Derived.Test.YtbeoillppkcpmaaMarkA
namespace Go.Proofs.Ytbeoillppkcpmaa.Mark
open Go.RowKit Go.Proofs.YtbeoillppkcpmaaW.PrintWords Go.Proofs.YtbeoillppkcpmaaW.PrintLast Go.Proofs.YtbeoillppkcpmaaW.PrintMore Go.Proofs.Ytbeoillppkcpmaa.PMarksPlay
attribute [local go_sem] max2_int min2_int max_two min_two max_three min_three max_four min_four
set_option linter.unusedVariables false
set_option linter.unusedSimpArgs false
/-! ### Where a number's item is, in items of rising numbers -/
def idAt (ms : List S64) (i : Nat) : Int := (ms.getD i z64).f1
def Rising (ms : List S64) : Prop := ∀ a b, a < b → b < ms.length → idAt ms a < idAt ms b
/-- The first place whose number is no smaller. -/
def Low (ms : List S64) (n : Int) (i : Nat) : Prop := i ≤ ms.length ∧ (∀ k, k < i → idAt ms k < n) ∧ (∀ k, i ≤ k → k < ms.length → n ≤ idAt ms k)

def hit (ms : List S64) (i : Nat) (n : Int) : Bool := decide (i < ms.length ∧ idAt ms i = n)
theorem cmpI_lt (x y : Int) : decide (cmpI x y < 0) = decide (x < y) := by
  unfold cmpI
  by_cases h : x < y
  · rw [if_pos h, decide_eq_true h]; rfl
  · rw [if_neg h, decide_eq_false h]
    by_cases h2 : y < x
    · rw [if_pos h2]; rfl
    · rw [if_neg h2]; rfl
theorem cmpI_eq (x y : Int) : (cmpI x y == 0) = decide (x = y) := by
  unfold cmpI
  by_cases h : x < y
  · rw [if_pos h, decide_eq_false (by omega)]; rfl
  · rw [if_neg h]
    by_cases h2 : y < x
    · rw [if_pos h2, decide_eq_false (by omega)]; rfl
    · rw [if_neg h2, decide_eq_true (by omega)]; rfl
/-- An item's cells, by a natural number. -/
theorem at_item {w : World} {A : Option Addr} {ms : List S64} (h : Kd.C k64 w A ms.length ms) (i : Nat) (hi : i < ms.length) : ∃ (ad : Addr) (a b : Int) (c d : Bool), A = some ad ∧ ms.getD i z64 = ⟨⟨⟨a, b⟩, c, d⟩, idAt ms i⟩ ∧
    w.cell? (ad.add (i * 5)) = some (.int .i64 a) ∧ w.cell? ⟨(ad.add (i * 5)).block, (ad.add (i * 5)).off + 1, none⟩ = some (.int .i64 b) ∧ w.cell? ⟨(ad.add (i * 5)).block, (ad.add (i * 5)).off + 2, none⟩ = some (.bool c) ∧ w.cell? ⟨(ad.add (i * 5)).block, (ad.add (i * 5)).off + 3, none⟩ = some (.bool d) ∧ w.cell? ⟨(ad.add (i * 5)).block, (ad.add (i * 5)).off + 4, none⟩ = some (.int .i64 (idAt ms i)) := by
  obtain ⟨ad, rfl, h0, h1, h2, h3, h4⟩ := at_T64 h (i : Int) (by omega) (by omega)
  rw [Int.toNat_natCast] at h0 h1 h2 h3 h4
  have e : rd_T64 ms (i : Int) = ms.getD i z64 := by simp [rd_T64]
  rw [e] at h0 h1 h2 h3 h4
  exact ⟨ad, _, _, _, _, rfl, rfl, h0, h1, h2, h3, h4⟩
set_option maxHeartbeats 4000000 in
theorem search_calls (ms : List S64) (A : Option Addr) (c : Nat) (n : Int) (W : World) (hr : Kd.C k64 W A ms.length ms) (hc : ms.length ≤ c) (hl : ms.length ≤ 1000000) (hs : Rising ms) :
    Calls Try.prog 39 #[.slice A ms.length c, .int .i64 n, .func (.func 41) #[] #[]] W fun e w' => ∃ i, Low ms n i ∧ e = .returned (.tuple #[.int .i64 (i : Int), .bool (hit ms i n)]) ∧ Below W.heap.size W w' := by
  have HR := Aside0.mk hr
  have HS := Aside0.mk hs
  clear hr hs
  go_enter Try.func39, Try.ntmps39
  go_wp2_with fail
  go_loopg [9, 10, 11] ms.length (fun kq v9 v10 v11 wr => ∃ i j : Nat, v9 = .int .i64 (i : Int) ∧ v10 = .int .i64 (j : Int) ∧ i ≤ j ∧ j ≤ ms.length ∧ kq + i = j ∧ Aside0 ((∀ k, k < i → idAt ms k < n) ∧ (∀ k, j ≤ k → k < ms.length → n ≤ idAt ms k)) ∧ Aside0 (Below W.heap.size W wr))
  case atStart => exact ⟨0, ms.length, rfl, rfl, by omega, by omega, by omega, ⟨by intro k hk; omega, by intro k h1 h2; omega⟩, ⟨Below.refl _ _⟩⟩
  case round =>
    obtain ⟨i, j, rfl, rfl, hij, hj, hk, HI, HB⟩ := hrel
    have HK := Aside0.mk hk
    clear hk
    by_cases hlt : i < j
    · have hlb : decide ((i : Int) < (j : Int)) = true := decide_eq_true (by omega)
      obtain ⟨h, hh⟩ : ∃ h : Nat, ((i : Int) + (j : Int)) / 2 = (h : Int) := ⟨(i + j) / 2, by omega⟩
      have hh1 : i ≤ h := by omega
      have hh2 : h < j := by omega
      have hh3 : h < ms.length := by omega
      obtain ⟨ad, xa, xb, xc, xd, rfl, _, y0, y1, y2, y3, y4⟩ := at_item (Kd.C_below HR.out HB.out) h hh3
      by_cases hn : idAt ms h < n
      · have hnb : decide (cmpI (idAt ms h) n < 0) = true := by rw [cmpI_lt]; exact decide_eq_true hn
        have HN := Aside0.mk hn
        clear hn
        go_wp2_with fail
        refine (find1_calls xa xb xc xd (idAt ms h) n _).mono ?_
        rintro e w1 ⟨rfl, hb1⟩
        have HB1 := Aside0.mk (below_then HB.out HB.out.size hb1)
        clear hb1
        go_wp2_with fail
        go_roundg (j - (h + 1))
        case measure => have := HK.out; omega
        case rel => exact ⟨h + 1, j, by go_num, rfl, by omega, hj, by omega, ⟨fun k hk => by
          rcases Nat.lt_or_ge k h with h1 | h1
          · have := HS.out k h h1 hh3; have := HN.out; omega
          · obtain rfl : k = h := by omega
            exact HN.out, HI.out.2⟩, HB1⟩
      · have hnb : decide (cmpI (idAt ms h) n < 0) = false := by rw [cmpI_lt]; exact decide_eq_false hn
        have HN := Aside0.mk hn
        clear hn
        go_wp2_with fail
        refine (find1_calls xa xb xc xd (idAt ms h) n _).mono ?_
        rintro e w1 ⟨rfl, hb1⟩
        have HB1 := Aside0.mk (below_then HB.out HB.out.size hb1)
        clear hb1
        go_wp2_with fail
        go_roundg (h - i)
        case measure => have := HK.out; omega
        case rel => exact ⟨i, h, rfl, rfl, hh1, by omega, by omega, ⟨HI.out.1, fun k h1 h2 => by
          rcases Nat.lt_or_ge h k with h3 | h3
          · have := HS.out h k h3 h2; have := HN.out; omega
          · obtain rfl : k = h := by omega
            have := HN.out; omega⟩, HB1⟩
    · obtain rfl : i = j := by omega
      have hlb : decide ((i : Int) < (i : Int)) = false := decide_eq_false (by omega)
      have HLow : Aside0 (Low ms n i) := ⟨hj, HI.out.1, HI.out.2⟩
      by_cases hi : i < ms.length
      · have hib : decide ((i : Int) < (ms.length : Int)) = true := decide_eq_true (by omega)
        obtain ⟨ad, xa, xb, xc, xd, rfl, _, y0, y1, y2, y3, y4⟩ := at_item (Kd.C_below HR.out HB.out) i hi
        have E : Aside0 (hit ms i n = (cmpI (idAt ms i) n == 0)) := ⟨by unfold hit; rw [cmpI_eq]; by_cases h : idAt ms i = n <;> simp [h, hi]⟩
        go_wp2_with fail
        refine (find1_calls xa xb xc xd (idAt ms i) n _).mono ?_
        rintro e w1 ⟨rfl, hb1⟩
        have HB1 := Aside0.mk (below_then HB.out HB.out.size hb1)
        clear hb1
        go_wp2_with fail
        go_ret2
        exact ⟨i, HLow.out, by rw [E.out]; rfl, HB1.out⟩
      · have hib : decide ((i : Int) < (ms.length : Int)) = false := decide_eq_false (by omega)
        have E : Aside0 (hit ms i n = false) := ⟨decide_eq_false (fun h => hi h.1)⟩
        go_wp2_with fail
        go_ret2
        exact ⟨i, HLow.out, by rw [E.out]; rfl, HB.out⟩
/-- Where a number's item is, and is it there? -/
def FindR (ms : List S64) (n : Int) (W : World) (e : Ending) (w' : World) : Prop := ∃ i, Low ms n i ∧ e = .returned (.tuple #[.int .i64 (i : Int), .bool (hit ms i n)]) ∧ Below W.heap.size W w'
theorem find_calls (base g : Nat) (v : Value) (ms : List S64) (last n : Int) (W : World) (h : MarksAt base W g v ms last) (hl : ms.length ≤ 1000000) (hs : Rising ms) :
    Calls Try.prog 23 #[.pointer (some ⟨g, 0, none⟩), .int .i64 n] W (FindR ms n W) := by
  have H := Aside0.mk h
  have HS := Aside0.mk hs
  obtain ⟨A, c, rfl, hc, hc0, hc1, hf0, hf1, hr⟩ := h.open_
  have HR := Aside0.mk hr
  clear h hr hs hc0 hc1 hf0 hf1
  go_enter Try.func23, Try.ntmps23
  go_wp2_with fail
  refine (rows_calls base g _ ms last _ H.out).mono ?_
  rintro e w1 ⟨rfl, hb1⟩
  have HB1 := Aside0.mk hb1
  clear hb1
  go_wp2_with fail
  refine (search_calls ms A c n _ (Kd.C_below HR.out HB1.out) hc hl HS.out).mono ?_
  rintro e w2 ⟨i, hlow, rfl, hb2⟩
  have HB2 := Aside0.mk (below_then HB1.out HB1.out.size hb2)
  have HLow := Aside0.mk hlow
  clear hb2 hlow
  go_wp2_with fail
  go_ret2
  exact ⟨i, HLow.out, rfl, HB2.out⟩
end Go.Proofs.Ytbeoillppkcpmaa.Mark
