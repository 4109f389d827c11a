/- cmp.Or answers the first number that is not 0. For at most 1000000 numbers. -/
import Derived.Laws.Cover3
import Derived.Test.YtbeoillppkcpmaaMarkJ
namespace Go.Proofs.Ytbeoillppkcpmaa.Mark
open Go.RowKit Go.Proofs.YtbeoillppkcpmaaW.PrintWords Go.Proofs.YtbeoillppkcpmaaW.PrintLast Go.Proofs.YtbeoillppkcpmaaW.PrintMore Go.Proofs.Ytbeoillppkcpmaa.PMarksPlay
attribute [local go_sem] max2_int min2_int max_two min_two max_three min_three max_four min_four
set_option linter.unusedVariables false
set_option linter.unusedSimpArgs false
/-! ### cmp.Or -/
def firstNZ : List Int → Int
  | [] => 0
  | x :: l => if x = 0 then firstNZ l else x
theorem firstNZ_drop (l : List Int) (j : Nat) (h : j < l.length) : firstNZ (l.drop j) = if l.getD j 0 = 0 then firstNZ (l.drop (j + 1)) else l.getD j 0 := by
  rw [List.drop_eq_getElem_cons h]
  have : l.getD j 0 = l[j] := by simp [List.getD_eq_getElem?_getD, List.getElem?_eq_getElem h]
  rw [this]
  rfl
theorem or_calls (l : List Int) (A : Option Addr) (c : Nat) (W : World) (hr : Kd.C (Kd.int .i64) W A l.length l) (hl : l.length ≤ 1000000) :
    Calls Try.prog 35 #[.slice A l.length c] W fun e w' => e = .returned (.int .i64 (firstNZ l)) ∧ Below W.heap.size W w' := by
  have HR := Aside0.mk hr
  clear hr
  go_enter Try.func35, Try.ntmps35
  go_wp2_with fail
  go_loopg [5, 8] (l.length + 1) (fun kq v5 v8 wr => ∃ j : Nat, v8 = .int .i64 (j : Int) ∧ j ≤ l.length ∧ kq + j = l.length + 1 ∧ Aside0 (firstNZ l = firstNZ (l.drop j)) ∧ Aside0 (Below W.heap.size W wr))
  case atStart => exact ⟨0, rfl, by omega, by omega, ⟨rfl⟩, ⟨Below.refl _ _⟩⟩
  case round =>
    obtain ⟨j, rfl, hj, hk, HE, HB⟩ := hrel
    have HK := Aside0.mk hk
    clear hk
    by_cases hlt : j < l.length
    · obtain ⟨ad, rfl, hcell⟩ := Kd.at_int (Kd.C_below HR.out HB.out) (j : Int) (by omega) (by omega)
      have hcell' : wr.cell? (ad.add j) = some (.int .i64 (rd l j)) := hcell
      have HD := Aside0.mk (firstNZ_drop l j hlt)
      clear hcell
      cases gk with
      | zero => exact absurd HK.out (by omega)
      | succ k1 =>
        by_cases hx : rd l j = 0
        · have HX : Aside0 (l.getD j 0 = 0) := ⟨hx⟩
          have hx1 : (rd l j != 0) = false := bne_eq_false_iff_eq.mpr hx
          have hx2 : (rd l j == 0) = true := beq_iff_eq.mpr hx
          clear hx
          go_wp2_with fail
          go_roundg k1
          case measure => omega
          case rel => exact ⟨j + 1, by go_num, by omega, by have := HK.out; omega, ⟨by rw [HE.out, HD.out, if_pos HX.out]⟩, HB⟩
        · have HX : Aside0 (¬ l.getD j 0 = 0) := ⟨hx⟩
          have hx1 : (rd l j != 0) = true := bne_iff_ne.mpr hx
          have hx2 : (rd l j == 0) = false := beq_eq_false_iff_ne.mpr hx
          clear hx
          go_wp2_with fail
          go_ret
          exact ⟨by rw [HE.out, HD.out, if_neg HX.out]; rfl, HB.out⟩
    · obtain rfl : j = l.length := by omega
      have HE2 : Aside0 (firstNZ l = 0) := ⟨by rw [HE.out, List.drop_of_length_le (Nat.le_refl _)]; rfl⟩
      go_wp2_with fail
      go_ret
      exact ⟨by rw [HE2.out]; rfl, HB.out⟩
end Go.Proofs.Ytbeoillppkcpmaa.Mark
