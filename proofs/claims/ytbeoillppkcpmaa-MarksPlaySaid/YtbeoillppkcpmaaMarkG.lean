/- The marks' fair, place and moved, and the document's Fair, Place and Move, as one plain function each. For ranges and edits that may be. -/
import Derived.Laws.Cover3
import Derived.Test.YtbeoillppkcpmaaMarkF
namespace Go.Proofs.Ytbeoillppkcpmaa.Mark
open Go.RowKit Go.Proofs.YtbeoillppkcpmaaW.PrintWords Go.Proofs.YtbeoillppkcpmaaW.PrintLast Go.Proofs.YtbeoillppkcpmaaW.PrintMore Go.Proofs.Ytbeoillppkcpmaa.PMarksPlay
attribute [local go_sem] max2_int min2_int max_two min_two max_three min_three max_four min_four
set_option linter.unusedVariables false
set_option linter.unusedSimpArgs false
/-! ### What an edit may be, and where it moves a range -/
def fairB (a d : Int) : Bool := decide (0 ≤ a ∧ 0 ≤ d ∧ a ≤ 2147483648 ∧ a + d ≤ 2147483648)
theorem fair_f (a d : Int) (l : List Int) : marks_fair.f a d l = some (fairB a d) := by
  unfold marks_fair.f fairB
  by_cases h1 : 0 ≤ a
  · rw [if_pos h1]
    by_cases h2 : 0 ≤ d
    · rw [if_pos h2]
      by_cases h3 : a ≤ 2147483648
      · rw [if_pos h3]
        have e : wrap64 (2147483648 - a) = 2147483648 - a := by unfold wrap64; omega
        rw [e]
        by_cases h4 : a + d ≤ 2147483648
        · rw [decide_eq_true (by omega), decide_eq_true ⟨h1, h2, h3, h4⟩]
        · rw [decide_eq_false (by omega), decide_eq_false (fun h => h4 h.2.2.2)]
      · rw [if_neg h3, decide_eq_false (fun h => h3 h.2.2.1)]
    · rw [if_neg h2, decide_eq_false (fun h => h2 h.2.1)]
  · rw [if_neg h1, decide_eq_false (fun h => h1 h.1)]
theorem fairR_f (a d : Int) (l : List Int) : stylusref04_Fair.f a d l = some (fairB a d) := by
  unfold stylusref04_Fair.f fairB
  by_cases h1 : 0 ≤ a
  · rw [if_pos h1]
    by_cases h2 : 0 ≤ d
    · rw [if_pos h2]
      by_cases h3 : a ≤ 2147483648
      · rw [if_pos h3]
        by_cases h5 : d ≤ 2147483648
        · rw [if_pos h5]
          have e : wrap64 (a + d) = a + d := by unfold wrap64; omega
          rw [e]
          by_cases h4 : a + d ≤ 2147483648
          · rw [decide_eq_true h4, decide_eq_true ⟨h1, h2, h3, h4⟩]
          · rw [decide_eq_false h4, decide_eq_false (fun h => h4 h.2.2.2)]
        · rw [if_neg h5, decide_eq_false (by omega)]
      · rw [if_neg h3, decide_eq_false (fun h => h3 h.2.2.1)]
    · rw [if_neg h2, decide_eq_false (fun h => h2 h.2.1)]
  · rw [if_neg h1, decide_eq_false (fun h => h1 h.1)]
def placeF (p a d n : Int) (high : Bool) : Int := if p < a then p else if a + d < p then p + n - d else if high = true then a + n else a
/-- Small: what is reckoned with an edit that may be, and with a place of a range that may be. -/
def Sm (p a d : Int) (n : Nat) : Prop := 0 ≤ p ∧ p ≤ 2147483648 ∧ 0 ≤ a ∧ 0 ≤ d ∧ a + d ≤ 2147483648 ∧ n ≤ 100000
theorem place_f (p a d : Int) (l : List Int) (high : Bool) (h : Sm p a d l.length) : marks_place.f p a d l high = some (placeF p a d l.length high) := by
  obtain ⟨h1, h2, h3, h4, h5, h6⟩ := h
  unfold marks_place.f placeF
  have e1 : wrap64 (a + d) = a + d := by unfold wrap64; omega
  have e2 : wrap64 (p + (l.length : Int)) = p + l.length := by unfold wrap64; omega
  have e3 : wrap64 (a + (l.length : Int)) = a + l.length := by unfold wrap64; omega
  have e4 : wrap64 (p + (l.length : Int) - d) = p + l.length - d := by unfold wrap64; omega
  rw [e1, e2, e3, e4]
  split
  · rfl
  · split
    · rfl
    · split <;> rfl
theorem placeR_f (p a d : Int) (l : List Int) (high : Bool) (h : Sm p a d l.length) : stylusref04_Place.f p a d l high = some (placeF p a d l.length high) := by
  obtain ⟨h1, h2, h3, h4, h5, h6⟩ := h
  unfold stylusref04_Place.f placeF
  have e1 : wrap64 (a + d) = a + d := by unfold wrap64; omega
  have e2 : wrap64 (p - d) = p - d := by unfold wrap64; omega
  have e3 : wrap64 (a + (l.length : Int)) = a + l.length := by unfold wrap64; omega
  have e4 : wrap64 (p - d + (l.length : Int)) = p + l.length - d := by unfold wrap64; omega
  rw [e1, e2, e3, e4]
  split
  · rfl
  · split
    · rfl
    · split <;> rfl
def mvFrom (a b : Int) (c d : Bool) (at_ del n : Int) : Int := placeF a at_ del n (!c)
def mvTo (a b : Int) (c d : Bool) (at_ del n : Int) : Int := if placeF b at_ del n d < mvFrom a b c d at_ del n then mvFrom a b c d at_ del n else placeF b at_ del n d
theorem moved_f (a b : Int) (c d : Bool) (at_ del : Int) (l : List Int) (h1 : Sm a at_ del l.length) (h2 : Sm b at_ del l.length) : marks_moved.f a b c d at_ del l = some (mvFrom a b c d at_ del l.length, mvTo a b c d at_ del l.length, c, d) := by
  unfold marks_moved.f
  rw [place_f a at_ del l (!c) h1, Option.bind_some, place_f b at_ del l d h2, Option.bind_some]
  congr 2
  unfold mvTo mvFrom mx
  split <;> split <;> first | rfl | (congr 1; omega)
theorem movedR_f (a b : Int) (c d : Bool) (i at_ del : Int) (l : List Int) (h1 : Sm a at_ del l.length) (h2 : Sm b at_ del l.length) : stylusref04_Move.f a b c d i at_ del l = some (mvFrom a b c d at_ del l.length, mvTo a b c d at_ del l.length, c, d, i) := by
  unfold stylusref04_Move.f
  rw [placeR_f a at_ del l (!c) h1, Option.bind_some, placeR_f b at_ del l d h2, Option.bind_some]
  unfold mvTo mvFrom
  split <;> rfl
end Go.Proofs.Ytbeoillppkcpmaa.Mark
