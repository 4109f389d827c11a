/- fits, stylusref01.All and stylusref01.Same tell whether runes are right, and alike. -/
import Derived.Laws.Cover3
import Derived.Test.YtepcdjkpmchobaaRopeM
import Derived.Test.YtepcdjkpmchobaaLeafC
namespace Go.Proofs.Ytepcdjkpmchobaa.Rope
open Go.RowKit Go.Proofs.YtepcdjkpmchobaaW.PrintWords Go.Proofs.YtepcdjkpmchobaaW.PrintLast Go.Proofs.YtepcdjkpmchobaaW.PrintMore
attribute [local go_sem] max2_int min2_int max_two min_two max_three min_three max_four min_four
set_option linter.unusedVariables false
set_option linter.unusedSimpArgs false

/-! ### Right runes -/
def okc (c : Int) : Bool := decide (0 ≤ c ∧ c ≤ 1114111 ∧ (c < 55296 ∨ 57343 < c))
def okt (t : List Int) : Bool := t.all okc
theorem right_some (c : Int) : Leaf.utf_Right.f c = some (okc c) := by
  unfold Leaf.utf_Right.f okc
  split
  · split
    · split
      · rw [decide_eq_true]; omega
      · congr 1
        by_cases h : c > 57343
        · rw [decide_eq_true h, decide_eq_true]; omega
        · rw [decide_eq_false h, decide_eq_false]; omega
    · rw [decide_eq_false]; omega
  · rw [decide_eq_false]; omega
theorem right1_some (c : Int) : Leaf.stylusref01_Right.f c = some (okc c) := by
  unfold Leaf.stylusref01_Right.f okc
  split
  · split
    · rw [decide_eq_true]; omega
    · split
      · congr 1
        by_cases h : c ≤ 1114111
        · rw [decide_eq_true h, decide_eq_true]; omega
        · rw [decide_eq_false h, decide_eq_false]; omega
      · rw [decide_eq_false]; omega
  · split
    · exact absurd ‹_› (by omega)
    · rw [decide_eq_false]; omega
theorem wrap_next {i n : Nat} (h : i < n) (hn : n ≤ 9223372036854775807) : wrap64 ((i : Int) + 1) = ((i + 1 : Nat) : Int) := by
  unfold wrap64
  omega
theorem drop_all (f : Int → Bool) (t : List Int) (i : Nat) (h : i < t.length) : (t.drop i).all f = (f (t.getD i 0) && (t.drop (i + 1)).all f) := by
  rw [List.drop_eq_getElem_cons h, List.all_cons]
  simp [List.getD_eq_getElem?_getD, List.getElem?_eq_getElem h]
theorem fits_l0 (t : List Int) (hn : t.length ≤ 9223372036854775807) (d : Nat) : ∀ (i k : Nat), i + d = t.length → d < k → Leaf.rope_fits.l0 k t t.length i = some (okt (t.drop i)) := by
  induction d with
  | zero =>
    intro i k hi hk
    obtain ⟨k, rfl⟩ : ∃ m, k = m + 1 := ⟨k - 1, by omega⟩
    simp only [Leaf.rope_fits.l0]
    rw [if_neg (by omega), List.drop_of_length_le (by omega)]
    rfl
  | succ d ih =>
    intro i k hi hk
    obtain ⟨k, rfl⟩ : ∃ m, k = m + 1 := ⟨k - 1, by omega⟩
    simp only [Leaf.rope_fits.l0]
    rw [if_pos (by omega), if_pos (by omega), if_pos (by omega), right_some, Option.bind_some, wrap_next (show i < t.length by omega) hn, ih (i + 1) k (by omega) (by omega)]
    unfold okt
    rw [drop_all okc t i (by omega)]
    have : rd t (i : Int) = t.getD i 0 := by simp [rd]
    rw [this]
    cases okc (t.getD i 0) <;> simp
theorem all_l0 (t : List Int) (hn : t.length ≤ 9223372036854775807) (d : Nat) : ∀ (i k : Nat), i + d = t.length → d < k → Leaf.stylusref01_All.l0 k t i = some (okt (t.drop i)) := by
  induction d with
  | zero =>
    intro i k hi hk
    obtain ⟨k, rfl⟩ : ∃ m, k = m + 1 := ⟨k - 1, by omega⟩
    simp only [Leaf.stylusref01_All.l0]
    rw [if_neg (by omega), List.drop_of_length_le (by omega)]
    rfl
  | succ d ih =>
    intro i k hi hk
    obtain ⟨k, rfl⟩ : ∃ m, k = m + 1 := ⟨k - 1, by omega⟩
    simp only [Leaf.stylusref01_All.l0]
    rw [if_pos (by omega), if_pos (by omega), right1_some, Option.bind_some, wrap_next (show i < t.length by omega) hn, ih (i + 1) k (by omega) (by omega)]
    unfold okt
    rw [drop_all okc t i (by omega)]
    have : rd t (i : Int) = t.getD i 0 := by simp [rd]
    rw [this]
    cases okc (t.getD i 0) <;> simp
theorem fits_calls (t : List Int) (A : Option Addr) (c : Nat) (w : World) (h : RI w A t) (hc : t.length ≤ c) : Calls Try.prog 26 #[.slice A t.length c] w fun e w' => e = .returned (.bool (okt t)) ∧ Below w.heap.size w w' := by
  refine (Leaf.rope_fits.calls (t.length + 1) A c t (okt t) w h hc ?_).mono ?_
  · have := fits_l0 t (Kd.C_max h) t.length 0 (t.length + 1) (by omega) (by omega)
    simpa [Leaf.rope_fits.f] using this
  · rintro e w' ⟨rfl, hd⟩
    exact ⟨rfl, hd.below⟩
theorem all_calls (t : List Int) (A : Option Addr) (c : Nat) (w : World) (h : RI w A t) (hc : t.length ≤ c) : Calls Try.prog 5 #[.slice A t.length c] w fun e w' => e = .returned (.bool (okt t)) ∧ Below w.heap.size w w' := by
  refine (Leaf.stylusref01_All.calls (t.length + 1) A c t (okt t) w h hc ?_).mono ?_
  · have := all_l0 t (Kd.C_max h) t.length 0 (t.length + 1) (by omega) (by omega)
    simpa [Leaf.stylusref01_All.f] using this
  · rintro e w' ⟨rfl, hd⟩
    exact ⟨rfl, hd.below⟩
theorem same_l0 (s t : List Int) (hn : s.length ≤ 9223372036854775807) (hst : s.length = t.length) (d : Nat) : ∀ (i k : Nat), i + d = s.length → d < k → Leaf.stylusref01_Same.l0 k s t i = some (decide (s.drop i = t.drop i)) := by
  induction d with
  | zero =>
    intro i k hi hk
    obtain ⟨k, rfl⟩ : ∃ m, k = m + 1 := ⟨k - 1, by omega⟩
    simp only [Leaf.stylusref01_Same.l0]
    rw [if_neg (by omega), List.drop_of_length_le (by omega), List.drop_of_length_le (by omega)]
    simp
  | succ d ih =>
    intro i k hi hk
    obtain ⟨k, rfl⟩ : ∃ m, k = m + 1 := ⟨k - 1, by omega⟩
    simp only [Leaf.stylusref01_Same.l0]
    rw [if_pos (by omega), if_pos (by omega), if_pos (by omega), wrap_next (show i < s.length by omega) hn, ih (i + 1) k (by omega) (by omega)]
    have e1 : rd s (i : Int) = s[i]'(by omega) := by simp [rd, List.getD_eq_getElem?_getD, List.getElem?_eq_getElem (show i < s.length by omega)]
    have e2 : rd t (i : Int) = t[i]'(by omega) := by simp [rd, List.getD_eq_getElem?_getD, List.getElem?_eq_getElem (show i < t.length by omega)]
    have e3 : s.drop i = s[i]'(by omega) :: s.drop (i + 1) := List.drop_eq_getElem_cons (show i < s.length by omega)
    have e4 : t.drop i = t[i]'(by omega) :: t.drop (i + 1) := List.drop_eq_getElem_cons (show i < t.length by omega)
    rw [e1, e2, e3, e4]
    by_cases h : s[i]'(by omega) = t[i]'(by omega)
    · rw [if_pos h, h]
      congr 1
      rw [decide_eq_decide]
      exact ⟨fun he => by rw [he], fun he => by injection he⟩
    · rw [if_neg h]
      rw [decide_eq_false]
      intro he
      injection he with he
      exact h he
theorem same_calls (s t : List Int) (A B : Option Addr) (c c' : Nat) (w : World) (h : RI w A s) (hc : s.length ≤ c) (h' : RI w B t) (hc' : t.length ≤ c') :
    Calls Try.prog 12 #[.slice A s.length c, .slice B t.length c'] w fun e w' => e = .returned (.bool (decide (s = t))) ∧ Below w.heap.size w w' := by
  refine (Leaf.stylusref01_Same.calls (s.length + 1) A c s B c' t (decide (s = t)) w h hc h' hc' ?_).mono ?_
  · unfold Leaf.stylusref01_Same.f
    by_cases hl : s.length = t.length
    · rw [if_pos (by omega)]
      have := same_l0 s t (Kd.C_max h) hl s.length 0 (s.length + 1) (by omega) (by omega)
      simpa using this
    · rw [if_neg (by omega), decide_eq_false (fun he => hl (by rw [he]))]
  · rintro e w' ⟨rfl, hd⟩
    exact ⟨rfl, hd.below⟩
end Go.Proofs.Ytepcdjkpmchobaa.Rope
