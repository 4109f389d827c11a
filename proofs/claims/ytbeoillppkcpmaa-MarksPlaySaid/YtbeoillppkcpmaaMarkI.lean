/- A store of a range into an item, and the calls of fair and moved. -/
import Derived.Laws.Cover3
import Derived.Test.YtbeoillppkcpmaaMarkH
namespace Go.Proofs.Ytbeoillppkcpmaa.Mark
open Go.RowKit Go.Proofs.YtbeoillppkcpmaaW.PrintWords Go.Proofs.YtbeoillppkcpmaaW.PrintLast Go.Proofs.YtbeoillppkcpmaaW.PrintMore Go.Proofs.Ytbeoillppkcpmaa.PMarksPlay
attribute [local go_sem] max2_int min2_int max_two min_two max_three min_three max_four min_four
set_option linter.unusedVariables false
set_option linter.unusedSimpArgs false

/-! ### Edit -/
def mv1 (at_ del n : Int) (x : S64) : S64 := ⟨⟨⟨mvFrom x.f0.f0.f0 x.f0.f0.f1 x.f0.f1 x.f0.f2 at_ del n, mvTo x.f0.f0.f0 x.f0.f0.f1 x.f0.f1 x.f0.f2 at_ del n⟩, x.f0.f1, x.f0.f2⟩, x.f1⟩
def mayX (x : S64) : Bool := mayB x.f0.f0.f0 x.f0.f0.f1
theorem flat_get (ms : List S64) (j k : Nat) (hj : j < ms.length) (hk : k < 5) : (flat ms)[j * 5 + k]? = (enc5 ms[j])[k]? := by
  have h : flat ms = flat (ms.take j) ++ (enc5 ms[j] ++ flat (ms.drop (j + 1))) := by
    have : enc5 ms[j] ++ flat (ms.drop (j + 1)) = flat (ms.drop j) := by rw [List.drop_eq_getElem_cons hj]; rfl
    rw [this, ← flat_append, List.take_append_drop]
  have hl : (flat (ms.take j)).length = j * 5 := by rw [flat_len, List.length_take]; omega
  rw [h, List.getElem?_append_right (by omega), hl, show j * 5 + k - j * 5 = k from by omega, List.getElem?_append_left (by simp [enc5]; exact hk)]
theorem flat_set (ms : List S64) (j : Nat) (x : S64) (hj : j < ms.length) (cur : Array Value) (hs : ms.length * 5 ≤ cur.size) (ht : cur.toList.take (ms.length * 5) = flat ms) (hid : x.f1 = (ms[j]).f1) :
    (putAt cur (j * 5) [.int .i64 x.f0.f0.f0, .int .i64 x.f0.f0.f1, .bool x.f0.f1, .bool x.f0.f2]).toList.take (ms.length * 5) = flat (ms.set j x) := by
  apply List.ext_getElem?
  intro k
  rw [List.getElem?_take]
  have hfl : (flat (ms.set j x)).length = ms.length * 5 := by rw [flat_len, List.length_set]
  by_cases hk : k < ms.length * 5
  · rw [if_pos hk, Array.getElem?_toList, putAt_get _ _ _ _ (by simp only [List.length_cons, List.length_nil]; omega)]
    obtain ⟨i, r, hr, rfl⟩ : ∃ i r, r < 5 ∧ k = i * 5 + r := ⟨k / 5, k % 5, Nat.mod_lt _ (by decide), by omega⟩
    have hi : i < ms.length := by omega
    have hi' : i < (ms.set j x).length := by rw [List.length_set]; exact hi
    have e0 : cur[i * 5 + r]? = (enc5 ms[i])[r]? := by
      rw [← flat_get ms i r hi hr, ← ht, List.getElem?_take, if_pos hk, Array.getElem?_toList]
    rw [flat_get _ i r hi' hr, e0]
    by_cases hij : i = j
    · subst hij
      rw [List.getElem_set_self]
      match r, hr with
      | 0, _ => rw [if_pos (by simp only [List.length_cons, List.length_nil]; omega), show i * 5 + 0 - i * 5 = 0 from by omega]; rfl
      | 1, _ => rw [if_pos (by simp only [List.length_cons, List.length_nil]; omega), show i * 5 + 1 - i * 5 = 1 from by omega]; rfl
      | 2, _ => rw [if_pos (by simp only [List.length_cons, List.length_nil]; omega), show i * 5 + 2 - i * 5 = 2 from by omega]; rfl
      | 3, _ => rw [if_pos (by simp only [List.length_cons, List.length_nil]; omega), show i * 5 + 3 - i * 5 = 3 from by omega]; rfl
      | 4, _ => rw [if_neg (by simp only [List.length_cons, List.length_nil]; omega)]; simp [enc5, hid]
    · rw [List.getElem_set_ne (Ne.symm hij), if_neg (by simp only [List.length_cons, List.length_nil]; omega)]
  · rw [if_neg hk, List.getElem?_eq_none (by omega)]
/-- A store of a range into an item. -/
theorem ow_set {W : World} {base gb n cap : Nat} {ms : List S64} (h : Ow W base (.slice (some ⟨gb, 0, none⟩) n cap) ms) (j : Nat) (hj : j < ms.length) (a b : Int) (c d : Bool) :
    Ow (W.setCells gb (j * 5) [.int .i64 a, .int .i64 b, .bool c, .bool d]) base (.slice (some ⟨gb, 0, none⟩) n cap) (ms.set j ⟨⟨⟨a, b⟩, c, d⟩, (ms[j]).f1⟩) := by
  obtain ⟨hfl, hcase⟩ := ow_flat h
  rcases hcase with ⟨e, _⟩ | ⟨g, cap', cur, e, hg, hcur, hn, hm, hs, ht⟩
  · injection e with e; cases e
  · injection e with e1 e2 e3
    injection e1 with e1
    injection e1 with e1
    subst e1
    subst e2
    subst e3
    refine flat_ow ⟨flat_len _, .inr ⟨gb, cap, _, by rw [List.length_set], hg, blk_setCells gb 64 _ cur _ _ hcur, by rw [List.length_set]; exact hn, hm, by rw [putAt_size]; exact hs, ?_⟩⟩
    rw [List.length_set]
    exact flat_set ms j ⟨⟨⟨a, b⟩, c, d⟩, (ms[j]).f1⟩ hj cur (by omega) ht rfl
theorem fair_calls (a d : Int) (A : Option Addr) (c : Nat) (l : List Int) (w : World) (hr : Kd.C (Kd.int .i32) w A l.length l) (hc : l.length ≤ c) : Calls Try.prog 25 #[.agg #[.int .i64 a, .int .i64 d, .slice A l.length c]] w fun e w' => e = .returned (.bool (fairB a d)) ∧ Below w.heap.size w w' :=
  marks_fair.calls a d A c l _ w hr hc (fair_f a d l)
theorem moved_calls (a b : Int) (c d : Bool) (at_ del : Int) (A : Option Addr) (cc : Nat) (l : List Int) (w : World) (hr : Kd.C (Kd.int .i32) w A l.length l) (hc : l.length ≤ cc) (h1 : Sm a at_ del l.length) (h2 : Sm b at_ del l.length) :
    Calls Try.prog 27 #[.agg #[.int .i64 a, .int .i64 b, .bool c, .bool d], .agg #[.int .i64 at_, .int .i64 del, .slice A l.length cc]] w fun e w' => e = .returned (.agg #[.int .i64 (mvFrom a b c d at_ del l.length), .int .i64 (mvTo a b c d at_ del l.length), .bool c, .bool d]) ∧ Below w.heap.size w w' :=
  marks_moved.calls a b c d at_ del A cc l _ _ _ _ w hr hc (moved_f a b c d at_ del l h1 h2)
end Go.Proofs.Ytbeoillppkcpmaa.Mark
