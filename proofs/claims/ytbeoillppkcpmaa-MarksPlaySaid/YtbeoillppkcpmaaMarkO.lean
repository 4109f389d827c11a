/- The document's Parent answers the same number. For ranges that may be. -/
import Derived.Laws.Cover3
import Derived.Test.YtbeoillppkcpmaaMarkN
namespace Go.Proofs.Ytbeoillppkcpmaa.Mark
open Go.RowKit Go.Proofs.YtbeoillppkcpmaaW.PrintWords Go.Proofs.YtbeoillppkcpmaaW.PrintLast Go.Proofs.YtbeoillppkcpmaaW.PrintMore Go.Proofs.Ytbeoillppkcpmaa.PMarksPlay
set_option linter.unusedVariables false
set_option linter.unusedSimpArgs false
/-! ### The document's Parent is the marks' -/
abbrev toR (x : S64) : S42 := ⟨x.f0.f0.f0, x.f0.f0.f1, x.f0.f1, x.f0.f2, x.f1⟩
theorem rd_map (ms : List S64) (j : Nat) (h : j < ms.length) : rd_T42 (ms.map toR) (j : Int) = toR (ms.getD j z64) := by
  simp [rd_T42, List.getD_eq_getElem?_getD, List.getElem?_eq_getElem h]
theorem near_eq (y b : S64) : near y b = decide (y.f0.f0.f1 - y.f0.f0.f0 < b.f0.f0.f1 - b.f0.f0.f0 ∨ (y.f0.f0.f1 - y.f0.f0.f0 = b.f0.f0.f1 - b.f0.f0.f0 ∧ (b.f0.f0.f0 < y.f0.f0.f0 ∨ (y.f0.f0.f0 = b.f0.f0.f0 ∧ b.f1 < y.f1)))) := by
  unfold near
  congr 1
  refine propext ?_
  simp only [firstNZ, cmpI]
  constructor
  · intro h
    repeat' split at h
    all_goals first | omega | (simp at h; done) | (exfalso; simp_all; done)
  · intro h
    repeat' split
    all_goals first | omega | (simp_all; done) | (exfalso; simp_all; omega)
theorem wrap_small (a b : Int) (h1 : 0 ≤ a) (h2 : a ≤ b) (h3 : b ≤ 2147483648) : wrap64 (b - a) = b - a := by unfold wrap64; omega
theorem in_ref (x y : S64) : stylusref04_in.f x.f0.f0.f0 x.f0.f0.f1 x.f0.f1 x.f0.f2 x.f1 y.f0.f0.f0 y.f0.f0.f1 y.f0.f1 y.f0.f2 y.f1 = some (inB x y) := by
  unfold stylusref04_in.f inB
  by_cases h1 : x.f0.f0.f0 = y.f0.f0.f0
  · by_cases h2 : x.f0.f0.f1 = y.f0.f0.f1
    · simp [h1, h2]
    · simp [h1, h2]
  · by_cases h3 : y.f0.f0.f0 ≤ x.f0.f0.f0
    · simp [h1, h3]
    · simp [h1, h3]
theorem j1_skip (k : Nat) (l : List S42) (best j a b : Int) (c d : Bool) (i a' b' : Int) (c' d' : Bool) (i' : Int) :
    stylusref04_Parent.j1 (k + 1) l best j true a b c d i a' b' c' d' i' = stylusref04_Parent.l0 k l best (wrap64 (j + 1)) a b c d i := by
  rw [stylusref04_Parent.j1, if_pos rfl]
theorem j1_first (k : Nat) (l : List S42) (j a b : Int) (c d : Bool) (i a' b' : Int) (c' d' : Bool) (i' : Int) :
    stylusref04_Parent.j1 (k + 1) l (-1) j false a b c d i a' b' c' d' i' = stylusref04_Parent.l0 k l j (wrap64 (j + 1)) a b c d i := by
  rw [stylusref04_Parent.j1, if_neg (by decide), if_pos (by decide)]
theorem mayX_of {x : S64} (h : mayX x = true) : 0 ≤ x.f0.f0.f0 ∧ x.f0.f0.f0 ≤ x.f0.f0.f1 ∧ x.f0.f0.f1 ≤ 2147483648 := of_decide_eq_true h
theorem j1_cmp (k : Nat) (ms : List S64) (q : Nat) (hq : q < ms.length) (j a b : Int) (c d : Bool) (i : Int) (y : S64) (hy : mayX y = true) (hb : mayX (ms.getD q z64) = true) :
    stylusref04_Parent.j1 (k + 1) (ms.map toR) (q : Int) j false a b c d i y.f0.f0.f0 y.f0.f0.f1 y.f0.f1 y.f0.f2 y.f1 = stylusref04_Parent.l0 k (ms.map toR) (if near y (ms.getD q z64) = true then j else (q : Int)) (wrap64 (j + 1)) a b c d i := by
  obtain ⟨m1, m2, m3⟩ := mayX_of hy
  obtain ⟨n1, n2, n3⟩ := mayX_of hb
  rw [stylusref04_Parent.j1, if_neg (by decide), if_neg (by omega), if_pos (by omega), if_pos (by rw [List.length_map]; omega), rd_map ms q hq]
  obtain ⟨z, hz⟩ : ∃ z, ms.getD q z64 = z := ⟨_, rfl⟩
  rw [hz] at n1 n2 n3 ⊢
  have e1 : wrap64 ((toR z).f1 - (toR z).f0) = z.f0.f0.f1 - z.f0.f0.f0 := wrap_small _ _ n1 n2 n3
  rw [wrap_small _ _ m1 m2 m3, e1, near_eq]
  by_cases h1 : y.f0.f0.f1 - y.f0.f0.f0 < z.f0.f0.f1 - z.f0.f0.f0
  · rw [if_pos h1, if_pos (by rw [decide_eq_true_eq]; omega)]
  rw [if_neg h1]
  by_cases h2 : y.f0.f0.f1 - y.f0.f0.f0 = z.f0.f0.f1 - z.f0.f0.f0
  · rw [if_pos h2]
    by_cases h3 : z.f0.f0.f0 < y.f0.f0.f0
    · rw [if_pos h3, if_pos (by rw [decide_eq_true_eq]; omega)]
    rw [if_neg h3]
    by_cases h4 : y.f0.f0.f0 = z.f0.f0.f0
    · rw [if_pos h4]
      by_cases h5 : z.f1 < y.f1
      · rw [if_pos h5, if_pos (by rw [decide_eq_true_eq]; omega)]
      · rw [if_neg h5, if_neg (by rw [decide_eq_true_eq]; omega)]
    · rw [if_neg h4, if_neg (by rw [decide_eq_true_eq]; omega)]
  · rw [if_neg h2, if_neg (by rw [decide_eq_true_eq]; omega)]
def ParSt (x : S64) (n : Int) (ms : List S64) (best : Int) (j : Nat) : Prop :=
  (parL x n (ms.take j) = [] ∧ best = -1) ∨ ∃ z zs q, parL x n (ms.take j) = z :: zs ∧ q < ms.length ∧ best = (q : Int) ∧ ms.getD q z64 = minF z zs
theorem par_loop (x : S64) (n : Int) (hxn : x.f1 = n) (ms : List S64) (hmay : ms.all mayX = true) (hlen : ms.length ≤ 100000) :
    ∀ (m j : Nat) (best : Int), m + j = ms.length → ParSt x n ms best j → ∃ k, stylusref04_Parent.l0 k (ms.map toR) best (j : Int) x.f0.f0.f0 x.f0.f0.f1 x.f0.f1 x.f0.f2 n = some (parR x n ms) := by
  intro m
  induction m with
  | zero =>
    intro j best hj hst
    obtain rfl : j = ms.length := by omega
    refine ⟨1, ?_⟩
    rw [stylusref04_Parent.l0, if_neg (by rw [List.length_map]; omega)]
    rcases hst with ⟨h1, rfl⟩ | ⟨z, zs, q, h1, hq, rfl, h2⟩
    · rw [List.take_length] at h1
      rw [if_pos (by decide)]
      unfold parR
      rw [h1]
    · rw [List.take_length] at h1
      rw [if_neg (by omega), if_pos (by omega), if_pos (by rw [List.length_map]; omega), rd_map ms q hq, h2]
      unfold parR
      rw [h1]
  | succ m ih =>
    intro j best hj hst
    have hlt : j < ms.length := by omega
    obtain ⟨y, hy⟩ : ∃ y, ms.getD j z64 = y := ⟨_, rfl⟩
    have hsn := parL_snoc x n ms j hlt y hy
    have hget : ∀ q, q < ms.length → mayX (ms.getD q z64) = true := fun q hq => by
      rw [show ms.getD q z64 = ms[q] by rw [List.getD_eq_getElem?_getD, List.getElem?_eq_getElem hq]; rfl]
      exact List.all_eq_true.1 hmay _ (List.getElem_mem hq)
    have hym : mayX y = true := by rw [← hy]; exact hget j hlt
    have hw : wrap64 ((j : Int) + 1) = ((j + 1 : Nat) : Int) := by unfold wrap64; omega
    have hstep : ∀ k, stylusref04_Parent.l0 (k + 1) (ms.map toR) best (j : Int) x.f0.f0.f0 x.f0.f0.f1 x.f0.f1 x.f0.f2 n = stylusref04_Parent.j1 k (ms.map toR) best (j : Int) (!keepP x n y) x.f0.f0.f0 x.f0.f0.f1 x.f0.f1 x.f0.f2 n y.f0.f0.f0 y.f0.f0.f1 y.f0.f1 y.f0.f2 y.f1 := by
      intro k
      rw [stylusref04_Parent.l0, if_pos (by rw [List.length_map]; omega), if_pos (by omega), rd_map ms j hlt, hy]
      simp only [toR]
      by_cases hn : y.f1 = n
      · rw [if_pos hn]
        simp [keepP, hn]
      · rw [if_neg hn, ← hxn, in_ref x y, Option.bind_some, hxn]
        have hnb : (y.f1 == n) = false := beq_eq_false_iff_ne.mpr hn
        simp [keepP, hnb]
    by_cases hk : keepP x n y = true
    · rw [if_pos hk] at hsn
      rcases hst with ⟨h1, rfl⟩ | ⟨z, zs, q, h1, hq, rfl, h2⟩
      · obtain ⟨k, hk2⟩ := ih (j + 1) (j : Int) (by omega) (.inr ⟨y, [], j, by rw [hsn, h1]; rfl, hlt, rfl, hy⟩)
        refine ⟨k + 2, ?_⟩
        rw [hstep, hk, Bool.not_true, j1_first, hw]
        exact hk2
      · obtain ⟨k, hk2⟩ := ih (j + 1) (if near y (ms.getD q z64) = true then (j : Int) else (q : Int)) (by omega) (.inr (by
          refine ⟨z, zs ++ [y], if near y (ms.getD q z64) = true then j else q, by rw [hsn, h1]; rfl, by split <;> assumption, by split <;> rfl, ?_⟩
          rw [minF_snoc, ← h2]
          by_cases hnr : near y (ms.getD q z64) = true
          · simp only [if_pos hnr]
            exact hy
          · simp only [if_neg hnr]))
        refine ⟨k + 2, ?_⟩
        rw [hstep, hk, Bool.not_true, j1_cmp k ms q hq _ _ _ _ _ _ y hym (hget q hq), hw]
        exact hk2
    · rw [if_neg hk, List.append_nil] at hsn
      obtain ⟨k, hk2⟩ := ih (j + 1) best (by omega) (by
        rcases hst with ⟨h1, h2⟩ | ⟨z, zs, q, h1, hq, h3, h2⟩
        · exact .inl ⟨by rw [hsn, h1], h2⟩
        · exact .inr ⟨z, zs, q, by rw [hsn, h1], hq, h3, h2⟩)
      refine ⟨k + 2, ?_⟩
      rw [hstep, (by simpa using hk : keepP x n y = false), Bool.not_false, j1_skip, hw]
      exact hk2
theorem par_ref (x : S64) (ms : List S64) (hmay : ms.all mayX = true) (hlen : ms.length ≤ 100000) : ∃ k, stylusref04_Parent.f k (ms.map toR) x.f0.f0.f0 x.f0.f0.f1 x.f0.f1 x.f0.f2 x.f1 = some (parR x x.f1 ms) :=
  par_loop x x.f1 rfl ms hmay hlen ms.length 0 (-1) (by omega) (.inl ⟨rfl, rfl⟩)
/-- The document's Parent, called. -/
theorem parent_ref (x : S64) (ms : List S64) (A : Option Addr) (c : Nat) (W : World) (hr : Kd.C k42 W A ms.length (ms.map toR)) (hc : ms.length ≤ c) (hmay : ms.all mayX = true) (hlen : ms.length ≤ 100000) :
    Calls Try.prog 19 #[.slice A ms.length c, .agg #[.int .i64 x.f0.f0.f0, .int .i64 x.f0.f0.f1, .bool x.f0.f1, .bool x.f0.f2, .int .i64 x.f1]] W fun e w' => e = .returned (.int .i64 (parR x x.f1 ms)) ∧ Below W.heap.size W w' := by
  obtain ⟨k, hk⟩ := par_ref x ms hmay hlen
  have h := stylusref04_Parent.calls k A c (ms.map toR) _ _ _ _ _ _ W (by rw [List.length_map]; exact hr) (by rw [List.length_map]; exact hc) hk
  rw [List.length_map] at h
  exact h
end Go.Proofs.Ytbeoillppkcpmaa.Mark
