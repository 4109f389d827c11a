import Derived.Laws.Cover4
import Derived.Test.YtepcdjkpmchobaaRopeX
import Derived.Test.YtepcdjkpmchobaaLeafD
namespace Go.Proofs.Ytepcdjkpmchobaa.Rope
open Go.RowKit Go.Proofs.YtepcdjkpmchobaaW.PrintWords Go.Proofs.YtepcdjkpmchobaaW.PrintLast Go.Proofs.YtepcdjkpmchobaaW.PrintMore
set_option linter.unusedVariables false
set_option linter.unusedSimpArgs false
/-! ### Right -/
def rightF (t : List Int) : Int := if okt t = false then 1 else if 2000 < t.length then 3 else 0
theorem right_ref (t : List Int) (A : Option Addr) (c : Nat) (w : World) (h : RI w A t) (hc : t.length ≤ c) : Calls Try.prog 17 #[.slice A t.length c] w fun e w' => e = .returned (.int .i64 (rightF t)) ∧ Below w.heap.size w w' := by
  refine (Leaf.stylusref03_Right.calls (t.length + 1) A c t (rightF t) w h hc ?_).mono ?_
  · have h1 := all_l0 t (Kd.C_max h) t.length 0 (t.length + 1) (by omega) (by omega)
    have h2 : Leaf.stylusref01_All.f (t.length + 1) t = some (okt t) := by simpa [Leaf.stylusref01_All.f] using h1
    unfold Leaf.stylusref03_Right.f rightF
    rw [h2, Option.bind_some]
    cases hk : okt t
    · simp
    · by_cases h3 : 2000 < t.length
      · simp [h3]; omega
      · simp [h3]; omega
  · rintro e w' ⟨rfl, hd⟩
    exact ⟨rfl, hd.below⟩
/-! ### few -/
def fewF (ds : List Leaf.S43) : Bool := ds.all (fun x => decide (x.f3.length ≤ 2500)) && decide (ds.length ≤ 40)
theorem few_l0 (t : List Leaf.S43) (hn : t.length ≤ 9223372036854775807) (d : Nat) : ∀ (i k : Nat), i + d = t.length → d < k → Leaf.styluslaw03_few.l0 k t i = some ((t.drop i).all (fun x => decide (x.f3.length ≤ 2500)) && decide (t.length ≤ 40)) := by
  induction d with
  | zero =>
    intro i k hi hk
    obtain ⟨k, rfl⟩ : ∃ m, k = m + 1 := ⟨k - 1, by omega⟩
    simp only [Leaf.styluslaw03_few.l0]
    rw [if_neg (by omega), List.drop_of_length_le (by omega)]
    by_cases h : t.length ≤ 40
    · rw [decide_eq_true h, decide_eq_true (by omega)]; rfl
    · rw [decide_eq_false h, decide_eq_false (by omega)]; rfl
  | succ d ih =>
    intro i k hi hk
    obtain ⟨k, rfl⟩ : ∃ m, k = m + 1 := ⟨k - 1, by omega⟩
    simp only [Leaf.styluslaw03_few.l0]
    have hlt : i < t.length := by omega
    rw [if_pos (by omega), if_pos (by omega), wrap_next hlt hn, ih (i + 1) k (by omega) (by omega)]
    have e1 : Leaf.rd_T43 t (i : Int) = t[i] := by simp [Leaf.rd_T43, List.getD_eq_getElem?_getD, List.getElem?_eq_getElem hlt]
    rw [e1, List.drop_eq_getElem_cons hlt, List.all_cons]
    by_cases h : t[i].f3.length ≤ 2500
    · rw [if_neg (by omega), decide_eq_true h]; simp
    · rw [if_pos (by omega), decide_eq_false h]; simp
theorem few_ref (ds : List Leaf.S43) (A : Option Addr) (c : Nat) (w : World) (h : Kd.C Leaf.k43 w A ds.length ds) (hc : ds.length ≤ c) (hn : ds.length ≤ 9223372036854775807) : Calls Try.prog 16 #[.slice A ds.length c] w fun e w' => e = .returned (.bool (fewF ds)) ∧ Below w.heap.size w w' := by
  refine (Leaf.styluslaw03_few.calls (ds.length + 1) A c ds (fewF ds) w h hc ?_).mono ?_
  · have := few_l0 ds hn ds.length 0 (ds.length + 1) (by omega) (by omega)
    simpa [Leaf.styluslaw03_few.f, fewF] using this
  · rintro e w' ⟨rfl, hd⟩
    exact ⟨rfl, hd.below⟩
/-! ### Line -/
theorem line_l0 (t : List Int) (hn : t.length ≤ 1000000) (p : Nat) (hp : p ≤ t.length) (d : Nat) : ∀ (i k : Nat), i + d = p → d < k → Leaf.stylusref03_Line.l0 k t p (nl (t.take i)) i = some ((nl (t.take p) : Int)) := by
  induction d with
  | zero =>
    intro i k hi hk
    obtain ⟨k, rfl⟩ : ∃ m, k = m + 1 := ⟨k - 1, by omega⟩
    simp only [Leaf.stylusref03_Line.l0]
    rw [if_neg (by omega), show i = p from by omega]
  | succ d ih =>
    intro i k hi hk
    obtain ⟨k, rfl⟩ : ∃ m, k = m + 1 := ⟨k - 1, by omega⟩
    simp only [Leaf.stylusref03_Line.l0]
    have hlt : i < t.length := by omega
    have e1 : rd t (i : Int) = t.getD i 0 := by simp [rd]
    have e2 := nl_take_succ t i hlt
    have e3 := nl_take_le t i
    rw [if_pos (by omega), if_pos (by omega), if_pos (by omega), wrap_next hlt (by omega), e1]
    have := ih (i + 1) k (by omega) (by omega)
    by_cases h : t.getD i 0 = 10
    · rw [if_pos h, ← this, e2, if_pos h]
      congr 1
      unfold wrap64
      omega
    · have e4 : nl (t.take (i + 1)) = nl (t.take i) := by rw [e2, if_neg h]; rfl
      rw [if_neg h, ← this, e4]
theorem line_ref (t : List Int) (A : Option Addr) (c : Nat) (p : Int) (w : World) (h : RI w A t) (hc : t.length ≤ c) (hn : t.length ≤ 1000000) (p0 : 0 ≤ p) (p1 : p ≤ t.length) :
    Calls Try.prog 22 #[.slice A t.length c, .int .i64 p] w fun e w' => e = .returned (.int .i64 (nl (t.take p.toNat))) ∧ Below w.heap.size w w' := by
  refine (Leaf.stylusref03_Line.calls (p.toNat + 1) A c t p (nl (t.take p.toNat)) w h hc ?_).mono ?_
  · have := line_l0 t hn p.toNat (by omega) p.toNat 0 (p.toNat + 1) (by omega) (by omega)
    unfold Leaf.stylusref03_Line.f
    rw [show ((p.toNat : Nat) : Int) = p from by omega] at this
    simpa [nl] using this
  · rintro e w' ⟨rfl, hd⟩
    exact ⟨rfl, hd.below⟩
/-! ### Starts -/
def stL : List Int → Nat → List Int
  | [], _ => []
  | x :: t, i => if x = 10 then ((i : Int) + 1) :: stL t (i + 1) else stL t (i + 1)
theorem stL_len (t : List Int) : ∀ i, (stL t i).length = nl t := by
  induction t with
  | nil => intro i; rfl
  | cons x t ih =>
    intro i
    unfold stL
    rw [nl_cons]
    by_cases h : x = 10
    · rw [if_pos h, if_pos h, List.length_cons, ih]; omega
    · rw [if_neg h, if_neg h, ih]; omega
theorem stL_get (t : List Int) : ∀ i k, k < nl t → (stL t i).getD k 0 = (i : Int) + sp t (k + 1) := by
  induction t with
  | nil => intro i k hk; simp [nl] at hk
  | cons x t ih =>
    intro i k hk
    rw [nl_cons] at hk
    have e1 : sp (x :: t) (k + 1) = 1 + sp t (if x = 10 then k else k + 1) := by simp [sp]
    have e2 : stL (x :: t) i = if x = 10 then ((i : Int) + 1) :: stL t (i + 1) else stL t (i + 1) := rfl
    rw [e1, e2]
    by_cases h : x = 10
    · simp only [h, if_true] at hk ⊢
      cases k with
      | zero => simp [sp_zero]
      | succ k =>
        have := ih (i + 1) k (by omega)
        rw [List.getD_cons_succ, this]
        omega
    · simp only [h, if_false] at hk ⊢
      rw [ih (i + 1) k (by omega)]
      omega
theorem starts_l0 (t : List Int) (hn : t.length ≤ 1000000) (d : Nat) : ∀ (i k : Nat) (acc : List Int), i + d = t.length → d < k → acc.length ≤ i + 1 → Leaf.stylusref03_Starts.l0 k t acc i = some (acc ++ stL (t.drop i) i) := by
  induction d with
  | zero =>
    intro i k acc hi hk ha
    obtain ⟨k, rfl⟩ : ∃ m, k = m + 1 := ⟨k - 1, by omega⟩
    simp only [Leaf.stylusref03_Starts.l0]
    rw [if_neg (by omega), List.drop_of_length_le (by omega)]
    simp [stL]
  | succ d ih =>
    intro i k acc hi hk ha
    obtain ⟨k, rfl⟩ : ∃ m, k = m + 1 := ⟨k - 1, by omega⟩
    simp only [Leaf.stylusref03_Starts.l0]
    have hlt : i < t.length := by omega
    have e1 : rd t (i : Int) = t[i] := by simp [rd, List.getD_eq_getElem?_getD, List.getElem?_eq_getElem hlt]
    rw [if_pos (by omega), if_pos (by omega), e1, wrap_next hlt (by omega), List.drop_eq_getElem_cons hlt]
    unfold stL
    by_cases h : t[i] = 10
    · rw [if_pos h, if_pos h, if_pos (by omega), ih (i + 1) k _ (by omega) (by omega) (by simp; omega), List.append_assoc]
      simp
    · rw [if_neg h, if_neg h, ih (i + 1) k _ (by omega) (by omega) (by omega)]
def startsL (t : List Int) : List Int := 0 :: stL t 0
theorem startsL_len (t : List Int) : (startsL t).length = nl t + 1 := by simp [startsL, stL_len]
theorem startsL_get (t : List Int) (k : Nat) (h : k ≤ nl t) : (startsL t).getD k 0 = (sp t k : Int) := by
  unfold startsL
  cases k with
  | zero => simp [sp_zero]
  | succ k =>
    rw [List.getD_cons_succ, stL_get t 0 k (by omega)]
    simp
theorem starts_ref (t : List Int) (A : Option Addr) (c : Nat) (w : World) (h : RI w A t) (hc : t.length ≤ c) (hn : t.length ≤ 1000000) :
    Calls Try.prog 24 #[.slice A t.length c] w fun e w' => ∃ A' c', e = .returned (.slice A' (startsL t).length c') ∧ (startsL t).length ≤ c' ∧ Kd.C (Kd.int .i64) w' A' (startsL t).length (startsL t) ∧ Below w.heap.size w w' := by
  refine (Leaf.stylusref03_Starts.calls (t.length + 1) A c t (startsL t) w h hc ?_).mono ?_
  · have := starts_l0 t hn t.length 0 (t.length + 1) [0] (by omega) (by omega) (by simp)
    unfold Leaf.stylusref03_Starts.f
    rw [if_pos (by simp)]
    simpa [startsL] using this
  · rintro e w' ⟨v, rfl, hR, hb⟩
    obtain ⟨A', c', rfl, hl, hr⟩ := Kd.R_reads hR
    exact ⟨A', c', rfl, hl, hr, hb⟩
/-! ### Bytes -/
theorem ub_cons (x : Int) (t : List Int) : ub (x :: t) = (Utf8.encode x).size + ub t := by
  have := ub_append [x] t
  rw [List.singleton_append] at this
  rw [this]
  congr 1
theorem one_len (x : Int) : ∃ l, Leaf.stylusref01_one.f (if okc x = true then x else 65533) = some l ∧ l.length = (Utf8.encode x).size := by
  have hv : Utf8.valid x = okc x := by
    unfold Utf8.valid okc
    by_cases h : 0 ≤ x ∧ x ≤ 1114111 ∧ (x < 55296 ∨ 57343 < x)
    · rw [decide_eq_true h]
      rcases h.2.2 with h1 | h1
      · rw [decide_eq_true h.1, decide_eq_true h1]; rfl
      · rw [decide_eq_true (show 57344 ≤ x by omega), decide_eq_true h.2.1]; simp
    · rw [decide_eq_false h]
      by_cases h1 : 0 ≤ x ∧ x < 55296
      · exact absurd ⟨h1.1, by omega, .inl h1.2⟩ h
      · by_cases h2 : 57344 ≤ x ∧ x ≤ 1114111
        · exact absurd ⟨by omega, h2.2, .inr (by omega)⟩ h
        · simp only [Bool.or_eq_false_iff, Bool.and_eq_false_iff, decide_eq_false_iff_not]
          omega
  unfold Utf8.encode
  rw [hv]
  by_cases h : okc x = true
  · have hx : 0 ≤ x ∧ x ≤ 1114111 := by
      unfold okc at h
      have := of_decide_eq_true h
      exact ⟨this.1, this.2.1⟩
    simp only [h, if_true]
    unfold Leaf.stylusref01_one.f
    by_cases h1 : x < 128
    · rw [if_pos h1, if_pos (show x.toNat < 128 by omega)]; exact ⟨_, rfl, rfl⟩
    · rw [if_neg h1, if_neg (show ¬ x.toNat < 128 by omega)]
      by_cases h2 : x < 2048
      · rw [if_pos h2, if_pos (show x.toNat < 2048 by omega)]; exact ⟨_, rfl, rfl⟩
      · rw [if_neg h2, if_neg (show ¬ x.toNat < 2048 by omega)]
        by_cases h3 : x < 65536
        · rw [if_pos h3, if_pos (show x.toNat < 65536 by omega)]; exact ⟨_, rfl, rfl⟩
        · rw [if_neg h3, if_neg (show ¬ x.toNat < 65536 by omega)]; exact ⟨_, rfl, rfl⟩
  · simp only [h]
    exact ⟨_, rfl, rfl⟩
theorem enc_l0 (t : List Int) (hn : t.length ≤ 1000000) (d : Nat) : ∀ (i k : Nat) (acc : List Int), i + d = t.length → d < k → acc.length ≤ 4 * i → ∃ r, Leaf.stylusref01_Encode.l0 k t acc i = some r ∧ r.length = acc.length + ub (t.drop i) := by
  induction d with
  | zero =>
    intro i k acc hi hk ha
    obtain ⟨k, rfl⟩ : ∃ m, k = m + 1 := ⟨k - 1, by omega⟩
    simp only [Leaf.stylusref01_Encode.l0]
    rw [if_neg (by omega), List.drop_of_length_le (by omega), ub_nil]
    exact ⟨_, rfl, rfl⟩
  | succ d ih =>
    intro i k acc hi hk ha
    obtain ⟨k, rfl⟩ : ∃ m, k = m + 1 := ⟨k - 1, by omega⟩
    simp only [Leaf.stylusref01_Encode.l0]
    have hlt : i < t.length := by omega
    have e1 : rd t (i : Int) = t[i] := by simp [rd, List.getD_eq_getElem?_getD, List.getElem?_eq_getElem hlt]
    rw [if_pos (by omega), if_pos (by omega), e1, wrap_next hlt (by omega), List.drop_eq_getElem_cons hlt, right1_some, Option.bind_some, ub_cons]
    obtain ⟨l, h1, h2⟩ := one_len t[i]
    have h3 := encode_size_le t[i]
    by_cases h : okc t[i] = true
    · rw [if_pos h] at h1 ⊢
      rw [h1, Option.bind_some, if_pos (by omega)]
      obtain ⟨r, hr, hl⟩ := ih (i + 1) k (acc ++ l) (by omega) (by omega) (by rw [List.length_append]; omega)
      exact ⟨r, hr, by rw [hl, List.length_append]; omega⟩
    · rw [if_neg h] at h1 ⊢
      rw [h1, Option.bind_some, if_pos (by omega)]
      obtain ⟨r, hr, hl⟩ := ih (i + 1) k (acc ++ l) (by omega) (by omega) (by rw [List.length_append]; omega)
      exact ⟨r, hr, by rw [hl, List.length_append]; omega⟩
theorem bytes_ref (t : List Int) (A : Option Addr) (c : Nat) (p : Int) (w : World) (h : RI w A t) (hc : t.length ≤ c) (hn : t.length ≤ 1000000) (p0 : 0 ≤ p) (p1 : p ≤ t.length) :
    Calls Try.prog 23 #[.slice A t.length c, .int .i64 p] w fun e w' => e = .returned (.int .i64 (ub (t.take p.toNat))) ∧ Below w.heap.size w w' := by
  refine (Leaf.stylusref03_Bytes.calls ((t.take p.toNat).length + 1) A c t p (ub (t.take p.toNat)) w h hc ?_).mono ?_
  · obtain ⟨r, hr, hl⟩ := enc_l0 (t.take p.toNat) (by rw [List.length_take]; omega) (t.take p.toNat).length 0 ((t.take p.toNat).length + 1) [] (by omega) (by omega) (by simp)
    unfold Leaf.stylusref03_Bytes.f Leaf.stylusref01_Encode.f
    rw [if_pos p0, if_pos p1]
    rw [show ((0 : Nat) : Int) = 0 from rfl] at hr
    rw [hr, Option.bind_some, hl]
    simp
  · rintro e w' ⟨rfl, hd⟩
    exact ⟨rfl, hd⟩
end Go.Proofs.Ytepcdjkpmchobaa.Rope
