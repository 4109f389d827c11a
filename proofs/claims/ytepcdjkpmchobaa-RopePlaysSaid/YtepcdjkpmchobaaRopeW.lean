/- styluslaw03.RopeBack returns true, and writes no memory that was there before. -/
import Derived.Laws.Cover3
import Derived.Test.YtepcdjkpmchobaaRopeV
namespace Go.Proofs.Ytepcdjkpmchobaa.Rope
open Go.RowKit Go.Proofs.YtepcdjkpmchobaaW.PrintWords Go.Proofs.YtepcdjkpmchobaaW.PrintLast Go.Proofs.YtepcdjkpmchobaaW.PrintMore
attribute [local go_sem] max2_int min2_int max_two min_two max_three min_three max_four min_four
set_option linter.unusedVariables false
set_option linter.unusedSimpArgs false

theorem ins_back (l m : List Int) (i : Int) (h0 : 0 ≤ i) (h1 : i ≤ l.length) : delF (l.take i.toNat ++ m ++ l.drop i.toNat) i (i + m.length) = (l, 0) := by
  have h2 : (l.take i.toNat).length = i.toNat := by rw [List.length_take]; omega
  have h3 : (l.drop i.toNat).length = l.length - i.toNat := by rw [List.length_drop]
  have e : (l.take i.toNat ++ m ++ l.drop i.toNat).length = l.length + m.length := by rw [List.length_append, List.length_append]; omega
  unfold delF
  rw [if_neg]
  · congr 1
    rw [List.append_assoc, List.take_append_of_le_length (by omega), List.take_of_length_le (by omega), ← List.append_assoc, show (i + (m.length : Int)).toNat = (l.take i.toNat ++ m).length from by rw [List.length_append]; omega, List.drop_left, List.take_append_drop]
  · unfold btw
    rw [e, decide_eq_true (by omega), decide_eq_true (by omega), decide_eq_true (by omega)]
    decide
theorem ins_in (l m : List Int) (i : Int) (h0 : 0 ≤ i) (h1 : i ≤ l.length) (hm : okt m = true) (hl : l.length + m.length ≤ 2000) : insF l i m = (l.take i.toNat ++ m ++ l.drop i.toNat, 0) := by
  unfold insF
  rw [if_neg (by simp [hm]; omega), if_neg (by omega)]
theorem sl_all (l : List Int) : sl (0 : Int).toNat ((l.length : Nat) : Int).toNat l = l := by
  simp [sl]
theorem btw_all (n : Nat) : btw n 0 n = true := by
  unfold btw
  rw [decide_eq_true (by omega), decide_eq_true (by omega), decide_eq_true (by omega)]
  rfl
theorem start_in (t : List Int) (k : Nat) (h : k ≤ nl t) : startF t k = ((sp t k : Int), 0) ∧ lineF t (sp t k : Int) = ((k : Int), 0) := by
  constructor
  · unfold startF
    rw [decide_eq_true (by omega), decide_eq_true (by omega)]
    simp
  · unfold lineF inText
    rw [decide_eq_true (by omega), decide_eq_true (by have := sp_le t k; omega)]
    simp [sp_take t k h]
set_option maxHeartbeats 8000000 in
theorem back_calls (l m : List Int) (A B : Option Addr) (c d : Nat) (a : Int) (W : World) (hl : RI W A l) (hm : RI W B m) (hc : l.length ≤ c) (hd : m.length ≤ d) (a0 : 0 ≤ a) (a1 : a ≤ 65535) :
    Calls Try.prog 3 #[.slice A l.length c, .int .u16 a, .slice B m.length d] W fun e w' => e = .returned (.bool true) ∧ Below W.heap.size W w' := by
  have HL := Aside0.mk hl
  have HM := Aside0.mk hm
  have HC := Aside0.mk hc
  have HD := Aside0.mk hd
  have hmax1 := Kd.C_max hl
  have hmax2 := Kd.C_max hm
  clear hl hm hc hd
  by_cases c1 : (500 : Int) < l.length
  · have c1b : decide ((500 : Int) < l.length) = true := decide_eq_true c1
    have HB : Aside0 (Below W.heap.size W W) := ⟨Below.refl _ _⟩
    go_enter Try.func3, Try.ntmps3
    go_wp2_with fail
    refine (knows_calls _).mono ?_
    rintro e w9 ⟨rfl, hb9⟩
    go_wp2_with fail
    go_ret
    exact ⟨rfl, below_then HB.out HB.out.size hb9⟩
  have c1b : decide ((500 : Int) < l.length) = false := decide_eq_false c1
  by_cases c2 : (500 : Int) < m.length
  · have c2b : decide ((500 : Int) < m.length) = true := decide_eq_true c2
    have HB : Aside0 (Below W.heap.size W W) := ⟨Below.refl _ _⟩
    go_enter Try.func3, Try.ntmps3
    go_wp2_with fail
    refine (knows_calls _).mono ?_
    rintro e w9 ⟨rfl, hb9⟩
    go_wp2_with fail
    go_ret
    exact ⟨rfl, below_then HB.out HB.out.size hb9⟩
  have c2b : decide ((500 : Int) < m.length) = false := decide_eq_false c2
  by_cases c3 : okt l = false
  · have c3a := Aside0.mk c3
    go_enter Try.func3, Try.ntmps3
    go_wp2_with fail
    refine (all_calls l A c _ HL.out HC.out).mono ?_
    rintro e w1 ⟨rfl, hb1⟩
    have HB := Aside0.mk hb1
    clear hb1
    go_wp2_with fail
    refine (knows_calls _).mono ?_
    rintro e w9 ⟨rfl, hb9⟩
    go_wp2_with fail
    go_ret
    exact ⟨rfl, below_then HB.out HB.out.size hb9⟩
  have c3b : okt l = true := by simpa using c3
  by_cases c4 : okt m = false
  · go_enter Try.func3, Try.ntmps3
    go_wp2_with fail
    refine (all_calls l A c _ HL.out HC.out).mono ?_
    rintro e w1 ⟨rfl, hb1⟩
    have HB1 := Aside0.mk hb1
    clear hb1
    go_wp2_with fail
    refine (all_calls m B d _ (HM.out.below HB1.out) HD.out).mono ?_
    rintro e w2 ⟨rfl, hb2⟩
    have HB := Aside0.mk (below_then HB1.out HB1.out.size hb2)
    clear hb2
    go_wp2_with fail
    refine (knows_calls _).mono ?_
    rintro e w9 ⟨rfl, hb9⟩
    go_wp2_with fail
    go_ret
    exact ⟨rfl, below_then HB.out HB.out.size hb9⟩
  have c4b : okt m = true := by simpa using c4
  have C3 := Aside0.mk c3b
  have C4 := Aside0.mk c4b
  clear c3 c4
  obtain ⟨i, hi⟩ : ∃ i : Int, a.tmod ((l.length : Int) + 1) = i := ⟨_, rfl⟩
  have i0 : 0 ≤ i := by rw [← hi]; exact Int.tmod_nonneg _ a0
  have i1 : i ≤ l.length := by have := Int.tmod_lt_of_pos a (show (0 : Int) < (l.length : Int) + 1 by omega); omega
  have hz : ((l.length : Int) + 1 == 0) = false := beq_eq_false_iff_ne.mpr (by omega)
  have hz1 : ((l.length : Int) + 1 == -1) = false := beq_eq_false_iff_ne.mpr (by omega)
  have I0 : Aside0 (insF l i m = (l.take i.toNat ++ m ++ l.drop i.toNat, 0)) := ⟨ins_in l m i i0 i1 c4b (by omega)⟩
  have I1 := Aside0.mk (ins_back l m i i0 i1)
  go_enter Try.func3, Try.ntmps3
  go_wp2_with fail
  refine (all_calls l A c _ HL.out HC.out).mono ?_
  rintro e w1 ⟨rfl, hb1⟩
  have HB1 := Aside0.mk hb1
  clear hb1
  go_wp2_with fail
  refine (all_calls m B d _ (HM.out.below HB1.out) HD.out).mono ?_
  rintro e w2 ⟨rfl, hb2⟩
  have HB2 := Aside0.mk (below_then HB1.out HB1.out.size hb2)
  clear hb2
  go_wp2_with fail
  refine (of_calls W.heap.size l A c _ (Sty.came HL.out HB2.out) HC.out HB2.out.size).mono ?_
  rintro e w3 ⟨hb3, hq⟩
  rcases hq with ⟨h1, _⟩ | ⟨_, h2, _⟩ | ⟨_, _, g, v, rfl, hR, hg⟩
  · exact absurd (C3.out.symm.trans h1) (by decide)
  · exact absurd h2 (by omega)
  have HB3 := Aside0.mk (below_then HB2.out HB2.out.size hb3)
  have HR3 := Aside0.mk hR
  clear hb3 hR hg
  go_wp2_with fail
  refine (insert_calls W.heap.size g v l i m B d _ HR3.out (Sty.came HM.out HB3.out) HD.out).mono ?_
  rw [I0.out]
  rintro e w4 ⟨v4, rfl, hR4, hM4⟩
  have HB4 := Aside0.mk (HB3.out.trans hM4.below)
  have HR4 := Aside0.mk hR4
  clear hR4 hM4
  go_wp2_with fail
  refine (delete_calls W.heap.size g v4 _ i (i + m.length) _ HR4.out).mono ?_
  rw [I1.out]
  rintro e w5 ⟨v5, rfl, hR5, hM5⟩
  have HB5 := Aside0.mk (HB4.out.trans hM5.below)
  have HR5 := Aside0.mk hR5
  clear hR5 hM5
  go_wp2_with fail
  refine (slice_calls W.heap.size g v5 l 0 l.length _ HR5.out).mono ?_
  rintro e w6 ⟨hb6, hq⟩
  rcases hq with ⟨h1, _⟩ | ⟨_, A6, c6, rfl, hc6, ht6⟩
  · exact absurd ((btw_all _).symm.trans h1) (by decide)
  rw [sl_all] at hc6 ht6 ⊢
  have HB6 := Aside0.mk (below_then HB5.out HB5.out.size hb6)
  have HR6 := Aside0.mk (HR5.out.below hb6)
  have HC6 := Aside0.mk hc6
  have HT6 := Aside0.mk (ht6.ri (show l.length ≤ _ by omega))
  clear hb6 hc6 ht6
  go_wp2_with fail
  refine (len_is HR6.out).mono ?_
  rintro e w7 ⟨rfl, hb7⟩
  have HB7 := Aside0.mk (below_then HB6.out HB6.out.size hb7)
  have HR7 := Aside0.mk (HR6.out.below hb7)
  have HT7 := Aside0.mk (HT6.out.below hb7)
  clear hb7
  go_wp2_with fail
  refine (same_calls l l A6 A c6 c _ HT7.out HC6.out (HL.out.below HB7.out) HC.out).mono ?_
  rintro e w8 ⟨rfl, hb8⟩
  rw [decide_eq_true (rfl : l = l)]
  have HB8 := Aside0.mk (below_then HB7.out HB7.out.size hb8)
  have HR8 := Aside0.mk (HR7.out.below hb8)
  have hnl := nl_le l
  clear hb8
  go_wp2_with fail
  go_loopg [14, 15, 16, 17, 18] (nl l + 2) (fun kq v14 v15 v16 v17 v18 wr => ∃ k : Nat, v14 = .int .i64 (k : Int) ∧ k ≤ nl l + 1 ∧ kq + k = nl l + 2 ∧ Aside0 (RopeIs W.heap.size wr g v5 l) ∧ Aside0 (Below W.heap.size W wr))
  case atStart => exact ⟨0, rfl, by omega, rfl, HR8, HB8⟩
  case round =>
    obtain ⟨k, rfl, hk, hkq, hR, hB⟩ := hrel
    have HK := Aside0.mk hkq
    clear hkq
    go_wp2_with fail
    by_cases hlt : k ≤ nl l
    · have hlb : decide ((k : Int) < (nl l : Int) + 1) = true := decide_eq_true (by omega)
      refine (lines_is hR.out).mono ?_
      rintro e x1 ⟨rfl, hb1⟩
      have XB1 := Aside0.mk (below_then hB.out hB.out.size hb1)
      have XR1 := Aside0.mk (hR.out.below hb1)
      clear hb1
      go_wp2_with fail
      refine (start_calls W.heap.size g v5 l k _ XR1.out).mono ?_
      rintro e x2 ⟨rfl, hb2⟩
      rw [(start_in l k hlt).1]
      have XB2 := Aside0.mk (below_then XB1.out XB1.out.size hb2)
      have XR2 := Aside0.mk (XR1.out.below hb2)
      clear hb2
      go_wp2_with fail
      refine (line_calls W.heap.size g v5 l (sp l k : Int) _ XR2.out).mono ?_
      rintro e x3 ⟨rfl, hb3⟩
      rw [(start_in l k hlt).2]
      have XB3 := Aside0.mk (below_then XB2.out XB2.out.size hb3)
      have XR3 := Aside0.mk (XR2.out.below hb3)
      clear hb3
      go_wp2_with fail
      go_roundg (nl l + 1 - k)
      case measure => have := HK.out; omega
      case rel => exact ⟨k + 1, by go_num, by omega, by omega, XR3, XB3⟩
    · have hlb : decide ((k : Int) < (nl l : Int) + 1) = false := decide_eq_false (by omega)
      refine (lines_is hR.out).mono ?_
      rintro e x1 ⟨rfl, hb1⟩
      have HB := Aside0.mk (below_then hB.out hB.out.size hb1)
      clear hb1
      go_wp2_with fail
      refine (knows_calls _).mono ?_
      rintro e w9 ⟨rfl, hb9⟩
      go_wp2_with fail
      go_ret
      exact ⟨rfl, below_then HB.out HB.out.size hb9⟩
end Go.Proofs.Ytepcdjkpmchobaa.Rope
