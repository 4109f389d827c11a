/- Insert and Delete leave a rope that holds the text with the runes put in, or taken away, or tell why not. -/
import Derived.Laws.Cover3
import Derived.Test.YtepcdjkpmchobaaRopeO
namespace Go.Proofs.Ytepcdjkpmchobaa.Rope
open Go.RowKit Go.Proofs.YtepcdjkpmchobaaW.PrintWords Go.Proofs.YtepcdjkpmchobaaW.PrintLast Go.Proofs.YtepcdjkpmchobaaW.PrintMore
attribute [local go_sem] max2_int min2_int max_two min_two max_three min_three max_four min_four
set_option linter.unusedVariables false
set_option linter.unusedSimpArgs false

theorem len_is {base g : Nat} {v : Value} {t : List Int} {W : World} (h : RopeIs base W g v t) : Calls Try.prog 11 #[.pointer (some ⟨g, 0, none⟩)] W fun e w' => e = .returned (.int .i64 t.length) ∧ Below W.heap.size W w' := by
  obtain ⟨ns, root, h1, h2, h3, h4⟩ := h
  have := len_calls base g v ns root W h1 h2.ix.1 h2.ix.2
  rwa [h2.sum.1] at this
theorem lines_is {base g : Nat} {v : Value} {t : List Int} {W : World} (h : RopeIs base W g v t) : Calls Try.prog 13 #[.pointer (some ⟨g, 0, none⟩)] W fun e w' => e = .returned (.int .i64 ((nl t : Int) + 1)) ∧ Below W.heap.size W w' := by
  obtain ⟨ns, root, h1, h2, h3, h4⟩ := h
  have hn := nl_le t
  have := lines_calls base g v ns root W h1 h2.ix.1 h2.ix.2 (by rw [h2.sum.2.1]; omega) (by rw [h2.sum.2.1]; omega)
  rwa [h2.sum.2.1] at this
theorem between_is {base g : Nat} {v : Value} {t : List Int} {W : World} (a b : Int) (h : RopeIs base W g v t) : Calls Try.prog 31 #[.pointer (some ⟨g, 0, none⟩), .int .i64 a, .int .i64 b] W fun e w' => e = .returned (.bool (btw t.length a b)) ∧ Below W.heap.size W w' := by
  obtain ⟨ns, root, h1, h2, h3, h4⟩ := h
  have := between_calls base g v ns root a b W h1 h2.ix.1 h2.ix.2
  rwa [h2.sum.1] at this
def insF (t : List Int) (p : Int) (l : List Int) : List Int × Int :=
  if p < 0 ∨ (t.length : Int) < p ∨ okt l = false then (t, 1) else if 2000 < t.length + l.length then (t, 3) else (t.take p.toNat ++ l ++ t.drop p.toNat, 0)
/-- What a call that writes comes to. -/
def WriteR (base g : Nat) (v : Value) (r : List Int × Int) (W : World) (e : Ending) (w' : World) : Prop :=
  ∃ v', e = .returned (.int .i64 r.2) ∧ RopeIs base w' g v' r.1 ∧ Mv base g v v' W w'
set_option maxHeartbeats 4000000 in
theorem insert_calls (base g : Nat) (v : Value) (t : List Int) (p : Int) (l : List Int) (A : Option Addr) (c : Nat) (W : World) (h : RopeIs base W g v t) (hs : Sty base W A l) (hc : l.length ≤ c) :
    Calls Try.prog 8 #[.pointer (some ⟨g, 0, none⟩), .int .i64 p, .slice A l.length c] W (WriteR base g v (insF t p l) W) := by
  have H := Aside0.mk h
  have HS := Aside0.mk hs
  have HC := Aside0.mk hc
  have hmax := Kd.C_max hs.now
  obtain ⟨ns, root, hR, hT, hn, ht⟩ := h
  have HBW : Aside0 (base ≤ W.heap.size) := ⟨Nat.le_trans hR.2.1 (Nat.le_of_lt hR.lt)⟩
  have HT := Aside0.mk hT
  have HR := Aside0.mk hR
  have HN := Aside0.mk hn
  clear hs hc hR hT hn
  by_cases c1 : p < 0
  · have E : Aside0 (insF t p l = (t, 1)) := ⟨by unfold insF; rw [if_pos (.inl c1)]⟩
    have c1b : decide (p < 0) = true := decide_eq_true c1
    go_enter Try.func8, Try.ntmps8
    go_wp2_with fail
    go_ret
    rw [E.out]
    exact ⟨v, rfl, H.out, Mv.refl _ _ _ _⟩
  have c1b : decide (p < 0) = false := decide_eq_false c1
  by_cases c2 : (t.length : Int) < p
  · have E : Aside0 (insF t p l = (t, 1)) := ⟨by unfold insF; rw [if_pos (.inr (.inl c2))]⟩
    have c2b : decide ((t.length : Int) < p) = true := decide_eq_true c2
    go_enter Try.func8, Try.ntmps8
    go_wp2_with (go_at_call 11; refine (len_is H.out).mono ?_; rintro e w1 ⟨rfl, hb1⟩)
    go_ret
    rw [E.out]
    exact ⟨v, rfl, H.out.below hb1, Mv.of_below hb1 HBW.out⟩
  have c2b : decide ((t.length : Int) < p) = false := decide_eq_false c2
  by_cases c3 : okt l = true
  · by_cases c4 : (2000 : Int) - t.length < l.length
    · have E : Aside0 (insF t p l = (t, 3)) := ⟨by unfold insF; rw [if_neg (by simp [c1, c2, c3]), if_pos (by omega)]⟩
      have c4b : decide ((2000 : Int) - t.length < l.length) = true := decide_eq_true c4
      go_enter Try.func8, Try.ntmps8
      go_wp2_with fail
      refine (len_is H.out).mono ?_
      rintro e w1 ⟨rfl, hb1⟩
      have HB1 := Aside0.mk hb1
      clear hb1
      go_wp2_with fail
      refine (fits_calls l A c _ (HS.out.below HB1.out HBW.out).now HC.out).mono ?_
      rintro e w2 ⟨rfl, hb2⟩
      have HB2 := Aside0.mk (below_then HB1.out HB1.out.size hb2)
      clear hb2
      go_wp2_with fail
      refine (len_is (H.out.below HB2.out)).mono ?_
      rintro e w3 ⟨rfl, hb3⟩
      have HB3 := Aside0.mk (below_then HB2.out HB2.out.size hb3)
      clear hb3
      go_wp2_with fail
      go_ret
      rw [E.out]
      exact ⟨v, rfl, H.out.below HB3.out, Mv.of_below HB3.out HBW.out⟩
    · have E : Aside0 (insF t p l = (t.take p.toNat ++ l ++ t.drop p.toNat, 0)) := ⟨by unfold insF; rw [if_neg (by simp [c1, c2, c3]), if_neg (by omega)]⟩
      have c4b : decide ((2000 : Int) - t.length < l.length) = false := decide_eq_false c4
      have LT : Aside0 ((t.take p.toNat).length = p.toNat) := ⟨by rw [List.length_take]; omega⟩
      have LD : Aside0 ((t.drop p.toNat).length = t.length - p.toNat) := ⟨by rw [List.length_drop]⟩
      go_enter Try.func8, Try.ntmps8
      go_wp2_with fail
      refine (len_is H.out).mono ?_
      rintro e w1 ⟨rfl, hb1⟩
      have HB1 := Aside0.mk hb1
      clear hb1
      go_wp2_with fail
      refine (fits_calls l A c _ (HS.out.below HB1.out HBW.out).now HC.out).mono ?_
      rintro e w2 ⟨rfl, hb2⟩
      have HB2 := Aside0.mk (below_then HB1.out HB1.out.size hb2)
      clear hb2
      go_wp2_with fail
      refine (len_is (H.out.below HB2.out)).mono ?_
      rintro e w3 ⟨rfl, hb3⟩
      have HB3 := Aside0.mk (below_then HB2.out HB2.out.size hb3)
      have hq := (blk_cell (HR.out.below HB3.out).1 1).trans rfl
      clear hb3
      go_wp2_with fail
      refine (cut_calls HT.out base g v root p _ (HR.out.below HB3.out) (by omega) (by omega) ht (by have := HN.out; omega)).mono ?_
      rintro e w4 ⟨v4, m4, a4, b4, rfl, hR4, hM4, hl4, hTa, hTb⟩
      have HR4 := Aside0.mk hR4
      have HM4 := Aside0.mk ((Mv.of_below HB3.out HBW.out).trans hM4)
      have HL4 : Aside0 ((ns ++ m4).length ≤ 21000) := ⟨by rw [List.length_append]; have := HN.out; have := HT.out.ix.2; omega⟩
      have HTA := Aside0.mk hTa
      have HTB := Aside0.mk hTb
      clear hR4 hM4 hl4 hTa hTb
      go_wp2_with fail
      refine (build_calls l.length l A c base g v4 (ns ++ m4) root _ (Nat.le_refl _) HR4.out ((HS.out.mv HR.out HM4.out).stay HR4.out) HC.out (by omega) (by have := HL4.out; omega)).mono ?_
      rintro e w5 ⟨v5, m5, i5, rfl, hR5, hM5, hl5, hT5⟩
      have HR5 := Aside0.mk hR5
      have HM5 := Aside0.mk (HM4.out.trans hM5)
      have HL5 : Aside0 ((ns ++ m4 ++ m5).length ≤ 30000) := ⟨by rw [List.length_append]; have := HL4.out; omega⟩
      have HT5 := Aside0.mk hT5
      have HTA5 := Aside0.mk (HTA.out.more m5)
      have HTB5 := Aside0.mk (HTB.out.more m5)
      clear hR5 hM5 hl5 hT5
      go_wp2_with fail
      refine (join_calls base g v5 (ns ++ m4 ++ m5) root a4 i5 _ HR5.out HTA5.out.ix.1 HTA5.out.ix.2 HT5.out.ix.1 HT5.out.ix.2 (.of_tree HTA5.out (by rw [LT.out]; omega)) (.of_tree HT5.out (by omega)) (by have := HL5.out; omega)).mono ?_
      rintro e w6 ⟨v6, ns6, i6, rfl, hR6, hM6, hJ6⟩
      obtain ⟨m6, rfl, hl6, hT6⟩ := hJ6.tree HTA5.out HT5.out
      have HR6 := Aside0.mk hR6
      have HM6 := Aside0.mk (HM5.out.trans hM6)
      have HT6 := Aside0.mk hT6
      have HTB6 := Aside0.mk (HTB5.out.more m6)
      have HL6 : Aside0 ((ns ++ m4 ++ m5 ++ m6).length ≤ 30001) := ⟨by rw [List.length_append]; have := HL5.out; omega⟩
      clear hR6 hM6 hl6 hT6 hJ6
      go_wp2_with fail
      refine (join_calls base g v6 (ns ++ m4 ++ m5 ++ m6) root i6 b4 _ HR6.out HT6.out.ix.1 HT6.out.ix.2 HTB6.out.ix.1 HTB6.out.ix.2 (.of_tree HT6.out (by rw [List.length_append, LT.out]; omega)) (.of_tree HTB6.out (by rw [LD.out]; omega)) (by have := HL6.out; omega)).mono ?_
      rintro e w7 ⟨v7, ns7, i7, rfl, hR7, hM7, hJ7⟩
      obtain ⟨m7, rfl, hl7, hT7⟩ := hJ7.tree HT6.out HTB6.out
      have HR7 := Aside0.mk hR7
      have HM7 := Aside0.mk (HM6.out.trans hM7)
      have HT7 := Aside0.mk hT7
      clear hR7 hM7 hl7 hT7 hJ7
      go_wp2_with fail
      refine (settle_calls HT7.out base g v7 root _ HR7.out (by rw [List.length_append, List.length_append, LT.out, LD.out]; omega)).mono ?_
      rintro e w8 ⟨v8, ns8, i8, rfl, hR8, hM8, hT8, hl8⟩
      go_wp2_with fail
      go_ret
      rw [E.out]
      exact ⟨v8, rfl, ⟨ns8, i8, hR8, hT8, hl8, by show (t.take p.toNat ++ l ++ t.drop p.toNat).length ≤ 2000; rw [List.length_append, List.length_append, LT.out, LD.out]; omega⟩, HM7.out.trans hM8⟩
  · have c3b : okt l = false := by simpa using c3
    have E : Aside0 (insF t p l = (t, 1)) := ⟨by unfold insF; rw [if_pos (.inr (.inr c3b))]⟩
    go_enter Try.func8, Try.ntmps8
    go_wp2_with fail
    refine (len_is H.out).mono ?_
    rintro e w1 ⟨rfl, hb1⟩
    have HB1 := Aside0.mk hb1
    clear hb1
    go_wp2_with fail
    refine (fits_calls l A c _ (HS.out.below HB1.out HBW.out).now HC.out).mono ?_
    rintro e w2 ⟨rfl, hb2⟩
    have HB2 := Aside0.mk (below_then HB1.out HB1.out.size hb2)
    clear hb2
    go_wp2_with fail
    go_ret
    rw [E.out]
    exact ⟨v, rfl, H.out.below HB2.out, Mv.of_below HB2.out HBW.out⟩

def delF (t : List Int) (a b : Int) : List Int × Int := if btw t.length a b = false then (t, 1) else (t.take a.toNat ++ t.drop b.toNat, 0)
theorem btw_true {n a b : Int} (h : btw n a b = true) : 0 ≤ a ∧ a ≤ b ∧ b ≤ n := by
  unfold btw at h
  simp only [Bool.and_eq_true, decide_eq_true_eq] at h
  exact ⟨h.1.1, h.1.2, h.2⟩
set_option maxHeartbeats 4000000 in
theorem delete_calls (base g : Nat) (v : Value) (t : List Int) (a b : Int) (W : World) (h : RopeIs base W g v t) :
    Calls Try.prog 9 #[.pointer (some ⟨g, 0, none⟩), .int .i64 a, .int .i64 b] W (WriteR base g v (delF t a b) W) := by
  have H := Aside0.mk h
  obtain ⟨ns, root, hR, hT, hn, ht⟩ := h
  have HBW : Aside0 (base ≤ W.heap.size) := ⟨Nat.le_trans hR.2.1 (Nat.le_of_lt hR.lt)⟩
  have HT := Aside0.mk hT
  have HR := Aside0.mk hR
  have HN := Aside0.mk hn
  clear hR hT hn
  by_cases c1 : btw t.length a b = true
  · have E : Aside0 (delF t a b = (t.take a.toNat ++ t.drop b.toNat, 0)) := ⟨by unfold delF; rw [if_neg (by simp [c1])]⟩
    have hb := btw_true c1
    have LT : Aside0 ((t.take a.toNat).length = a.toNat) := ⟨by rw [List.length_take]; omega⟩
    have LD : Aside0 ((t.drop a.toNat).length = t.length - a.toNat) := ⟨by rw [List.length_drop]⟩
    have LE : Aside0 ((t.drop b.toNat).length = t.length - b.toNat) := ⟨by rw [List.length_drop]⟩
    have DD : Aside0 ((t.drop a.toNat).drop (b - a).toNat = t.drop b.toNat) := ⟨by rw [List.drop_drop, show a.toNat + (b - a).toNat = b.toNat from by omega]⟩
    obtain ⟨hb1', hb2', hb3'⟩ := hb
    go_enter Try.func9, Try.ntmps9
    go_wp2_with fail
    refine (between_is a b H.out).mono ?_
    rintro e w1 ⟨rfl, hb1⟩
    have HB1 := Aside0.mk hb1
    have hq := (blk_cell (HR.out.below HB1.out).1 1).trans rfl
    clear hb1
    go_wp2_with fail
    refine (cut_calls HT.out base g v root a _ (HR.out.below HB1.out) (by omega) (by omega) ht (by have := HN.out; omega)).mono ?_
    rintro e w4 ⟨v4, m4, a4, b4, rfl, hR4, hM4, hl4, hTa, hTb⟩
    have HR4 := Aside0.mk hR4
    have HM4 := Aside0.mk ((Mv.of_below HB1.out HBW.out).trans hM4)
    have HL4 : Aside0 ((ns ++ m4).length ≤ 21000) := ⟨by rw [List.length_append]; have := HN.out; have := HT.out.ix.2; omega⟩
    have HTA := Aside0.mk hTa
    have HTB := Aside0.mk hTb
    clear hR4 hM4 hl4 hTa hTb
    go_wp2_with fail
    refine (cut_calls HTB.out base g v4 root (b - a) _ HR4.out (by omega) (by rw [LD.out]; omega) (by rw [LD.out]; omega) (by have := HL4.out; omega)).mono ?_
    rintro e w5 ⟨v5, m5, a5, b5, rfl, hR5, hM5, hl5, hTa5, hTb5⟩
    rw [DD.out] at hTb5
    have HR5 := Aside0.mk hR5
    have HM5 := Aside0.mk (HM4.out.trans hM5)
    have HL5 : Aside0 ((ns ++ m4 ++ m5).length ≤ 50000) := ⟨by rw [List.length_append]; have := HL4.out; have := HTB.out.ix.2; omega⟩
    have HTA5 := Aside0.mk (HTA.out.more m5)
    have HTB5 := Aside0.mk hTb5
    clear hR5 hM5 hl5 hTa5 hTb5
    go_wp2_with fail
    refine (join_calls base g v5 (ns ++ m4 ++ m5) root a4 b5 _ HR5.out HTA5.out.ix.1 HTA5.out.ix.2 HTB5.out.ix.1 HTB5.out.ix.2 (.of_tree HTA5.out (by rw [LT.out]; omega)) (.of_tree HTB5.out (by rw [LE.out]; omega)) (by have := HL5.out; omega)).mono ?_
    rintro e w6 ⟨v6, ns6, i6, rfl, hR6, hM6, hJ6⟩
    obtain ⟨m6, rfl, hl6, hT6⟩ := hJ6.tree HTA5.out HTB5.out
    have HR6 := Aside0.mk hR6
    have HM6 := Aside0.mk (HM5.out.trans hM6)
    have HT6 := Aside0.mk hT6
    clear hR6 hM6 hl6 hT6 hJ6
    go_wp2_with fail
    refine (settle_calls HT6.out base g v6 root _ HR6.out (by rw [List.length_append, LT.out, LE.out]; omega)).mono ?_
    rintro e w8 ⟨v8, ns8, i8, rfl, hR8, hM8, hT8, hl8⟩
    go_wp2_with fail
    go_ret
    rw [E.out]
    exact ⟨v8, rfl, ⟨ns8, i8, hR8, hT8, hl8, by show (t.take a.toNat ++ t.drop b.toNat).length ≤ 2000; rw [List.length_append, LT.out, LE.out]; omega⟩, HM6.out.trans hM8⟩
  · have c1b : btw t.length a b = false := by simpa using c1
    have E : Aside0 (delF t a b = (t, 1)) := ⟨by unfold delF; rw [if_pos c1b]⟩
    go_enter Try.func9, Try.ntmps9
    go_wp2_with fail
    refine (between_is a b H.out).mono ?_
    rintro e w1 ⟨rfl, hb1⟩
    go_wp2_with fail
    go_ret
    rw [E.out]
    exact ⟨v, rfl, H.out.below hb1, Mv.of_below hb1 HBW.out⟩
end Go.Proofs.Ytepcdjkpmchobaa.Rope
