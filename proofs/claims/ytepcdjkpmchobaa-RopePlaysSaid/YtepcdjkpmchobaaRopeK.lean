/- rope.all hands each leaf's text, in order, to the function that it is given. -/
import Derived.Laws.Cover3
import Derived.Test.YtepcdjkpmchobaaRopeJ
namespace Go.Proofs.Ytepcdjkpmchobaa.Rope
open Go.RowKit Go.Proofs.YtepcdjkpmchobaaW.PrintWords Go.Proofs.YtepcdjkpmchobaaW.PrintLast Go.Proofs.YtepcdjkpmchobaaW.PrintMore
attribute [local go_sem] max2_int min2_int max_two min_two max_three min_three max_four min_four
set_option linter.unusedVariables false
set_option linter.unusedSimpArgs false

/-! ### Telling the chunks: what is gathered by a function value -/
structure Mg (base : Nat) (G : Nat → Prop) (v v' : Value) (W W' : World) : Prop where
  below : Below base W W'
  size : W.heap.size ≤ W'.heap.size
  keep : ∀ k, k < W.heap.size → ¬ G k → some k ≠ v.ownBlock → W'.heap[k]? = W.heap[k]?
  mv : v'.ownBlock = v.ownBlock ∨ ∃ b, v'.ownBlock = some b ∧ W.heap.size ≤ b
theorem Mg.of_below {base : Nat} {G : Nat → Prop} {v : Value} {W W' : World} (h : Below W.heap.size W W') (hb : base ≤ W.heap.size) : Mg base G v v W W' :=
  ⟨below_lower h hb, h.size, fun k hk _ _ => h.block k hk, .inl rfl⟩
theorem Mg.trans {base : Nat} {G : Nat → Prop} {v v1 v2 : Value} {W W1 W2 : World} (h : Mg base G v v1 W W1) (k : Mg base G v1 v2 W1 W2) : Mg base G v v2 W W2 := by
  refine ⟨h.below.trans k.below, Nat.le_trans h.size k.size, fun i hi hg hr => ?_, ?_⟩
  · refine (k.keep i (Nat.lt_of_lt_of_le hi h.size) hg ?_).trans (h.keep i hi hg hr)
    rcases h.mv with hm | ⟨b, hm, hb⟩
    · rw [hm]; exact hr
    · rw [hm]
      intro he
      injection he with he
      omega
  · rcases k.mv with hk | ⟨b, hk, hb⟩
    · rw [hk]; exact h.mv
    · exact .inr ⟨b, hk, Nat.le_trans h.size hb⟩
structure Acc where
  b0 : Nat
  G : Nat → Prop
  I : World → Value → List Int → Prop
  lt : ∀ w v acc k, I w v acc → (G k ∨ some k = v.ownBlock) → b0 ≤ k ∧ k < w.heap.size
  bel : ∀ w w' v acc, I w v acc → Below w.heap.size w w' → I w' v acc
/-- What telling comes to. -/
def TellR (a : Acc) (v : Value) (acc t : List Int) (w : World) (e : Ending) (w' : World) : Prop :=
  ∃ v', e = .returned (.tuple #[]) ∧ a.I w' v' (acc ++ t) ∧ Mg a.b0 a.G v v' w w'

set_option maxHeartbeats 4000000 in
theorem all46 {ns : List Node} {i : Int} {t : List Int} (T : Tree ns i t) (a : Acc) (p : Nat)
    (hT : ∀ w v acc A t c, a.I w v acc → RI w A t → t.length ≤ c → acc.length + t.length ≤ 1000000 → Calls Try.prog 46 #[.slice A t.length c, .pointer (some ⟨p, 0, none⟩)] w (TellR a v acc t w)) :
    ∀ (base g : Nat) (rv : Value) (root : Int) (W0 w : World) (v : Value) (acc : List Int), RopeAt base W0 g rv ns root → Below W0.heap.size W0 w → a.b0 = W0.heap.size → a.I w v acc → acc.length + t.length ≤ 1000000 →
    Calls Try.prog 32 #[.pointer (some ⟨g, 0, none⟩), .int .i64 i, .func (.func 46) #[] #[.pointer (some ⟨p, 0, none⟩)]] w (TellR a v acc t w) := by
  have HF := Aside0.mk hT
  clear hT
  induction T with
  | leaf i t h0 h1 hn =>
    intro base g rv root W0 w v acc h hbel hb0 hI hl
    obtain ⟨A, c, hv, hc, hc0, hc1, hf0, hf1, hrd⟩ := (h.below hbel).open_
    obtain ⟨ad, A5, c5, rfl, x0, x1, x2, x3, x4, x5, l5, t5, n5⟩ := at_node hrd i h0 h1
    rw [hn] at x0 x1 x2 x3 x4 x5 l5 t5
    have HL := Aside0.mk hl
    have HT5 : Aside0 (RI w A5 t) := ⟨t5.ri (show t.length ≤ _ by omega)⟩
    have HL5 : Aside0 (t.length ≤ c5) := ⟨l5⟩
    have HI := Aside0.mk hI
    have HW : Aside0 (Below w.heap.size w (w.alloc (.cells #[.int .i64 t.length, .int .i64 (nl t), .int .i64 (ub t), .int .i64 (-1), .int .i64 (-1), .slice A5 t.length c5] 67))) := ⟨below_alloc (Below.refl _ _) _⟩
    have HBW : Aside0 (a.b0 ≤ w.heap.size) := ⟨by rw [hb0]; exact hbel.size⟩
    clear h hrd l5 t5 n5 hv hn hbel hb0 hI hl
    replace h0 := eq_true h0
    replace h1 := eq_true h1
    go_enter Try.func32, Try.ntmps32
    go_wp2_with (go_at_call 46; refine (HF.out _ v acc A5 t c5 (a.bel _ _ _ _ HI.out HW.out) (HT5.out.below HW.out) HL5.out HL.out).mono ?_; rintro e w1 ⟨v1, rfl, hI1, hM1⟩)
    go_end0
    exact ⟨v1, rfl, hI1, (Mg.of_below HW.out HBW.out).trans hM1⟩
  | two i l r u s t h0 h1 hn hu hl hr hs ht ps pt ihs iht =>
    intro base g rv root W0 w v acc h hbel hb0 hI hlen
    obtain ⟨A, c, hv, hc, hc0, hc1, hf0, hf1, hrd⟩ := (h.below hbel).open_
    obtain ⟨ad, A5, c5, rfl, x0, x1, x2, x3, x4, x5, l5, t5, n5⟩ := at_node hrd i h0 h1
    rw [hn] at x0 x1 x2 x3 x4 x5 n5
    have hl0 := hs.ix.1
    obtain ⟨rfl, _, rfl⟩ := n5 (show l ≠ -1 by omega)
    have x5' : w.cell? ⟨(ad.add (i.toNat * 6)).block, (ad.add (i.toNat * 6)).off + 5, none⟩ = some (.slice none 0 0) := x5
    have H := Aside0.mk h
    have HIS := Aside0.mk ihs
    have HIT := Aside0.mk iht
    have HU := Aside0.mk hu
    have HI := Aside0.mk hI
    have HEQ := Aside0.mk hb0
    have HBEL := Aside0.mk hbel
    have hul : u.length = s.length + t.length := by rw [hu, List.length_append]
    have HL : Aside0 (acc.length + s.length ≤ 1000000 ∧ (acc ++ s).length + t.length ≤ 1000000) := ⟨by rw [List.length_append]; omega⟩
    have hlb : (l == -1) = false := beq_eq_false_iff_ne.mpr (by omega)
    have HB0 : Aside0 ((w.alloc (.cells #[.int .i64 u.length, .int .i64 (nl u), .int .i64 (ub u), .int .i64 l, .int .i64 r, .slice none 0 0] 67)).heap[w.heap.size]? = some (.cells #[.int .i64 u.length, .int .i64 (nl u), .int .i64 (ub u), .int .i64 l, .int .i64 r, .slice none 0 0] 67)) := ⟨blk_new w _⟩
    have HW : Aside0 (Below w.heap.size w (w.alloc (.cells #[.int .i64 u.length, .int .i64 (nl u), .int .i64 (ub u), .int .i64 l, .int .i64 r, .slice none 0 0] 67))) := ⟨below_alloc (Below.refl _ _) _⟩
    have HBW : Aside0 (a.b0 ≤ w.heap.size) := ⟨by rw [hb0]; exact hbel.size⟩
    have HLT : Aside0 (¬ a.G w.heap.size ∧ some w.heap.size ≠ v.ownBlock) := ⟨fun hg => Nat.lt_irrefl _ (a.lt _ _ _ _ hI (.inl hg)).2, fun hg => Nat.lt_irrefl _ (a.lt _ _ _ _ hI (.inr hg)).2⟩
    clear h hrd x5 l5 t5 n5 hv hu hs ht ihs iht hn hbel hb0 hI hlen hul
    replace h0 := eq_true h0
    replace h1 := eq_true h1
    go_enter Try.func32, Try.ntmps32
    go_wp2_with fail
    refine (HIS.out base g rv root W0 _ v acc H.out (below_then HBEL.out HBEL.out.size HW.out) HEQ.out (a.bel _ _ _ _ HI.out HW.out) HL.out.1).mono ?_
    rintro e w1 ⟨v1, rfl, hI1, hM1⟩
    have HI1 := Aside0.mk hI1
    have HM1 := Aside0.mk ((Mg.of_below HW.out HBW.out).trans hM1)
    have HB1 : Aside0 (w1.heap[w.heap.size]? = some (.cells #[.int .i64 u.length, .int .i64 (nl u), .int .i64 (ub u), .int .i64 l, .int .i64 r, .slice none 0 0] 67)) := ⟨(hM1.keep _ (blk_lt HB0.out) HLT.out.1 HLT.out.2).trans HB0.out⟩
    have hk4 : w1.cell? ⟨w.heap.size, 4, none⟩ = some (.int .i64 r) := (blk_cell HB1.out 4).trans rfl
    clear hI1 hM1
    go_wp2_with fail
    refine (HIT.out base g rv root W0 _ v1 (acc ++ s) H.out (HBEL.out.trans (by rw [← HEQ.out]; exact HM1.out.below)) HEQ.out HI1.out HL.out.2).mono ?_
    rintro e w2 ⟨v2, rfl, hI2, hM2⟩
    have HI2 := Aside0.mk hI2
    have HM2 := Aside0.mk (HM1.out.trans hM2)
    clear hI2 hM2
    go_wp2_with fail
    go_end0
    exact ⟨v2, rfl, by rw [HU.out, ← List.append_assoc]; exact HI2.out, HM2.out⟩

set_option maxHeartbeats 4000000 in
theorem all33 {ns : List Node} {i : Int} {t : List Int} (T : Tree ns i t) (a : Acc) (pf pa pt_ po : Nat)
    (hT : ∀ w v acc A t c, a.I w v acc → RI w A t → t.length ≤ c → acc.length + t.length ≤ 1000000 → Calls Try.prog 33 #[.slice A t.length c, .pointer (some ⟨pf, 0, none⟩), .pointer (some ⟨pa, 0, none⟩), .pointer (some ⟨pt_, 0, none⟩), .pointer (some ⟨po, 0, none⟩)] w (TellR a v acc t w)) :
    ∀ (base g : Nat) (rv : Value) (root : Int) (W0 w : World) (v : Value) (acc : List Int), RopeAt base W0 g rv ns root → Below W0.heap.size W0 w → a.b0 = W0.heap.size → a.I w v acc → acc.length + t.length ≤ 1000000 →
    Calls Try.prog 32 #[.pointer (some ⟨g, 0, none⟩), .int .i64 i, .func (.func 33) #[] #[.pointer (some ⟨pf, 0, none⟩), .pointer (some ⟨pa, 0, none⟩), .pointer (some ⟨pt_, 0, none⟩), .pointer (some ⟨po, 0, none⟩)]] w (TellR a v acc t w) := by
  have HF := Aside0.mk hT
  clear hT
  induction T with
  | leaf i t h0 h1 hn =>
    intro base g rv root W0 w v acc h hbel hb0 hI hl
    obtain ⟨A, c, hv, hc, hc0, hc1, hf0, hf1, hrd⟩ := (h.below hbel).open_
    obtain ⟨ad, A5, c5, rfl, x0, x1, x2, x3, x4, x5, l5, t5, n5⟩ := at_node hrd i h0 h1
    rw [hn] at x0 x1 x2 x3 x4 x5 l5 t5
    have HL := Aside0.mk hl
    have HT5 : Aside0 (RI w A5 t) := ⟨t5.ri (show t.length ≤ _ by omega)⟩
    have HL5 : Aside0 (t.length ≤ c5) := ⟨l5⟩
    have HI := Aside0.mk hI
    have HW : Aside0 (Below w.heap.size w (w.alloc (.cells #[.int .i64 t.length, .int .i64 (nl t), .int .i64 (ub t), .int .i64 (-1), .int .i64 (-1), .slice A5 t.length c5] 67))) := ⟨below_alloc (Below.refl _ _) _⟩
    have HBW : Aside0 (a.b0 ≤ w.heap.size) := ⟨by rw [hb0]; exact hbel.size⟩
    clear h hrd l5 t5 n5 hv hn hbel hb0 hI hl
    replace h0 := eq_true h0
    replace h1 := eq_true h1
    go_enter Try.func32, Try.ntmps32
    go_wp2_with (go_at_call 33; refine (HF.out _ v acc A5 t c5 (a.bel _ _ _ _ HI.out HW.out) (HT5.out.below HW.out) HL5.out HL.out).mono ?_; rintro e w1 ⟨v1, rfl, hI1, hM1⟩)
    go_end0
    exact ⟨v1, rfl, hI1, (Mg.of_below HW.out HBW.out).trans hM1⟩
  | two i l r u s t h0 h1 hn hu hl hr hs ht ps pt ihs iht =>
    intro base g rv root W0 w v acc h hbel hb0 hI hlen
    obtain ⟨A, c, hv, hc, hc0, hc1, hf0, hf1, hrd⟩ := (h.below hbel).open_
    obtain ⟨ad, A5, c5, rfl, x0, x1, x2, x3, x4, x5, l5, t5, n5⟩ := at_node hrd i h0 h1
    rw [hn] at x0 x1 x2 x3 x4 x5 n5
    have hl0 := hs.ix.1
    obtain ⟨rfl, _, rfl⟩ := n5 (show l ≠ -1 by omega)
    have x5' : w.cell? ⟨(ad.add (i.toNat * 6)).block, (ad.add (i.toNat * 6)).off + 5, none⟩ = some (.slice none 0 0) := x5
    have H := Aside0.mk h
    have HIS := Aside0.mk ihs
    have HIT := Aside0.mk iht
    have HU := Aside0.mk hu
    have HI := Aside0.mk hI
    have HEQ := Aside0.mk hb0
    have HBEL := Aside0.mk hbel
    have hul : u.length = s.length + t.length := by rw [hu, List.length_append]
    have HL : Aside0 (acc.length + s.length ≤ 1000000 ∧ (acc ++ s).length + t.length ≤ 1000000) := ⟨by rw [List.length_append]; omega⟩
    have hlb : (l == -1) = false := beq_eq_false_iff_ne.mpr (by omega)
    have HB0 : Aside0 ((w.alloc (.cells #[.int .i64 u.length, .int .i64 (nl u), .int .i64 (ub u), .int .i64 l, .int .i64 r, .slice none 0 0] 67)).heap[w.heap.size]? = some (.cells #[.int .i64 u.length, .int .i64 (nl u), .int .i64 (ub u), .int .i64 l, .int .i64 r, .slice none 0 0] 67)) := ⟨blk_new w _⟩
    have HW : Aside0 (Below w.heap.size w (w.alloc (.cells #[.int .i64 u.length, .int .i64 (nl u), .int .i64 (ub u), .int .i64 l, .int .i64 r, .slice none 0 0] 67))) := ⟨below_alloc (Below.refl _ _) _⟩
    have HBW : Aside0 (a.b0 ≤ w.heap.size) := ⟨by rw [hb0]; exact hbel.size⟩
    have HLT : Aside0 (¬ a.G w.heap.size ∧ some w.heap.size ≠ v.ownBlock) := ⟨fun hg => Nat.lt_irrefl _ (a.lt _ _ _ _ hI (.inl hg)).2, fun hg => Nat.lt_irrefl _ (a.lt _ _ _ _ hI (.inr hg)).2⟩
    clear h hrd x5 l5 t5 n5 hv hu hs ht ihs iht hn hbel hb0 hI hlen hul
    replace h0 := eq_true h0
    replace h1 := eq_true h1
    go_enter Try.func32, Try.ntmps32
    go_wp2_with fail
    refine (HIS.out base g rv root W0 _ v acc H.out (below_then HBEL.out HBEL.out.size HW.out) HEQ.out (a.bel _ _ _ _ HI.out HW.out) HL.out.1).mono ?_
    rintro e w1 ⟨v1, rfl, hI1, hM1⟩
    have HI1 := Aside0.mk hI1
    have HM1 := Aside0.mk ((Mg.of_below HW.out HBW.out).trans hM1)
    have HB1 : Aside0 (w1.heap[w.heap.size]? = some (.cells #[.int .i64 u.length, .int .i64 (nl u), .int .i64 (ub u), .int .i64 l, .int .i64 r, .slice none 0 0] 67)) := ⟨(hM1.keep _ (blk_lt HB0.out) HLT.out.1 HLT.out.2).trans HB0.out⟩
    have hk4 : w1.cell? ⟨w.heap.size, 4, none⟩ = some (.int .i64 r) := (blk_cell HB1.out 4).trans rfl
    clear hI1 hM1
    go_wp2_with fail
    refine (HIT.out base g rv root W0 _ v1 (acc ++ s) H.out (HBEL.out.trans (by rw [← HEQ.out]; exact HM1.out.below)) HEQ.out HI1.out HL.out.2).mono ?_
    rintro e w2 ⟨v2, rfl, hI2, hM2⟩
    have HI2 := Aside0.mk hI2
    have HM2 := Aside0.mk (HM1.out.trans hM2)
    clear hI2 hM2
    go_wp2_with fail
    go_end0
    exact ⟨v2, rfl, by rw [HU.out, ← List.append_assoc]; exact HI2.out, HM2.out⟩

end Go.Proofs.Ytepcdjkpmchobaa.Rope
