/- rope.ahead counts what lies ahead of a place. -/
import Derived.Laws.Cover3
import Derived.Test.YtepcdjkpmchobaaRopeR
namespace Go.Proofs.Ytepcdjkpmchobaa.Rope
open Go.RowKit Go.Proofs.YtepcdjkpmchobaaW.PrintWords Go.Proofs.YtepcdjkpmchobaaW.PrintLast Go.Proofs.YtepcdjkpmchobaaW.PrintMore
attribute [local go_sem] max2_int min2_int max_two min_two max_three min_three max_four min_four
set_option linter.unusedVariables false
set_option linter.unusedSimpArgs false

/-- What ahead comes to: what is counted of s. -/
def AheadR (s : List Int) (W : World) (e : Ending) (w' : World) : Prop := e = .returned (.agg #[.int .i64 s.length, .int .i64 (nl s), .int .i64 (ub s)]) ∧ Below W.heap.size W w'
def aheadA.T4 : Bool × List (List Nat × List Nat) := (true, [([], []), ([0], [0]), ([1], [1]), ([2], [2]), ([], []), ([4], [4]), ([3, 5], [3, 5]), ([6], [6]), ([7], [7]), ([8], [8]), ([9, 0, 1, 2, 3, 4, 5, 6, 7, 8, 9], [9])])
def aheadA.B4 : List Nat := [0, 1, 3, 7, 0, 16, 63, 127, 255, 511, 1023]
theorem aheadA.tab4 : rtab .any (opsOf Try.f43 4) = aheadA.T4 := by kernel_rfl
theorem aheadA.bits4 : waitsOk aheadA.T4.2 aheadA.B4 = true := by kernel_rfl
def aheadB.T6 : Bool × List (List Nat × List Nat) := (true, [([], []), ([0], [0]), ([1], [1]), ([2], [2]), ([], []), ([4], [4]), ([3, 5], [3, 5]), ([6], [6]), ([7], [7]), ([], []), ([], []), ([10], [10]), ([], []), ([], []), ([12, 13], [12, 13]), ([9, 11, 14], [9, 11, 14]), ([8, 15, 15], [8, 15]), ([16, 16, 0, 1, 2, 3, 4, 5, 6, 7, 8, 9, 10, 11, 12, 13, 14, 15, 16], [16])])
def aheadB.B6 : List Nat := [0, 1, 3, 7, 0, 16, 63, 127, 255, 0, 0, 1024, 0, 0, 12288, 32256, 65535, 131071]
theorem aheadB.tab6 : rtab .any (opsOf Try.f43 6) = aheadB.T6 := by kernel_rfl
theorem aheadB.bits6 : waitsOk aheadB.T6.2 aheadB.B6 = true := by kernel_rfl

set_option maxHeartbeats 4000000 in
theorem ahead_calls {ns : List Node} {i : Int} {t : List Int} (T : Tree ns i t) : ∀ (base g : Nat) (v : Value) (root p : Int) (W : World), RopeAt base W g v ns root → 0 ≤ p → p ≤ t.length → t.length ≤ 2000 →
    Calls Try.prog 43 #[.pointer (some ⟨g, 0, none⟩), .int .i64 i, .int .i64 p] W (AheadR (t.take p.toNat) W) := by
  induction T with
  | leaf i t h0 h1 hn =>
    intro base g v root p W h p0 p1 hlen
    obtain ⟨A, c, hv, hc, hc0, hc1, hf0, hf1, hrd⟩ := (h.alloc (.cells #[.int .i64 0, .int .i64 0, .int .i64 0] 64)).open_
    obtain ⟨ad, A5, c5, rfl, x0, x1, x2, x3, x4, x5, l5, t5, n5⟩ := at_node hrd i h0 h1
    rw [hn] at x0 x1 x2 x3 x4 x5 l5 t5
    have HT5 : Aside0 (RI (W.alloc (.cells #[.int .i64 0, .int .i64 0, .int .i64 0] 64)) A5 t) := ⟨t5.ri (show t.length ≤ _ by omega)⟩
    have HZ0 : Aside0 (((W.alloc (.cells #[.int .i64 0, .int .i64 0, .int .i64 0] 64)).alloc (.cells #[.int .i64 t.length, .int .i64 (nl t), .int .i64 (ub t), .int .i64 (-1), .int .i64 (-1), .slice A5 t.length c5] 67)).heap[W.heap.size]? = some (.cells #[.int .i64 0, .int .i64 0, .int .i64 0] 64)) := ⟨blk_alloc (blk_new W _) _⟩
    have HWD : Aside0 (Below W.heap.size W ((W.alloc (.cells #[.int .i64 0, .int .i64 0, .int .i64 0] 64)).alloc (.cells #[.int .i64 t.length, .int .i64 (nl t), .int .i64 (ub t), .int .i64 (-1), .int .i64 (-1), .slice A5 t.length c5] 67))) := ⟨below_alloc (below_alloc (Below.refl _ _) _) _⟩
    have HX : Aside0 (Below (W.alloc (.cells #[.int .i64 0, .int .i64 0, .int .i64 0] 64)).heap.size (W.alloc (.cells #[.int .i64 0, .int .i64 0, .int .i64 0] 64)) ((W.alloc (.cells #[.int .i64 0, .int .i64 0, .int .i64 0] 64)).alloc (.cells #[.int .i64 t.length, .int .i64 (nl t), .int .i64 (ub t), .int .i64 (-1), .int .i64 (-1), .slice A5 t.length c5] 67))) := ⟨below_alloc (Below.refl _ _) _⟩
    have hsl := slice_hi A5 c5 t p p0 p1 l5
    have hct := fun w hw => count_calls (t.take p.toNat) A5 c5 w hw (by rw [List.length_take]; omega)
    obtain ⟨n0, hn0⟩ : ∃ n : Nat, (t.take p.toNat).length = n := ⟨_, rfl⟩
    rw [hn0] at hsl
    simp only [hn0] at hct
    have HCT := Aside0.mk hct
    have HE := Aside0.mk hn0
    clear h hrd t5 n5 hv hn hct hn0
    replace h0 := eq_true h0
    replace h1 := eq_true h1
    go_enter Try.func43, Try.ntmps43
    go_wp2_with fail
    refine (HCT.out _ (Kd.C_take (HT5.out.below HX.out) (by omega))).mono ?_
    rintro e w1 ⟨rfl, hb1⟩
    have HZ1 := Aside0.mk (blk_below HZ0.out hb1)
    have HW1 := Aside0.mk (below_then HWD.out HWD.out.size hb1)
    have hf0' := blk_frozen HZ1.out 0
    have hf1' := blk_frozen HZ1.out 1
    have hf2' := blk_frozen HZ1.out 2
    have hz0 := (blk_cell HZ1.out 0).trans rfl
    have hz1 := (blk_cell HZ1.out 1).trans rfl
    have hz2 := (blk_cell HZ1.out 2).trans rfl
    clear hb1
    go_wp2_with fail
    have HP := Aside0.mk (blk_put (blk_put (blk_put HZ1.out 0 (.int .i64 n0) rfl) 1 (.int .i64 (nl (t.take p.toNat))) rfl) 2 (.int .i64 (ub (t.take p.toNat))) rfl)
    refine bodyPost_ret (results_cell_row rfl _ _ W.heap.size 64 #[.int .i64 n0, .int .i64 (nl (t.take p.toNat)), .int .i64 (ub (t.take p.toNat))] (0, 0) _ rfl HP.out Try.underlying64 rfl (by kernel_rfl)) rfl ⟨by rw [HE.out], ((HW1.out.setCell (Nat.le_refl _) _).setCell (Nat.le_refl _) _).setCell (Nat.le_refl _) _⟩
  | two i l r u s t h0 h1 hn hu hl hr hs ht ps pt ihs iht =>
    intro base g v root p W h p0 p1 hlen
    obtain ⟨A, c, hv, hc, hc0, hc1, hf0, hf1, hrd⟩ := (h.alloc (.cells #[.int .i64 0, .int .i64 0, .int .i64 0] 64)).open_
    obtain ⟨ad, A5, c5, rfl, x0, x1, x2, x3, x4, x5, l5, t5, n5⟩ := at_node hrd i h0 h1
    obtain ⟨ad', A6, c6, he, y0, y1, y2, y3, y4, y5, l6, t6, n6⟩ := at_node hrd l hs.ix.1 hs.ix.2
    injection he with he
    subst he
    rw [hs.sum.1] at y0
    rw [hs.sum.2.1] at y1
    rw [hs.sum.2.2] at y2
    rw [hn] at x0 x1 x2 x3 x4 x5 n5
    have hl0 := hs.ix.1
    have hr0 := ht.ix.1
    obtain ⟨rfl, _, rfl⟩ := n5 (show l ≠ -1 by omega)
    have x5' : (W.alloc (.cells #[.int .i64 0, .int .i64 0, .int .i64 0] 64)).cell? ⟨(ad.add (i.toNat * 6)).block, (ad.add (i.toNat * 6)).off + 5, none⟩ = some (.slice none 0 0) := x5
    have H := Aside0.mk h
    have HU := Aside0.mk hu
    have hul : u.length = s.length + t.length := by rw [hu, List.length_append]
    have HUL := Aside0.mk hul
    have HS := Aside0.mk hs
    have HIS := Aside0.mk ihs
    have HIT := Aside0.mk iht
    have hlb : (l == -1) = false := beq_eq_false_iff_ne.mpr (by omega)
    have HB0 : Aside0 (((W.alloc (.cells #[.int .i64 0, .int .i64 0, .int .i64 0] 64)).alloc (.cells #[.int .i64 u.length, .int .i64 (nl u), .int .i64 (ub u), .int .i64 l, .int .i64 r, .slice none 0 0] 67)).heap[W.heap.size + 1]? = some (.cells #[.int .i64 u.length, .int .i64 (nl u), .int .i64 (ub u), .int .i64 l, .int .i64 r, .slice none 0 0] 67)) := ⟨by simpa using blk_new (W.alloc (.cells #[.int .i64 0, .int .i64 0, .int .i64 0] 64)) (.cells #[.int .i64 u.length, .int .i64 (nl u), .int .i64 (ub u), .int .i64 l, .int .i64 r, .slice none 0 0] 67)⟩
    have HZ0 : Aside0 (((W.alloc (.cells #[.int .i64 0, .int .i64 0, .int .i64 0] 64)).alloc (.cells #[.int .i64 u.length, .int .i64 (nl u), .int .i64 (ub u), .int .i64 l, .int .i64 r, .slice none 0 0] 67)).heap[W.heap.size]? = some (.cells #[.int .i64 0, .int .i64 0, .int .i64 0] 64)) := ⟨blk_alloc (blk_new W _) _⟩
    have HWD : Aside0 (Below (W.alloc (.cells #[.int .i64 0, .int .i64 0, .int .i64 0] 64)).heap.size (W.alloc (.cells #[.int .i64 0, .int .i64 0, .int .i64 0] 64)) (((W.alloc (.cells #[.int .i64 0, .int .i64 0, .int .i64 0] 64)).alloc (.cells #[.int .i64 u.length, .int .i64 (nl u), .int .i64 (ub u), .int .i64 l, .int .i64 r, .slice none 0 0] 67)).drew)) := ⟨(below_alloc (Below.refl _ _) _).drew⟩
    have HWF : Aside0 (Below W.heap.size W (((W.alloc (.cells #[.int .i64 0, .int .i64 0, .int .i64 0] 64)).alloc (.cells #[.int .i64 u.length, .int .i64 (nl u), .int .i64 (ub u), .int .i64 l, .int .i64 r, .slice none 0 0] 67)).drew)) := ⟨(below_alloc (below_alloc (Below.refl _ _) _) _).drew⟩
    clear h hrd x5 l5 t5 n5 y3 y4 y5 l6 t6 n6 hv hu hs ht ihs iht hul hn
    have hsl2 : s.length ≤ 2000 := by have := HUL.out; omega
    have htl2 : t.length ≤ 2000 := by have := HUL.out; omega
    have hul2 : (u.length : Int) ≤ 2000 := by omega
    replace h0 := eq_true h0
    replace h1 := eq_true h1
    have q0 := eq_true HS.out.ix.1
    have q1 := eq_true HS.out.ix.2
    by_cases hp : (s.length : Int) < p
    · have hpd : decide ((s.length : Int) < p) = true := decide_eq_true hp
      go_enter Try.func43, Try.ntmps43
      go_wp2_with fail
      refine start_ (n := 11) (S := fun w' => w'.cell? ⟨g, 0, none⟩ = some (.slice (some ad) ns.length c) ∧ w'.cell? ⟨W.heap.size + 1, 3, none⟩ = some (.int .i64 l) ∧ w'.cell? (ad.add (l.toNat * 6)) = some (.int .i64 s.length)) (ds := []) #[false, false, false, false, false, false, false, false, false, false, false] (by kernel_rfl) rfl rfl ⟨pw_cell_below HWD.out hc0, (blk_cell (blk_drew HB0.out) 3).trans rfl, pw_cell_below HWD.out y0⟩ (fun hHeld => ?_); refine with_tabW aheadA.tab4 aheadA.bits4 (fun HT_ HW_ => ?_)
      refine pure_ (i := 0) (N := some 24) (v := ?_) (a' := ?_) #[true, false, false, false, false, false, false, false, false, false, false] rfl rfl (any_of HT_.out (by kernel_rfl)) (fun _ _ _ h => h) (Or.inl ⟨by rfl, ?_⟩) ?_ ?_
      rotate_left
      · intro w'
        go_simp
        with_reducible rfl
      rotate_left
      · simp only [Act.put, List.setIfInBounds_toArray, List.set_cons_zero, List.set_cons_succ, i64_w, i32_w]
        rfl
      refine pure_ (i := 1) (N := some 25) (v := ?_) (a' := ?_) #[true, true, false, false, false, false, false, false, false, false, false] rfl rfl (any_of HT_.out (by kernel_rfl)) (fun _ _ _ h => h) (Or.inl ⟨by rfl, ?_⟩) ?_ ?_
      rotate_left
      · intro w'
        go_simp
        with_reducible rfl
      rotate_left
      · simp only [Act.put, List.setIfInBounds_toArray, List.set_cons_zero, List.set_cons_succ, i64_w, i32_w]
        rfl
      refine pure_ (i := 2) (N := some 26) (v := ?_) (a' := ?_) #[true, true, true, false, false, false, false, false, false, false, false] rfl rfl (any_of HT_.out (by kernel_rfl)) (fun _ _ _ h => h) (Or.inl ⟨by rfl, ?_⟩) ?_ ?_
      rotate_left
      · intro w'
        go_simp
        with_reducible rfl
      rotate_left
      · simp only [Act.put, List.setIfInBounds_toArray, List.set_cons_zero, List.set_cons_succ, i64_w, i32_w]
        rfl
      refine take_ (i := 3) (N := some 27) (v := ?_) (a' := ?_) #[true, true, true, true, false, false, false, false, false, false, false] rfl rfl (take_ofW HT_.out HW_.out (by kernel_rfl)) (fun _ _ _ h => h) (Or.inl ⟨by rfl, ?_⟩) hHeld ?_ ?_
      rotate_left
      · rintro w' ⟨s0, s1, s2⟩
        go_simp
        with_reducible rfl
      rotate_left
      · simp only [Act.put, List.setIfInBounds_toArray, List.set_cons_zero, List.set_cons_succ, i64_w, i32_w]
        rfl
      refine pure_ (i := 4) (N := some 28) (v := ?_) (a' := ?_) #[true, true, true, true, true, false, false, false, false, false, false] rfl rfl (any_of HT_.out (by kernel_rfl)) (fun _ _ _ h => h) (Or.inl ⟨by rfl, ?_⟩) ?_ ?_
      rotate_left
      · intro w'
        go_simp
        with_reducible rfl
      rotate_left
      · simp only [Act.put, List.setIfInBounds_toArray, List.set_cons_zero, List.set_cons_succ, i64_w, i32_w]
        rfl
      refine take_ (i := 5) (N := some 29) (v := ?_) (a' := ?_) #[true, true, true, true, true, true, false, false, false, false, false] rfl rfl (take_ofW HT_.out HW_.out (by kernel_rfl)) (fun _ _ _ h => h) (Or.inl ⟨by rfl, ?_⟩) hHeld ?_ ?_
      rotate_left
      · rintro w' ⟨s0, s1, s2⟩
        go_simp
        with_reducible rfl
      rotate_left
      · simp only [Act.put, List.setIfInBounds_toArray, List.set_cons_zero, List.set_cons_succ, i64_w, i32_w]
        rfl
      refine pure_ (i := 6) (N := some 30) (v := ?_) (a' := ?_) #[true, true, true, true, true, true, true, false, false, false, false] rfl rfl (any_of HT_.out (by kernel_rfl)) (fun _ _ _ h => h) (Or.inl ⟨by rfl, ?_⟩) ?_ ?_
      rotate_left
      · intro w'
        go_simp
        with_reducible rfl
      rotate_left
      · simp only [Act.put, List.setIfInBounds_toArray, List.set_cons_zero, List.set_cons_succ, i64_w, i32_w]
        rfl
      refine pure_ (i := 7) (N := some 31) (v := ?_) (a' := ?_) #[true, true, true, true, true, true, true, true, false, false, false] rfl rfl (any_of HT_.out (by kernel_rfl)) (fun _ _ _ h => h) (Or.inl ⟨by rfl, ?_⟩) ?_ ?_
      rotate_left
      · intro w'
        go_simp
        with_reducible rfl
      rotate_left
      · simp only [Act.put, List.setIfInBounds_toArray, List.set_cons_zero, List.set_cons_succ, i64_w, i32_w]
        rfl
      refine pure_ (i := 8) (N := some 32) (v := ?_) (a' := ?_) #[true, true, true, true, true, true, true, true, true, false, false] rfl rfl (any_of HT_.out (by kernel_rfl)) (fun _ _ _ h => h) (Or.inl ⟨by rfl, ?_⟩) ?_ ?_
      rotate_left
      · intro w'
        go_simp
        with_reducible rfl
      rotate_left
      · simp only [Act.put, List.setIfInBounds_toArray, List.set_cons_zero, List.set_cons_succ, i64_w, i32_w]
        rfl
      refine take_ (i := 9) (N := some 33) (v := ?_) (a' := ?_) #[true, true, true, true, true, true, true, true, true, true, false] rfl rfl (take_ofW HT_.out HW_.out (by kernel_rfl)) (fun _ _ _ h => h) (Or.inl ⟨by rfl, ?_⟩) hHeld ?_ ?_
      rotate_left
      · rintro w' ⟨s0, s1, s2⟩
        go_simp
        with_reducible rfl
      rotate_left
      · simp only [Act.put, List.setIfInBounds_toArray, List.set_cons_zero, List.set_cons_succ, i64_w, i32_w]
        rfl
      refine pure_ (i := 10) (N := some 8) (v := ?_) (a' := ?_) #[true, true, true, true, true, true, true, true, true, true, true] rfl rfl (any_of HT_.out (by kernel_rfl)) (fun _ _ _ h => h) (Or.inl ⟨by rfl, ?_⟩) ?_ ?_
      rotate_left
      · intro w'
        go_simp
        with_reducible rfl
      rotate_left
      · simp only [Act.put, List.setIfInBounds_toArray, List.set_cons_zero, List.set_cons_succ, i64_w, i32_w]
        rfl
      refine done_ (done_of HT_.out (by kernel_rfl)) ?_
      skip
      go_wp2_with fail
      have DR : Aside0 (Below (((W.alloc (.cells #[.int .i64 0, .int .i64 0, .int .i64 0] 64)).alloc (.cells #[.int .i64 u.length, .int .i64 (nl u), .int .i64 (ub u), .int .i64 l, .int .i64 r, .slice none 0 0] 67)).drew).heap.size (((W.alloc (.cells #[.int .i64 0, .int .i64 0, .int .i64 0] 64)).alloc (.cells #[.int .i64 u.length, .int .i64 (nl u), .int .i64 (ub u), .int .i64 l, .int .i64 r, .slice none 0 0] 67)).drew) (((W.alloc (.cells #[.int .i64 0, .int .i64 0, .int .i64 0] 64)).alloc (.cells #[.int .i64 u.length, .int .i64 (nl u), .int .i64 (ub u), .int .i64 l, .int .i64 r, .slice none 0 0] 67)).drew.drew)) := ⟨(Below.refl _ _).drew⟩
      have HWE : Aside0 (Below W.heap.size W (((W.alloc (.cells #[.int .i64 0, .int .i64 0, .int .i64 0] 64)).alloc (.cells #[.int .i64 u.length, .int .i64 (nl u), .int .i64 (ub u), .int .i64 l, .int .i64 r, .slice none 0 0] 67)).drew.drew)) := ⟨HWF.out.drew⟩
      replace hc0 := pw_cell_below HWD.out hc0
      replace y0 := pw_cell_below HWD.out y0
      replace y1 := pw_cell_below HWD.out y1
      replace y2 := pw_cell_below HWD.out y2
      clear x0 x1 x2 x3 x4 x5' hc1 hf0 hf1
      refine start_ (n := 18) (S := fun w' => w'.cell? ⟨g, 0, none⟩ = some (.slice (some ad) ns.length c) ∧ w'.cell? ⟨W.heap.size + 1, 3, none⟩ = some (.int .i64 l) ∧ w'.cell? ⟨W.heap.size + 1, 4, none⟩ = some (.int .i64 r) ∧ w'.cell? (ad.add (l.toNat * 6)) = some (.int .i64 s.length) ∧ w'.cell? ⟨(ad.add (l.toNat * 6)).block, (ad.add (l.toNat * 6)).off + 1, none⟩ = some (.int .i64 (nl s)) ∧ w'.cell? ⟨(ad.add (l.toNat * 6)).block, (ad.add (l.toNat * 6)).off + 2, none⟩ = some (.int .i64 (ub s))) (ds := [16, 17]) #[false, false, false, false, false, false, false, false, false, false, false, false, false, false, false, false, false, false] (by kernel_rfl) rfl rfl ⟨pw_cell_below DR.out hc0, (blk_cell (blk_drew (blk_drew HB0.out)) 3).trans rfl, (blk_cell (blk_drew (blk_drew HB0.out)) 4).trans rfl, pw_cell_below DR.out y0, pw_cell_below DR.out y1, pw_cell_below DR.out y2⟩ (fun hHeld => ?_); refine with_tabW aheadB.tab6 aheadB.bits6 (fun HT_ HW_ => ?_)
      refine pure_ (i := 0) (N := some 37) (v := ?_) (a' := ?_) #[true, false, false, false, false, false, false, false, false, false, false, false, false, false, false, false, false, false] rfl rfl (any_of HT_.out (by kernel_rfl)) (fun _ _ _ h => h) (Or.inl ⟨by rfl, ?_⟩) ?_ ?_
      rotate_left
      · intro w'
        go_simp
        with_reducible rfl
      rotate_left
      · simp only [Act.put, List.setIfInBounds_toArray, List.set_cons_zero, List.set_cons_succ, i64_w, i32_w]
        rfl
      refine pure_ (i := 1) (N := some 38) (v := ?_) (a' := ?_) #[true, true, false, false, false, false, false, false, false, false, false, false, false, false, false, false, false, false] rfl rfl (any_of HT_.out (by kernel_rfl)) (fun _ _ _ h => h) (Or.inl ⟨by rfl, ?_⟩) ?_ ?_
      rotate_left
      · intro w'
        go_simp
        with_reducible rfl
      rotate_left
      · simp only [Act.put, List.setIfInBounds_toArray, List.set_cons_zero, List.set_cons_succ, i64_w, i32_w]
        rfl
      refine pure_ (i := 2) (N := some 39) (v := ?_) (a' := ?_) #[true, true, true, false, false, false, false, false, false, false, false, false, false, false, false, false, false, false] rfl rfl (any_of HT_.out (by kernel_rfl)) (fun _ _ _ h => h) (Or.inl ⟨by rfl, ?_⟩) ?_ ?_
      rotate_left
      · intro w'
        go_simp
        with_reducible rfl
      rotate_left
      · simp only [Act.put, List.setIfInBounds_toArray, List.set_cons_zero, List.set_cons_succ, i64_w, i32_w]
        rfl
      refine take_ (i := 3) (N := some 40) (v := ?_) (a' := ?_) #[true, true, true, true, false, false, false, false, false, false, false, false, false, false, false, false, false, false] rfl rfl (take_ofW HT_.out HW_.out (by kernel_rfl)) (fun _ _ _ h => h) (Or.inl ⟨by rfl, ?_⟩) hHeld ?_ ?_
      rotate_left
      · rintro w' ⟨s0, s1, s2, s3, s4, s5⟩
        go_simp
        with_reducible rfl
      rotate_left
      · simp only [Act.put, List.setIfInBounds_toArray, List.set_cons_zero, List.set_cons_succ, i64_w, i32_w]
        rfl
      refine pure_ (i := 4) (N := some 41) (v := ?_) (a' := ?_) #[true, true, true, true, true, false, false, false, false, false, false, false, false, false, false, false, false, false] rfl rfl (any_of HT_.out (by kernel_rfl)) (fun _ _ _ h => h) (Or.inl ⟨by rfl, ?_⟩) ?_ ?_
      rotate_left
      · intro w'
        go_simp
        with_reducible rfl
      rotate_left
      · simp only [Act.put, List.setIfInBounds_toArray, List.set_cons_zero, List.set_cons_succ, i64_w, i32_w]
        rfl
      refine take_ (i := 5) (N := some 42) (v := ?_) (a' := ?_) #[true, true, true, true, true, true, false, false, false, false, false, false, false, false, false, false, false, false] rfl rfl (take_ofW HT_.out HW_.out (by kernel_rfl)) (fun _ _ _ h => h) (Or.inl ⟨by rfl, ?_⟩) hHeld ?_ ?_
      rotate_left
      · rintro w' ⟨s0, s1, s2, s3, s4, s5⟩
        go_simp
        with_reducible rfl
      rotate_left
      · simp only [Act.put, List.setIfInBounds_toArray, List.set_cons_zero, List.set_cons_succ, i64_w, i32_w]
        rfl
      refine pure_ (i := 6) (N := some 43) (v := ?_) (a' := ?_) #[true, true, true, true, true, true, true, false, false, false, false, false, false, false, false, false, false, false] rfl rfl (any_of HT_.out (by kernel_rfl)) (fun _ _ _ h => h) (Or.inl ⟨by rfl, ?_⟩) ?_ ?_
      rotate_left
      · intro w'
        go_simp
        with_reducible rfl
      rotate_left
      · simp only [Act.put, List.setIfInBounds_toArray, List.set_cons_zero, List.set_cons_succ, i64_w, i32_w]
        rfl
      refine pure_ (i := 7) (N := some 44) (v := ?_) (a' := ?_) #[true, true, true, true, true, true, true, true, false, false, false, false, false, false, false, false, false, false] rfl rfl (any_of HT_.out (by kernel_rfl)) (fun _ _ _ h => h) (Or.inl ⟨by rfl, ?_⟩) ?_ ?_
      rotate_left
      · intro w'
        go_simp
        with_reducible rfl
      rotate_left
      · simp only [Act.put, List.setIfInBounds_toArray, List.set_cons_zero, List.set_cons_succ, i64_w, i32_w]
        rfl
      refine take_ (i := 8) (N := some 45) (v := ?_) (a' := ?_) #[true, true, true, true, true, true, true, true, true, false, false, false, false, false, false, false, false, false] rfl rfl (take_ofW HT_.out HW_.out (by kernel_rfl)) (fun _ _ _ h => h) (Or.inl ⟨by rfl, ?_⟩) hHeld ?_ ?_
      rotate_left
      · rintro w' ⟨s0, s1, s2, s3, s4, s5⟩
        go_simp
        with_reducible rfl
      rotate_left
      · simp only [Act.put, List.setIfInBounds_toArray, List.set_cons_zero, List.set_cons_succ, i64_w, i32_w]
        rfl
      refine pure_ (i := 9) (N := some 46) (v := ?_) (a' := ?_) #[true, true, true, true, true, true, true, true, true, true, false, false, false, false, false, false, false, false] rfl rfl (any_of HT_.out (by kernel_rfl)) (fun _ _ _ h => h) (Or.inl ⟨by rfl, ?_⟩) ?_ ?_
      rotate_left
      · intro w'
        go_simp
        with_reducible rfl
      rotate_left
      · simp only [Act.put, List.setIfInBounds_toArray, List.set_cons_zero, List.set_cons_succ, i64_w, i32_w]
        rfl
      refine pure_ (i := 10) (N := some 47) (v := ?_) (a' := ?_) #[true, true, true, true, true, true, true, true, true, true, true, false, false, false, false, false, false, false] rfl rfl (any_of HT_.out (by kernel_rfl)) (fun _ _ _ h => h) (Or.inl ⟨by rfl, ?_⟩) ?_ ?_
      rotate_left
      · intro w'
        go_simp
        with_reducible rfl
      rotate_left
      · simp only [Act.put, List.setIfInBounds_toArray, List.set_cons_zero, List.set_cons_succ, i64_w, i32_w]
        rfl
      refine take_ (i := 11) (N := some 48) (v := ?_) (a' := ?_) #[true, true, true, true, true, true, true, true, true, true, true, true, false, false, false, false, false, false] rfl rfl (take_ofW HT_.out HW_.out (by kernel_rfl)) (fun _ _ _ h => h) (Or.inl ⟨by rfl, ?_⟩) hHeld ?_ ?_
      rotate_left
      · rintro w' ⟨s0, s1, s2, s3, s4, s5⟩
        go_simp
        with_reducible rfl
      rotate_left
      · simp only [Act.put, List.setIfInBounds_toArray, List.set_cons_zero, List.set_cons_succ, i64_w, i32_w]
        rfl
      refine pure_ (i := 12) (N := some 49) (v := ?_) (a' := ?_) #[true, true, true, true, true, true, true, true, true, true, true, true, true, false, false, false, false, false] rfl rfl (any_of HT_.out (by kernel_rfl)) (fun _ _ _ h => h) (Or.inl ⟨by rfl, ?_⟩) ?_ ?_
      rotate_left
      · intro w'
        go_simp
        with_reducible rfl
      rotate_left
      · simp only [Act.put, List.setIfInBounds_toArray, List.set_cons_zero, List.set_cons_succ, i64_w, i32_w]
        rfl
      refine pure_ (i := 13) (N := some 50) (v := ?_) (a' := ?_) #[true, true, true, true, true, true, true, true, true, true, true, true, true, true, false, false, false, false] rfl rfl (any_of HT_.out (by kernel_rfl)) (fun _ _ _ h => h) (Or.inl ⟨by rfl, ?_⟩) ?_ ?_
      rotate_left
      · intro w'
        go_simp
        with_reducible rfl
      rotate_left
      · simp only [Act.put, List.setIfInBounds_toArray, List.set_cons_zero, List.set_cons_succ, i64_w, i32_w]
        rfl
      refine pure_ (i := 14) (N := some 51) (v := .int .i64 (p - s.length)) (a' := ?paaheadB_14_1) #[true, true, true, true, true, true, true, true, true, true, true, true, true, true, true, false, false, false] rfl rfl (any_of HT_.out (by kernel_rfl)) (fun _ _ _ h => h) (Or.inl ⟨by rfl, ?pyaheadB_14_1⟩) ?peaheadB_14_1 ?praheadB_14_1
      case peaheadB_14_1 =>
        simp only [Act.put, List.setIfInBounds_toArray, List.set_cons_zero, List.set_cons_succ, i64_w, i32_w]
        rfl
      case pyaheadB_14_1 =>
        intro w'
        go_simp
        exact IntWalk.i64_in _ (by omega)
      refine one_ (i := 15) (N := some 52) #[true, true, true, true, true, true, true, true, true, true, true, true, true, true, true, true, false, false] rfl rfl (one_of HT_.out (by kernel_rfl)) (by decide) (fun K hK => ?_)
      refine goes_ Try.func43 (by kernel_rfl) rfl #[.pointer (some ⟨g, 0, none⟩), .int .i64 r, .int .i64 (p - s.length)] (by rfl) rfl rfl (by (try simp only [List.map_toArray, List.map_cons, List.map_nil]); first | done | rfl | (simp only [List.length_drop, List.length_take]; rfl)) ?_
      refine (HIT.out base g v root (p - s.length) _ (H.out.below HWE.out) (by omega) (by have := HUL.out; omega) htl2).mono ?_
      rintro e w' ⟨rfl, hb1⟩
      have HZ1 := Aside0.mk (blk_below (blk_drew (blk_drew HZ0.out)) hb1)
      have HB1 := Aside0.mk (blk_below (blk_drew (blk_drew HB0.out)) hb1)
      have HW1 := Aside0.mk (below_then HWE.out HWE.out.size hb1)
      have HH1 := Aside0.mk hb1
      clear hb1
      refine ⟨_, rfl, ?_⟩
      refine hK.out _ _ ⟨pw_cell_below HH1.out (pw_cell_below DR.out hc0), (blk_cell HB1.out 3).trans rfl, (blk_cell HB1.out 4).trans rfl, pw_cell_below HH1.out (pw_cell_below DR.out y0), pw_cell_below HH1.out (pw_cell_below DR.out y1), pw_cell_below HH1.out (pw_cell_below DR.out y2)⟩ (fun hHeld => ?_)
      clear hK K
      refine norm_ (a' := ?_) ?_ ?_
      rotate_left
      · show Act.put _ (some 52) _ = _
        simp only [Act.put, List.setIfInBounds_toArray, List.set_cons_zero, List.set_cons_succ, i64_w, i32_w]
        rfl
      refine last_ (i := 16) (N := some 53) #[true, true, true, true, true, true, true, true, true, true, true, true, true, true, true, true, true, false] rfl rfl (one_of HT_.out (by kernel_rfl)) (by decide) (fun K hK => ?_)
      refine goes_ Try.func42 (by kernel_rfl) rfl #[.agg #[.int .i64 s.length, .int .i64 (nl s), .int .i64 (ub s)], .agg #[.int .i64 (t.take (p - s.length).toNat).length, .int .i64 (nl (t.take (p - s.length).toNat)), .int .i64 (ub (t.take (p - s.length).toNat))]] (by rfl) rfl rfl (by (try simp only [List.map_toArray, List.map_cons, List.map_nil]); first | done | rfl) ?_
      have b1 := nl_le s
      have b2 := ub_le s
      have b3 := nl_le (t.take (p - s.length).toNat)
      have b4 := ub_le (t.take (p - s.length).toNat)
      have b5 : (t.take (p - s.length).toNat).length ≤ 2000 := by rw [List.length_take]; omega
      refine (and_calls _ _ _ _ _ _ _ (by omega) (by omega) (by omega) (by omega) (by omega) (by omega) (by omega) (by omega) (by omega) (by omega) (by omega) (by omega)).mono ?_
      rintro e w2 ⟨rfl, hb2⟩
      have HZ2 := Aside0.mk (blk_below HZ1.out hb2)
      have HW2 := Aside0.mk (below_then HW1.out HW1.out.size hb2)
      have hf0' := blk_frozen HZ2.out 0
      have hf1' := blk_frozen HZ2.out 1
      have hf2' := blk_frozen HZ2.out 2
      have hz0 := (blk_cell HZ2.out 0).trans rfl
      have hz1 := (blk_cell HZ2.out 1).trans rfl
      have hz2 := (blk_cell HZ2.out 2).trans rfl
      clear hb2 b1 b2 b3 b4 b5
      refine ⟨_, rfl, ?_⟩
      refine hK.out _ _ ?_
      clear hK K
      refine norm_ (a' := ?_) ?_ ?_
      rotate_left
      · show Act.put _ (some 53) _ = _
        simp only [Act.put, List.setIfInBounds_toArray, List.set_cons_zero, List.set_cons_succ, i64_w, i32_w]
        rfl
      refine last_ (i := 17) (N := none) #[true, true, true, true, true, true, true, true, true, true, true, true, true, true, true, true, true, true] rfl rfl (one_of HT_.out (by kernel_rfl)) (by decide) (fun K hK => ?_)
      refine skip_ (by rfl) rfl (w1 := ((w2.setCell ⟨W.heap.size, 0, none⟩ (.int .i64 ((s.length : Int) + (t.take (p - s.length).toNat).length))).setCell ⟨W.heap.size, 1, none⟩ (.int .i64 ((nl s : Int) + nl (t.take (p - s.length).toNat)))).setCell ⟨W.heap.size, 2, none⟩ (.int .i64 ((ub s : Int) + ub (t.take (p - s.length).toNat)))) ?hr ?_
      case hr => go_simp
      refine hK.out _ _ ?_
      clear hK K
      refine done_ (done_of HT_.out (by kernel_rfl)) ?_
      go_wp2_with fail
      have HP := Aside0.mk (blk_put (blk_put (blk_put HZ2.out 0 (.int .i64 ((s.length : Int) + (t.take (p - s.length).toNat).length)) rfl) 1 (.int .i64 ((nl s : Int) + nl (t.take (p - s.length).toNat))) rfl) 2 (.int .i64 ((ub s : Int) + ub (t.take (p - s.length).toNat))) rfl)
      refine bodyPost_ret (results_cell_row rfl _ _ W.heap.size 64 #[.int .i64 ((s.length : Int) + (t.take (p - s.length).toNat).length), .int .i64 ((nl s : Int) + nl (t.take (p - s.length).toNat)), .int .i64 ((ub s : Int) + ub (t.take (p - s.length).toNat))] (0, 0) _ rfl HP.out Try.underlying64 rfl (by kernel_rfl)) rfl ⟨?_, ((HW2.out.setCell (Nat.le_refl _) _).setCell (Nat.le_refl _) _).setCell (Nat.le_refl _) _⟩
      rw [HU.out, take_right hp, nl_append, ub_append, List.length_append]
      simp only [Int.natCast_add]
    · have hpd : decide ((s.length : Int) < p) = false := decide_eq_false hp
      go_enter Try.func43, Try.ntmps43
      go_wp2_with fail
      refine start_ (n := 11) (S := fun w' => w'.cell? ⟨g, 0, none⟩ = some (.slice (some ad) ns.length c) ∧ w'.cell? ⟨W.heap.size + 1, 3, none⟩ = some (.int .i64 l) ∧ w'.cell? (ad.add (l.toNat * 6)) = some (.int .i64 s.length)) (ds := []) #[false, false, false, false, false, false, false, false, false, false, false] (by kernel_rfl) rfl rfl ⟨pw_cell_below HWD.out hc0, (blk_cell (blk_drew HB0.out) 3).trans rfl, pw_cell_below HWD.out y0⟩ (fun hHeld => ?_); refine with_tabW aheadA.tab4 aheadA.bits4 (fun HT_ HW_ => ?_)
      refine pure_ (i := 0) (N := some 24) (v := ?_) (a' := ?_) #[true, false, false, false, false, false, false, false, false, false, false] rfl rfl (any_of HT_.out (by kernel_rfl)) (fun _ _ _ h => h) (Or.inl ⟨by rfl, ?_⟩) ?_ ?_
      rotate_left
      · intro w'
        go_simp
        with_reducible rfl
      rotate_left
      · simp only [Act.put, List.setIfInBounds_toArray, List.set_cons_zero, List.set_cons_succ, i64_w, i32_w]
        rfl
      refine pure_ (i := 1) (N := some 25) (v := ?_) (a' := ?_) #[true, true, false, false, false, false, false, false, false, false, false] rfl rfl (any_of HT_.out (by kernel_rfl)) (fun _ _ _ h => h) (Or.inl ⟨by rfl, ?_⟩) ?_ ?_
      rotate_left
      · intro w'
        go_simp
        with_reducible rfl
      rotate_left
      · simp only [Act.put, List.setIfInBounds_toArray, List.set_cons_zero, List.set_cons_succ, i64_w, i32_w]
        rfl
      refine pure_ (i := 2) (N := some 26) (v := ?_) (a' := ?_) #[true, true, true, false, false, false, false, false, false, false, false] rfl rfl (any_of HT_.out (by kernel_rfl)) (fun _ _ _ h => h) (Or.inl ⟨by rfl, ?_⟩) ?_ ?_
      rotate_left
      · intro w'
        go_simp
        with_reducible rfl
      rotate_left
      · simp only [Act.put, List.setIfInBounds_toArray, List.set_cons_zero, List.set_cons_succ, i64_w, i32_w]
        rfl
      refine take_ (i := 3) (N := some 27) (v := ?_) (a' := ?_) #[true, true, true, true, false, false, false, false, false, false, false] rfl rfl (take_ofW HT_.out HW_.out (by kernel_rfl)) (fun _ _ _ h => h) (Or.inl ⟨by rfl, ?_⟩) hHeld ?_ ?_
      rotate_left
      · rintro w' ⟨s0, s1, s2⟩
        go_simp
        with_reducible rfl
      rotate_left
      · simp only [Act.put, List.setIfInBounds_toArray, List.set_cons_zero, List.set_cons_succ, i64_w, i32_w]
        rfl
      refine pure_ (i := 4) (N := some 28) (v := ?_) (a' := ?_) #[true, true, true, true, true, false, false, false, false, false, false] rfl rfl (any_of HT_.out (by kernel_rfl)) (fun _ _ _ h => h) (Or.inl ⟨by rfl, ?_⟩) ?_ ?_
      rotate_left
      · intro w'
        go_simp
        with_reducible rfl
      rotate_left
      · simp only [Act.put, List.setIfInBounds_toArray, List.set_cons_zero, List.set_cons_succ, i64_w, i32_w]
        rfl
      refine take_ (i := 5) (N := some 29) (v := ?_) (a' := ?_) #[true, true, true, true, true, true, false, false, false, false, false] rfl rfl (take_ofW HT_.out HW_.out (by kernel_rfl)) (fun _ _ _ h => h) (Or.inl ⟨by rfl, ?_⟩) hHeld ?_ ?_
      rotate_left
      · rintro w' ⟨s0, s1, s2⟩
        go_simp
        with_reducible rfl
      rotate_left
      · simp only [Act.put, List.setIfInBounds_toArray, List.set_cons_zero, List.set_cons_succ, i64_w, i32_w]
        rfl
      refine pure_ (i := 6) (N := some 30) (v := ?_) (a' := ?_) #[true, true, true, true, true, true, true, false, false, false, false] rfl rfl (any_of HT_.out (by kernel_rfl)) (fun _ _ _ h => h) (Or.inl ⟨by rfl, ?_⟩) ?_ ?_
      rotate_left
      · intro w'
        go_simp
        with_reducible rfl
      rotate_left
      · simp only [Act.put, List.setIfInBounds_toArray, List.set_cons_zero, List.set_cons_succ, i64_w, i32_w]
        rfl
      refine pure_ (i := 7) (N := some 31) (v := ?_) (a' := ?_) #[true, true, true, true, true, true, true, true, false, false, false] rfl rfl (any_of HT_.out (by kernel_rfl)) (fun _ _ _ h => h) (Or.inl ⟨by rfl, ?_⟩) ?_ ?_
      rotate_left
      · intro w'
        go_simp
        with_reducible rfl
      rotate_left
      · simp only [Act.put, List.setIfInBounds_toArray, List.set_cons_zero, List.set_cons_succ, i64_w, i32_w]
        rfl
      refine pure_ (i := 8) (N := some 32) (v := ?_) (a' := ?_) #[true, true, true, true, true, true, true, true, true, false, false] rfl rfl (any_of HT_.out (by kernel_rfl)) (fun _ _ _ h => h) (Or.inl ⟨by rfl, ?_⟩) ?_ ?_
      rotate_left
      · intro w'
        go_simp
        with_reducible rfl
      rotate_left
      · simp only [Act.put, List.setIfInBounds_toArray, List.set_cons_zero, List.set_cons_succ, i64_w, i32_w]
        rfl
      refine take_ (i := 9) (N := some 33) (v := ?_) (a' := ?_) #[true, true, true, true, true, true, true, true, true, true, false] rfl rfl (take_ofW HT_.out HW_.out (by kernel_rfl)) (fun _ _ _ h => h) (Or.inl ⟨by rfl, ?_⟩) hHeld ?_ ?_
      rotate_left
      · rintro w' ⟨s0, s1, s2⟩
        go_simp
        with_reducible rfl
      rotate_left
      · simp only [Act.put, List.setIfInBounds_toArray, List.set_cons_zero, List.set_cons_succ, i64_w, i32_w]
        rfl
      refine pure_ (i := 10) (N := some 8) (v := ?_) (a' := ?_) #[true, true, true, true, true, true, true, true, true, true, true] rfl rfl (any_of HT_.out (by kernel_rfl)) (fun _ _ _ h => h) (Or.inl ⟨by rfl, ?_⟩) ?_ ?_
      rotate_left
      · intro w'
        go_simp
        with_reducible rfl
      rotate_left
      · simp only [Act.put, List.setIfInBounds_toArray, List.set_cons_zero, List.set_cons_succ, i64_w, i32_w]
        rfl
      refine done_ (done_of HT_.out (by kernel_rfl)) ?_
      skip
      have hk3 : (((W.alloc (.cells #[.int .i64 0, .int .i64 0, .int .i64 0] 64)).alloc (.cells #[.int .i64 u.length, .int .i64 (nl u), .int .i64 (ub u), .int .i64 l, .int .i64 r, .slice none 0 0] 67)).drew).cell? ⟨W.heap.size + 1, 3, none⟩ = some (.int .i64 l) := (blk_cell (blk_drew HB0.out) 3).trans rfl
      clear hc0 hc1 hf0 hf1 y0 y1 y2 x0 x1 x2 x3 x4 x5'
      go_wp2_with fail
      refine (HIS.out base g v root p _ (H.out.below HWF.out) p0 (by omega) hsl2).mono ?_
      rintro e w1 ⟨rfl, hb1⟩
      have HZ1 := Aside0.mk (blk_below (blk_drew HZ0.out) hb1)
      have HW1 := Aside0.mk (below_then HWF.out HWF.out.size hb1)
      have hf0' := blk_frozen HZ1.out 0
      have hf1' := blk_frozen HZ1.out 1
      have hf2' := blk_frozen HZ1.out 2
      have hz0 := (blk_cell HZ1.out 0).trans rfl
      have hz1 := (blk_cell HZ1.out 1).trans rfl
      have hz2 := (blk_cell HZ1.out 2).trans rfl
      obtain ⟨k0, e0⟩ : ∃ k : Int, ((s.take p.toNat).length : Int) = k := ⟨_, rfl⟩
      rw [e0]
      have HE := Aside0.mk e0
      clear e0 hb1
      go_wp2_with fail
      have HP := Aside0.mk (blk_put (blk_put (blk_put HZ1.out 0 (.int .i64 k0) rfl) 1 (.int .i64 (nl (s.take p.toNat))) rfl) 2 (.int .i64 (ub (s.take p.toNat))) rfl)
      refine bodyPost_ret (results_cell_row rfl _ _ W.heap.size 64 #[.int .i64 k0, .int .i64 (nl (s.take p.toNat)), .int .i64 (ub (s.take p.toNat))] (0, 0) _ rfl HP.out Try.underlying64 rfl (by kernel_rfl)) rfl ⟨by rw [HU.out, take_left (by omega), HE.out], ((HW1.out.setCell (Nat.le_refl _) _).setCell (Nat.le_refl _) _).setCell (Nat.le_refl _) _⟩
end Go.Proofs.Ytepcdjkpmchobaa.Rope
