/- rope.cut parts a tree at a place into two that hold what lies ahead of it and behind it. For at most 2000 runes. -/
import Derived.Laws.Cover3
import Derived.Test.YtepcdjkpmchobaaRopeH
namespace Go.Proofs.Ytepcdjkpmchobaa.Rope
open Go.RowKit Go.Proofs.YtepcdjkpmchobaaW.PrintWords Go.Proofs.YtepcdjkpmchobaaW.PrintLast Go.Proofs.YtepcdjkpmchobaaW.PrintMore
attribute [local go_sem] max2_int min2_int max_two min_two max_three min_three max_four min_four
set_option linter.unusedVariables false
set_option linter.unusedSimpArgs false

theorem take_right {s t : List Int} {p : Int} (h : (s.length : Int) < p) : (s ++ t).take p.toNat = s ++ t.take (p - s.length).toNat := by
  rw [List.take_append, List.take_of_length_le (by omega), show p.toNat - s.length = (p - s.length).toNat from by omega]
theorem drop_right {s t : List Int} {p : Int} (h : (s.length : Int) < p) : (s ++ t).drop p.toNat = t.drop (p - s.length).toNat := by
  rw [List.drop_append, List.drop_of_length_le (by omega), show p.toNat - s.length = (p - s.length).toNat from by omega, List.nil_append]
theorem take_left {s t : List Int} {p : Int} (h : p ≤ (s.length : Int)) : (s ++ t).take p.toNat = s.take p.toNat := by
  rw [List.take_append, show p.toNat - s.length = 0 from by omega, List.take_zero, List.append_nil]
theorem drop_left {s t : List Int} {p : Int} (h : p ≤ (s.length : Int)) : (s ++ t).drop p.toNat = s.drop p.toNat ++ t := by
  rw [List.drop_append, show p.toNat - s.length = 0 from by omega, List.drop_zero]

set_option maxHeartbeats 4000000 in
theorem cut_calls {ns : List Node} {i : Int} {t : List Int} (T : Tree ns i t) : ∀ (base g : Nat) (v : Value) (root p : Int) (W : World), RopeAt base W g v ns root → 0 ≤ p → p ≤ t.length → t.length ≤ 2000 → ns.length ≤ 100000 →
    Calls Try.prog 28 #[.pointer (some ⟨g, 0, none⟩), .int .i64 i, .int .i64 p] W (CutR base g v ns root i t p W) := by
  induction T with
  | leaf i t h0 h1 hn => exact fun base g v root p W h p0 p1 hl hm => cut_leaf base g v ns root i p t W h h0 h1 hn p0 p1 hl hm
  | two i l r u s t h0 h1 hn hu hl hr hs ht ps pt ihs iht =>
    intro base g v root p W h p0 p1 hlen hm
    obtain ⟨A, c, hv, hc, hc0, hc1, hf0, hf1, hrd⟩ := h.open_
    obtain ⟨ad, A5, c5, rfl, x0, x1, x2, x3, x4, x5, l5, t5, n5⟩ := at_node hrd i h0 h1
    obtain ⟨ad', A6, c6, he, y0, y1, y2, y3, y4, y5, l6, t6, n6⟩ := at_node hrd l hs.ix.1 hs.ix.2
    injection he with he
    subst he
    rw [hs.sum.1] at y0
    rw [hn] at x0 x1 x2 x3 x4 x5 n5
    have hl0 := hs.ix.1
    have hr0 := ht.ix.1
    obtain ⟨rfl, _, rfl⟩ := n5 (show l ≠ -1 by omega)
    have x5' : W.cell? ⟨(ad.add (i.toNat * 6)).block, (ad.add (i.toNat * 6)).off + 5, none⟩ = some (.slice none 0 0) := x5
    have H := Aside0.mk h
    have HV := Aside0.mk hv
    have HBW : Aside0 (base ≤ W.heap.size) := ⟨Nat.le_trans h.2.1 (Nat.le_of_lt h.lt)⟩
    have HS := Aside0.mk hs
    have HT := Aside0.mk ht
    have HU := Aside0.mk hu
    have hul : u.length = s.length + t.length := by rw [hu, List.length_append]
    have HUL := Aside0.mk hul
    have HIS := Aside0.mk ihs
    have HIT := Aside0.mk iht
    have hlb : (l == -1) = false := beq_eq_false_iff_ne.mpr (by omega)
    have HB0 : Aside0 ((W.alloc (.cells #[.int .i64 u.length, .int .i64 (nl u), .int .i64 (ub u), .int .i64 l, .int .i64 r, .slice none 0 0] 67)).heap[W.heap.size]? = some (.cells #[.int .i64 u.length, .int .i64 (nl u), .int .i64 (ub u), .int .i64 l, .int .i64 r, .slice none 0 0] 67)) := ⟨blk_new W _⟩
    have HWD : Aside0 (Below W.heap.size W (W.alloc (.cells #[.int .i64 u.length, .int .i64 (nl u), .int .i64 (ub u), .int .i64 l, .int .i64 r, .slice none 0 0] 67)).drew) := ⟨(below_alloc (Below.refl _ _) _).drew⟩
    have HAP : Aside0 (Apart W.heap.size g v) := ⟨h.new (Nat.le_refl _)⟩
    clear h hrd x5 l5 t5 n5 y1 y2 y3 y4 y5 l6 t6 n6 hv hu hs ht ihs iht hul hn
    have hsl2 : s.length ≤ 2000 := by have := HUL.out; omega
    have htl2 : t.length ≤ 2000 := by have := HUL.out; omega
    have hul2 : (u.length : Int) ≤ 2000 := by omega
    replace h0 := eq_true h0
    replace h1 := eq_true h1
    have q0 := eq_true HS.out.ix.1
    have q1 := eq_true HS.out.ix.2
    by_cases hp : (s.length : Int) < p
    · have hpd : decide ((s.length : Int) < p) = true := decide_eq_true hp
      go_enter Try.func28, Try.ntmps28
      go_wp2_with fail
      refine start_ (n := 11) (S := fun w' => w'.cell? ⟨g, 0, none⟩ = some (.slice (some ad) ns.length c) ∧ w'.cell? ⟨W.heap.size, 3, none⟩ = some (.int .i64 l) ∧ w'.cell? (ad.add (l.toNat * 6)) = some (.int .i64 s.length)) (ds := []) #[false, false, false, false, false, false, false, false, false, false, false] (by kernel_rfl) rfl rfl ⟨pw_cell_below HWD.out hc0, (blk_cell (blk_drew HB0.out) 3).trans rfl, pw_cell_below HWD.out y0⟩ (fun hHeld => ?_); refine with_tabW cutB.tab4 cutB.bits4 (fun HT_ HW_ => ?_)
      refine pure_ (i := 0) (N := some 41) (v := ?_) (a' := ?_) #[true, false, false, false, false, false, false, false, false, false, false] rfl rfl (any_of HT_.out (by kernel_rfl)) (fun _ _ _ h => h) (Or.inl ⟨by rfl, ?_⟩) ?_ ?_
      rotate_left
      · intro w'
        go_simp
        with_reducible rfl
      rotate_left
      · simp only [Act.put, List.setIfInBounds_toArray, List.set_cons_zero, List.set_cons_succ, i64_w, i32_w]
        rfl
      refine pure_ (i := 1) (N := some 42) (v := ?_) (a' := ?_) #[true, true, false, false, false, false, false, false, false, false, false] rfl rfl (any_of HT_.out (by kernel_rfl)) (fun _ _ _ h => h) (Or.inl ⟨by rfl, ?_⟩) ?_ ?_
      rotate_left
      · intro w'
        go_simp
        with_reducible rfl
      rotate_left
      · simp only [Act.put, List.setIfInBounds_toArray, List.set_cons_zero, List.set_cons_succ, i64_w, i32_w]
        rfl
      refine pure_ (i := 2) (N := some 43) (v := ?_) (a' := ?_) #[true, true, true, false, false, false, false, false, false, false, false] rfl rfl (any_of HT_.out (by kernel_rfl)) (fun _ _ _ h => h) (Or.inl ⟨by rfl, ?_⟩) ?_ ?_
      rotate_left
      · intro w'
        go_simp
        with_reducible rfl
      rotate_left
      · simp only [Act.put, List.setIfInBounds_toArray, List.set_cons_zero, List.set_cons_succ, i64_w, i32_w]
        rfl
      refine take_ (i := 3) (N := some 44) (v := ?_) (a' := ?_) #[true, true, true, true, false, false, false, false, false, false, false] rfl rfl (take_ofW HT_.out HW_.out (by kernel_rfl)) (fun _ _ _ h => h) (Or.inl ⟨by rfl, ?_⟩) hHeld ?_ ?_
      rotate_left
      · rintro w' ⟨s0, s1, s2⟩
        go_simp
        with_reducible rfl
      rotate_left
      · simp only [Act.put, List.setIfInBounds_toArray, List.set_cons_zero, List.set_cons_succ, i64_w, i32_w]
        rfl
      refine pure_ (i := 4) (N := some 45) (v := ?_) (a' := ?_) #[true, true, true, true, true, false, false, false, false, false, false] rfl rfl (any_of HT_.out (by kernel_rfl)) (fun _ _ _ h => h) (Or.inl ⟨by rfl, ?_⟩) ?_ ?_
      rotate_left
      · intro w'
        go_simp
        with_reducible rfl
      rotate_left
      · simp only [Act.put, List.setIfInBounds_toArray, List.set_cons_zero, List.set_cons_succ, i64_w, i32_w]
        rfl
      refine take_ (i := 5) (N := some 46) (v := ?_) (a' := ?_) #[true, true, true, true, true, true, false, false, false, false, false] rfl rfl (take_ofW HT_.out HW_.out (by kernel_rfl)) (fun _ _ _ h => h) (Or.inl ⟨by rfl, ?_⟩) hHeld ?_ ?_
      rotate_left
      · rintro w' ⟨s0, s1, s2⟩
        go_simp
        with_reducible rfl
      rotate_left
      · simp only [Act.put, List.setIfInBounds_toArray, List.set_cons_zero, List.set_cons_succ, i64_w, i32_w]
        rfl
      refine pure_ (i := 6) (N := some 47) (v := ?_) (a' := ?_) #[true, true, true, true, true, true, true, false, false, false, false] rfl rfl (any_of HT_.out (by kernel_rfl)) (fun _ _ _ h => h) (Or.inl ⟨by rfl, ?_⟩) ?_ ?_
      rotate_left
      · intro w'
        go_simp
        with_reducible rfl
      rotate_left
      · simp only [Act.put, List.setIfInBounds_toArray, List.set_cons_zero, List.set_cons_succ, i64_w, i32_w]
        rfl
      refine pure_ (i := 7) (N := some 48) (v := ?_) (a' := ?_) #[true, true, true, true, true, true, true, true, false, false, false] rfl rfl (any_of HT_.out (by kernel_rfl)) (fun _ _ _ h => h) (Or.inl ⟨by rfl, ?_⟩) ?_ ?_
      rotate_left
      · intro w'
        go_simp
        with_reducible rfl
      rotate_left
      · simp only [Act.put, List.setIfInBounds_toArray, List.set_cons_zero, List.set_cons_succ, i64_w, i32_w]
        rfl
      refine pure_ (i := 8) (N := some 49) (v := ?_) (a' := ?_) #[true, true, true, true, true, true, true, true, true, false, false] rfl rfl (any_of HT_.out (by kernel_rfl)) (fun _ _ _ h => h) (Or.inl ⟨by rfl, ?_⟩) ?_ ?_
      rotate_left
      · intro w'
        go_simp
        with_reducible rfl
      rotate_left
      · simp only [Act.put, List.setIfInBounds_toArray, List.set_cons_zero, List.set_cons_succ, i64_w, i32_w]
        rfl
      refine take_ (i := 9) (N := some 50) (v := ?_) (a' := ?_) #[true, true, true, true, true, true, true, true, true, true, false] rfl rfl (take_ofW HT_.out HW_.out (by kernel_rfl)) (fun _ _ _ h => h) (Or.inl ⟨by rfl, ?_⟩) hHeld ?_ ?_
      rotate_left
      · rintro w' ⟨s0, s1, s2⟩
        go_simp
        with_reducible rfl
      rotate_left
      · simp only [Act.put, List.setIfInBounds_toArray, List.set_cons_zero, List.set_cons_succ, i64_w, i32_w]
        rfl
      refine pure_ (i := 10) (N := some 9) (v := ?_) (a' := ?_) #[true, true, true, true, true, true, true, true, true, true, true] rfl rfl (any_of HT_.out (by kernel_rfl)) (fun _ _ _ h => h) (Or.inl ⟨by rfl, ?_⟩) ?_ ?_
      rotate_left
      · intro w'
        go_simp
        with_reducible rfl
      rotate_left
      · simp only [Act.put, List.setIfInBounds_toArray, List.set_cons_zero, List.set_cons_succ, i64_w, i32_w]
        rfl
      refine done_ (done_of HT_.out (by kernel_rfl)) ?_
      skip
      go_wp2_with (first | (go_at_call 28; refine (HIT.out base g v root (p - s.length) _ ((H.out.below HWD.out)) (by omega) (by have := HUL.out; omega) htl2 hm).mono ?_; rintro e w1 ⟨v1, m1, a1, b1, rfl, hR1, hM1, hl1, hTa, hTb⟩; have HR1 := Aside0.mk hR1; have HM1 := Aside0.mk hM1; have HTA := Aside0.mk hTa; have HTB := Aside0.mk hTb; have HL1 := Aside0.mk hl1; have HB1 := Aside0.mk (hM1.far HAP.out (blk_drew HB0.out)); clear hR1 hM1 hTa hTb hl1; have hk3 : w1.cell? ⟨W.heap.size, 3, none⟩ = some (.int .i64 l) := (blk_cell HB1.out 3).trans rfl; have hk4 : w1.cell? ⟨W.heap.size, 4, none⟩ = some (.int .i64 r) := (blk_cell HB1.out 4).trans rfl) | (go_at_call 30; refine (join_calls base g v1 (ns ++ m1) root l a1 _ HR1.out (HS.out.more m1).ix.1 (HS.out.more m1).ix.2 HTA.out.ix.1 HTA.out.ix.2 (.of_tree (HS.out.more m1) (by omega)) (.of_tree HTA.out (by rw [List.length_take]; omega)) (by rw [List.length_append]; have := HL1.out; have := HT.out.ix.2; omega)).mono ?_; rintro e w2 ⟨v2, ns2, j2, rfl, hR2, hM2, hJ⟩; have HR2 := Aside0.mk hR2; have HM2 := Aside0.mk (HM1.out.trans hM2); have HJ := Aside0.mk hJ; clear hR2 hM2 hJ))
      go_ret2
      obtain ⟨m2, e2, hl2, hT2⟩ := HJ.out.tree (HS.out.more m1) HTA.out
      subst e2
      have hl1 := HL1.out
      refine ⟨v2, m1 ++ m2, j2, b1, rfl, by simpa [List.append_assoc] using HR2.out, (Mv.of_below HWD.out HBW.out).trans HM2.out, by rw [List.length_append]; omega, ?_, ?_⟩
      · rw [HU.out, take_right hp]
        simpa [List.append_assoc] using hT2
      · rw [HU.out, drop_right hp]
        simpa [List.append_assoc] using HTB.out.more m2
    · have hpd : decide ((s.length : Int) < p) = false := decide_eq_false hp
      go_enter Try.func28, Try.ntmps28
      go_wp2_with fail
      refine start_ (n := 11) (S := fun w' => w'.cell? ⟨g, 0, none⟩ = some (.slice (some ad) ns.length c) ∧ w'.cell? ⟨W.heap.size, 3, none⟩ = some (.int .i64 l) ∧ w'.cell? (ad.add (l.toNat * 6)) = some (.int .i64 s.length)) (ds := []) #[false, false, false, false, false, false, false, false, false, false, false] (by kernel_rfl) rfl rfl ⟨pw_cell_below HWD.out hc0, (blk_cell (blk_drew HB0.out) 3).trans rfl, pw_cell_below HWD.out y0⟩ (fun hHeld => ?_); refine with_tabW cutB.tab4 cutB.bits4 (fun HT_ HW_ => ?_)
      refine pure_ (i := 0) (N := some 41) (v := ?_) (a' := ?_) #[true, false, false, false, false, false, false, false, false, false, false] rfl rfl (any_of HT_.out (by kernel_rfl)) (fun _ _ _ h => h) (Or.inl ⟨by rfl, ?_⟩) ?_ ?_
      rotate_left
      · intro w'
        go_simp
        with_reducible rfl
      rotate_left
      · simp only [Act.put, List.setIfInBounds_toArray, List.set_cons_zero, List.set_cons_succ, i64_w, i32_w]
        rfl
      refine pure_ (i := 1) (N := some 42) (v := ?_) (a' := ?_) #[true, true, false, false, false, false, false, false, false, false, false] rfl rfl (any_of HT_.out (by kernel_rfl)) (fun _ _ _ h => h) (Or.inl ⟨by rfl, ?_⟩) ?_ ?_
      rotate_left
      · intro w'
        go_simp
        with_reducible rfl
      rotate_left
      · simp only [Act.put, List.setIfInBounds_toArray, List.set_cons_zero, List.set_cons_succ, i64_w, i32_w]
        rfl
      refine pure_ (i := 2) (N := some 43) (v := ?_) (a' := ?_) #[true, true, true, false, false, false, false, false, false, false, false] rfl rfl (any_of HT_.out (by kernel_rfl)) (fun _ _ _ h => h) (Or.inl ⟨by rfl, ?_⟩) ?_ ?_
      rotate_left
      · intro w'
        go_simp
        with_reducible rfl
      rotate_left
      · simp only [Act.put, List.setIfInBounds_toArray, List.set_cons_zero, List.set_cons_succ, i64_w, i32_w]
        rfl
      refine take_ (i := 3) (N := some 44) (v := ?_) (a' := ?_) #[true, true, true, true, false, false, false, false, false, false, false] rfl rfl (take_ofW HT_.out HW_.out (by kernel_rfl)) (fun _ _ _ h => h) (Or.inl ⟨by rfl, ?_⟩) hHeld ?_ ?_
      rotate_left
      · rintro w' ⟨s0, s1, s2⟩
        go_simp
        with_reducible rfl
      rotate_left
      · simp only [Act.put, List.setIfInBounds_toArray, List.set_cons_zero, List.set_cons_succ, i64_w, i32_w]
        rfl
      refine pure_ (i := 4) (N := some 45) (v := ?_) (a' := ?_) #[true, true, true, true, true, false, false, false, false, false, false] rfl rfl (any_of HT_.out (by kernel_rfl)) (fun _ _ _ h => h) (Or.inl ⟨by rfl, ?_⟩) ?_ ?_
      rotate_left
      · intro w'
        go_simp
        with_reducible rfl
      rotate_left
      · simp only [Act.put, List.setIfInBounds_toArray, List.set_cons_zero, List.set_cons_succ, i64_w, i32_w]
        rfl
      refine take_ (i := 5) (N := some 46) (v := ?_) (a' := ?_) #[true, true, true, true, true, true, false, false, false, false, false] rfl rfl (take_ofW HT_.out HW_.out (by kernel_rfl)) (fun _ _ _ h => h) (Or.inl ⟨by rfl, ?_⟩) hHeld ?_ ?_
      rotate_left
      · rintro w' ⟨s0, s1, s2⟩
        go_simp
        with_reducible rfl
      rotate_left
      · simp only [Act.put, List.setIfInBounds_toArray, List.set_cons_zero, List.set_cons_succ, i64_w, i32_w]
        rfl
      refine pure_ (i := 6) (N := some 47) (v := ?_) (a' := ?_) #[true, true, true, true, true, true, true, false, false, false, false] rfl rfl (any_of HT_.out (by kernel_rfl)) (fun _ _ _ h => h) (Or.inl ⟨by rfl, ?_⟩) ?_ ?_
      rotate_left
      · intro w'
        go_simp
        with_reducible rfl
      rotate_left
      · simp only [Act.put, List.setIfInBounds_toArray, List.set_cons_zero, List.set_cons_succ, i64_w, i32_w]
        rfl
      refine pure_ (i := 7) (N := some 48) (v := ?_) (a' := ?_) #[true, true, true, true, true, true, true, true, false, false, false] rfl rfl (any_of HT_.out (by kernel_rfl)) (fun _ _ _ h => h) (Or.inl ⟨by rfl, ?_⟩) ?_ ?_
      rotate_left
      · intro w'
        go_simp
        with_reducible rfl
      rotate_left
      · simp only [Act.put, List.setIfInBounds_toArray, List.set_cons_zero, List.set_cons_succ, i64_w, i32_w]
        rfl
      refine pure_ (i := 8) (N := some 49) (v := ?_) (a' := ?_) #[true, true, true, true, true, true, true, true, true, false, false] rfl rfl (any_of HT_.out (by kernel_rfl)) (fun _ _ _ h => h) (Or.inl ⟨by rfl, ?_⟩) ?_ ?_
      rotate_left
      · intro w'
        go_simp
        with_reducible rfl
      rotate_left
      · simp only [Act.put, List.setIfInBounds_toArray, List.set_cons_zero, List.set_cons_succ, i64_w, i32_w]
        rfl
      refine take_ (i := 9) (N := some 50) (v := ?_) (a' := ?_) #[true, true, true, true, true, true, true, true, true, true, false] rfl rfl (take_ofW HT_.out HW_.out (by kernel_rfl)) (fun _ _ _ h => h) (Or.inl ⟨by rfl, ?_⟩) hHeld ?_ ?_
      rotate_left
      · rintro w' ⟨s0, s1, s2⟩
        go_simp
        with_reducible rfl
      rotate_left
      · simp only [Act.put, List.setIfInBounds_toArray, List.set_cons_zero, List.set_cons_succ, i64_w, i32_w]
        rfl
      refine pure_ (i := 10) (N := some 9) (v := ?_) (a' := ?_) #[true, true, true, true, true, true, true, true, true, true, true] rfl rfl (any_of HT_.out (by kernel_rfl)) (fun _ _ _ h => h) (Or.inl ⟨by rfl, ?_⟩) ?_ ?_
      rotate_left
      · intro w'
        go_simp
        with_reducible rfl
      rotate_left
      · simp only [Act.put, List.setIfInBounds_toArray, List.set_cons_zero, List.set_cons_succ, i64_w, i32_w]
        rfl
      refine done_ (done_of HT_.out (by kernel_rfl)) ?_
      skip
      go_wp2_with (first | (go_at_call 28; refine (HIS.out base g v root p _ ((H.out.below HWD.out)) p0 (by omega) hsl2 hm).mono ?_; rintro e w1 ⟨v1, m1, a1, b1, rfl, hR1, hM1, hl1, hTa, hTb⟩; have HR1 := Aside0.mk hR1; have HM1 := Aside0.mk hM1; have HTA := Aside0.mk hTa; have HTB := Aside0.mk hTb; have HL1 := Aside0.mk hl1; have HB1 := Aside0.mk (hM1.far HAP.out (blk_drew HB0.out)); clear hR1 hM1 hTa hTb hl1; have hk3 : w1.cell? ⟨W.heap.size, 3, none⟩ = some (.int .i64 l) := (blk_cell HB1.out 3).trans rfl; have hk4 : w1.cell? ⟨W.heap.size, 4, none⟩ = some (.int .i64 r) := (blk_cell HB1.out 4).trans rfl) | (go_at_call 30; refine (join_calls base g v1 (ns ++ m1) root b1 r _ HR1.out HTB.out.ix.1 HTB.out.ix.2 (HT.out.more m1).ix.1 (HT.out.more m1).ix.2 (.of_tree HTB.out (by rw [List.length_drop]; omega)) (.of_tree (HT.out.more m1) (by omega)) (by rw [List.length_append]; have := HL1.out; have := HS.out.ix.2; omega)).mono ?_; rintro e w2 ⟨v2, ns2, j2, rfl, hR2, hM2, hJ⟩; have HR2 := Aside0.mk hR2; have HM2 := Aside0.mk (HM1.out.trans hM2); have HJ := Aside0.mk hJ; clear hR2 hM2 hJ))
      go_ret2
      obtain ⟨m2, e2, hl2, hT2⟩ := HJ.out.tree HTB.out (HT.out.more m1)
      subst e2
      have hl1 := HL1.out
      refine ⟨v2, m1 ++ m2, a1, j2, rfl, by simpa [List.append_assoc] using HR2.out, (Mv.of_below HWD.out HBW.out).trans HM2.out, by rw [List.length_append]; omega, ?_, ?_⟩
      · rw [HU.out, take_left (by omega)]
        simpa [List.append_assoc] using HTA.out.more m2
      · rw [HU.out, drop_left (by omega)]
        simpa [List.append_assoc] using hT2
end Go.Proofs.Ytepcdjkpmchobaa.Rope
