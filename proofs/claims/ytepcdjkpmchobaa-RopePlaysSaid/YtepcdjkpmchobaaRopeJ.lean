/- rope.depth answers, and writes no memory that was there before. -/
import Derived.Laws.Cover3
import Derived.Test.YtepcdjkpmchobaaRopeI
namespace Go.Proofs.Ytepcdjkpmchobaa.Rope
open Go.RowKit Go.Proofs.YtepcdjkpmchobaaW.PrintWords Go.Proofs.YtepcdjkpmchobaaW.PrintLast Go.Proofs.YtepcdjkpmchobaaW.PrintMore
attribute [local go_sem] max2_int min2_int max_two min_two max_three min_three max_four min_four
set_option linter.unusedVariables false
set_option linter.unusedSimpArgs false

def DepthR (W : World) (e : Ending) (w' : World) : Prop := ∃ d : Int, e = .returned (.int .i64 d) ∧ Below W.heap.size W w'
def depth.T4 : Bool × List (List Nat × List Nat) := (true, [([], []), ([], []), ([1], [1]), ([0, 2], [0, 2]), ([], []), ([], []), ([5], [5]), ([4, 6, 3], [4, 6]), ([3, 7], [3, 7]), ([8], [8]), ([9, 7, 0, 1, 2, 3, 4, 5, 6, 7, 8, 9], [9])])
def depth.B4 : List Nat := [0, 0, 2, 7, 0, 0, 32, 127, 255, 511, 1023]
theorem depth.tab4 : rtab .any (opsOf Try.f40 4) = depth.T4 := by kernel_rfl
theorem depth.bits4 : waitsOk depth.T4.2 depth.B4 = true := by kernel_rfl

set_option maxHeartbeats 4000000 in
theorem depth_calls {ns : List Node} {i : Int} {t : List Int} (T : Tree ns i t) : ∀ (base g : Nat) (v : Value) (root : Int) (W : World), RopeAt base W g v ns root →
    Calls Try.prog 40 #[.pointer (some ⟨g, 0, none⟩), .int .i64 i] W (DepthR W) := by
  induction T with
  | leaf i t h0 h1 hn =>
    intro base g v root W h
    obtain ⟨A, c, hv, hc, hc0, hc1, hf0, hf1, hrd⟩ := h.open_
    obtain ⟨ad, A5, c5, rfl, x0, x1, x2, x3, x4, x5, l5, t5, n5⟩ := at_node hrd i h0 h1
    rw [hn] at x0 x1 x2 x3 x4 x5
    have HBEL : Aside0 (Below W.heap.size W (W.alloc (.cells #[.int .i64 t.length, .int .i64 (nl t), .int .i64 (ub t), .int .i64 (-1), .int .i64 (-1), .slice A5 t.length c5] 67))) := ⟨below_alloc (Below.refl _ _) _⟩
    clear h hrd l5 t5 n5 hv hn
    replace h0 := eq_true h0
    replace h1 := eq_true h1
    go_enter Try.func40, Try.ntmps40
    go_wp2_with fail
    go_ret
    exact ⟨_, rfl, HBEL.out⟩
  | two i l r u s t h0 h1 hn hu hl hr hs ht ps pt ihs iht =>
    intro base g v root W h
    obtain ⟨A, c, hv, hc, hc0, hc1, hf0, hf1, hrd⟩ := h.open_
    obtain ⟨ad, A5, c5, rfl, x0, x1, x2, x3, x4, x5, l5, t5, n5⟩ := at_node hrd i h0 h1
    rw [hn] at x0 x1 x2 x3 x4 x5 n5
    have hl0 := hs.ix.1
    obtain ⟨rfl, _, rfl⟩ := n5 (show l ≠ -1 by omega)
    have x5' : W.cell? ⟨(ad.add (i.toNat * 6)).block, (ad.add (i.toNat * 6)).off + 5, none⟩ = some (.slice none 0 0) := x5
    have H := Aside0.mk h
    have HIS := Aside0.mk ihs
    have HIT := Aside0.mk iht
    have hlb : (l == -1) = false := beq_eq_false_iff_ne.mpr (by omega)
    have HB0 : Aside0 ((W.alloc (.cells #[.int .i64 u.length, .int .i64 (nl u), .int .i64 (ub u), .int .i64 l, .int .i64 r, .slice none 0 0] 67)).heap[W.heap.size]? = some (.cells #[.int .i64 u.length, .int .i64 (nl u), .int .i64 (ub u), .int .i64 l, .int .i64 r, .slice none 0 0] 67)) := ⟨blk_new W _⟩
    have HWD : Aside0 (Below W.heap.size W (W.alloc (.cells #[.int .i64 u.length, .int .i64 (nl u), .int .i64 (ub u), .int .i64 l, .int .i64 r, .slice none 0 0] 67)).drew) := ⟨(below_alloc (Below.refl _ _) _).drew⟩
    clear h hrd x5 l5 t5 n5 hv hu hs ht ihs iht hn
    replace h0 := eq_true h0
    replace h1 := eq_true h1
    go_enter Try.func40, Try.ntmps40
    go_wp2_with fail
    refine start_ (n := 11) (S := fun w' => w'.cell? ⟨W.heap.size, 3, none⟩ = some (.int .i64 l) ∧ w'.cell? ⟨W.heap.size, 4, none⟩ = some (.int .i64 r)) (ds := []) #[false, false, false, false, false, false, false, false, false, false, false] (by kernel_rfl) rfl rfl ⟨(blk_cell (blk_drew HB0.out) 3).trans rfl, (blk_cell (blk_drew HB0.out) 4).trans rfl⟩ (fun hHeld => ?_); refine with_tabW depth.tab4 depth.bits4 (fun HT_ HW_ => ?_)
    refine pure_ (i := 0) (N := some 16) (v := ?_) (a' := ?_) #[true, false, false, false, false, false, false, false, false, false, false] rfl rfl (any_of HT_.out (by kernel_rfl)) (fun _ _ _ h => h) (Or.inl ⟨by rfl, ?_⟩) ?_ ?_
    rotate_left
    · intro w'
      go_simp
      with_reducible rfl
    rotate_left
    · simp only [Act.put, List.setIfInBounds_toArray, List.set_cons_zero, List.set_cons_succ, i64_w, i32_w]
      rfl
    refine pure_ (i := 1) (N := some 17) (v := ?_) (a' := ?_) #[true, true, false, false, false, false, false, false, false, false, false] rfl rfl (any_of HT_.out (by kernel_rfl)) (fun _ _ _ h => h) (Or.inl ⟨by rfl, ?_⟩) ?_ ?_
    rotate_left
    · intro w'
      go_simp
      with_reducible rfl
    rotate_left
    · simp only [Act.put, List.setIfInBounds_toArray, List.set_cons_zero, List.set_cons_succ, i64_w, i32_w]
      rfl
    refine pure_ (i := 4) (N := some 20) (v := ?_) (a' := ?_) #[true, true, false, false, true, false, false, false, false, false, false] rfl rfl (any_of HT_.out (by kernel_rfl)) (fun _ _ _ h => h) (Or.inl ⟨by rfl, ?_⟩) ?_ ?_
    rotate_left
    · intro w'
      go_simp
      with_reducible rfl
    rotate_left
    · simp only [Act.put, List.setIfInBounds_toArray, List.set_cons_zero, List.set_cons_succ, i64_w, i32_w]
      rfl
    refine pure_ (i := 5) (N := some 21) (v := ?_) (a' := ?_) #[true, true, false, false, true, true, false, false, false, false, false] rfl rfl (any_of HT_.out (by kernel_rfl)) (fun _ _ _ h => h) (Or.inl ⟨by rfl, ?_⟩) ?_ ?_
    rotate_left
    · intro w'
      go_simp
      with_reducible rfl
    rotate_left
    · simp only [Act.put, List.setIfInBounds_toArray, List.set_cons_zero, List.set_cons_succ, i64_w, i32_w]
      rfl
    refine take_ (i := 2) (N := some 18) (v := ?_) (a' := ?_) #[true, true, true, false, true, true, false, false, false, false, false] rfl rfl (take_ofW HT_.out HW_.out (by kernel_rfl)) (fun _ _ _ h => h) (Or.inl ⟨by rfl, ?_⟩) hHeld ?_ ?_
    rotate_left
    · rintro w' ⟨s0, s1⟩
      go_simp
      with_reducible rfl
    rotate_left
    · simp only [Act.put, List.setIfInBounds_toArray, List.set_cons_zero, List.set_cons_succ, i64_w, i32_w]
      rfl
    refine take_ (i := 6) (N := some 22) (v := ?_) (a' := ?_) #[true, true, true, false, true, true, true, false, false, false, false] rfl rfl (take_ofW HT_.out HW_.out (by kernel_rfl)) (fun _ _ _ h => h) (Or.inl ⟨by rfl, ?_⟩) hHeld ?_ ?_
    rotate_left
    · rintro w' ⟨s0, s1⟩
      go_simp
      with_reducible rfl
    rotate_left
    · simp only [Act.put, List.setIfInBounds_toArray, List.set_cons_zero, List.set_cons_succ, i64_w, i32_w]
      rfl
    refine one_ (i := 3) (N := some 19) #[true, true, true, true, true, true, true, false, false, false, false] rfl rfl (one_of HT_.out (by kernel_rfl)) (by decide) (fun K hK => ?_)
    refine goes_ Try.func40 (by kernel_rfl) rfl #[.pointer (some ⟨g, 0, none⟩), .int .i64 l] (by rfl) rfl rfl (by (try simp only [List.map_toArray, List.map_cons, List.map_nil]); first | done | rfl | (simp only [List.length_drop, List.length_take]; rfl)) ?_
    refine (HIS.out base g v root _ (H.out.below HWD.out)).mono ?_
    rintro e w' ⟨d1, rfl, hb1⟩
    have HB1 := Aside0.mk (blk_below (blk_drew HB0.out) hb1)
    have HW1 := Aside0.mk (below_then HWD.out HWD.out.size hb1)
    clear hb1
    refine ⟨_, rfl, ?_⟩
    refine hK.out _ _ ⟨(blk_cell HB1.out 3).trans rfl, (blk_cell HB1.out 4).trans rfl⟩ (fun hHeld => ?_)
    clear hK K
    refine norm_ (a' := ?_) ?_ ?_
    rotate_left
    · show Act.put _ (some 19) _ = _
      simp only [Act.put, List.setIfInBounds_toArray, List.set_cons_zero, List.set_cons_succ, i64_w, i32_w]
      rfl
    refine one_ (i := 7) (N := some 23) #[true, true, true, true, true, true, true, true, false, false, false] rfl rfl (one_of HT_.out (by kernel_rfl)) (by decide) (fun K hK => ?_)
    refine goes_ Try.func40 (by kernel_rfl) rfl #[.pointer (some ⟨g, 0, none⟩), .int .i64 r] (by rfl) rfl rfl (by (try simp only [List.map_toArray, List.map_cons, List.map_nil]); first | done | rfl | (simp only [List.length_drop, List.length_take]; rfl)) ?_
    refine (HIT.out base g v root _ (H.out.below HW1.out)).mono ?_
    rintro e w' ⟨d2, rfl, hb2⟩
    have HB2 := Aside0.mk (blk_below HB1.out hb2)
    have HW2 := Aside0.mk (below_then HW1.out HW1.out.size hb2)
    clear hb2
    refine ⟨_, rfl, ?_⟩
    refine hK.out _ _ ⟨(blk_cell HB2.out 3).trans rfl, (blk_cell HB2.out 4).trans rfl⟩ (fun hHeld => ?_)
    clear hK K
    refine norm_ (a' := ?_) ?_ ?_
    rotate_left
    · show Act.put _ (some 23) _ = _
      simp only [Act.put, List.setIfInBounds_toArray, List.set_cons_zero, List.set_cons_succ, i64_w, i32_w]
      rfl
    refine pure_ (i := 8) (N := some 24) (v := ?_) (a' := ?_) #[true, true, true, true, true, true, true, true, true, false, false] rfl rfl (any_of HT_.out (by kernel_rfl)) (fun _ _ _ h => h) (Or.inl ⟨by rfl, ?_⟩) ?_ ?_
    rotate_left
    · intro w'
      go_simp
      with_reducible rfl
    rotate_left
    · simp only [Act.put, List.setIfInBounds_toArray, List.set_cons_zero, List.set_cons_succ, i64_w, i32_w]
      rfl
    refine pure_ (i := 9) (N := some 25) (v := ?_) (a' := ?_) #[true, true, true, true, true, true, true, true, true, true, false] rfl rfl (any_of HT_.out (by kernel_rfl)) (fun _ _ _ h => h) (Or.inl ⟨by rfl, ?_⟩) ?_ ?_
    rotate_left
    · intro w'
      go_simp
      with_reducible rfl
    rotate_left
    · simp only [Act.put, List.setIfInBounds_toArray, List.set_cons_zero, List.set_cons_succ, i64_w, i32_w]
      rfl
    refine pure_ (i := 10) (N := some 4) (v := ?_) (a' := ?_) #[true, true, true, true, true, true, true, true, true, true, true] rfl rfl (any_of HT_.out (by kernel_rfl)) (fun _ _ _ h => h) (Or.inl ⟨by rfl, ?_⟩) ?_ ?_
    rotate_left
    · intro w'
      go_simp
      with_reducible rfl
    rotate_left
    · simp only [Act.put, List.setIfInBounds_toArray, List.set_cons_zero, List.set_cons_succ, i64_w, i32_w]
      rfl
    refine done_ (done_of HT_.out (by kernel_rfl)) ?_
    try go_wp2
    all_goals
      go_ret
      exact ⟨_, rfl, HW2.out⟩
end Go.Proofs.Ytepcdjkpmchobaa.Rope
