/- rope.whole, Len, Lines and between tell what the root's node holds. For a rope that is laid, or nil. -/
import Derived.Test.YtepcdjkpmchobaaRopeC
namespace Go.Proofs.Ytepcdjkpmchobaa.Rope
open Go.RowKit Go.Proofs.YtepcdjkpmchobaaW.PrintWords Go.Proofs.YtepcdjkpmchobaaW.PrintLast Go.Proofs.YtepcdjkpmchobaaW.PrintMore
attribute [local go_sem] max2_int min2_int max_two min_two max_three min_three max_four min_four
set_option linter.unusedVariables false
set_option linter.unusedSimpArgs false
def whole.T3 : Bool × List (List Nat × List Nat) := (true, [([], []), ([0], [0]), ([1], [1]), ([2], [2]), ([], []), ([4], [4]), ([5], [5]), ([6], [6]), ([3, 7], [3, 7]), ([8], [8]), ([9], [9]), ([10, 0, 1, 2, 3, 4, 5, 6, 7, 8, 9, 10], [10])])
def whole.B3 : List Nat := [0, 1, 3, 7, 0, 16, 48, 112, 255, 511, 1023, 2047]
theorem whole.tab3 : rtab .any (opsOf Try.f34 3) = whole.T3 := by kernel_rfl
theorem whole.bits3 : waitsOk whole.T3.2 whole.B3 = true := by kernel_rfl

set_option maxHeartbeats 1000000 in
theorem whole_calls (base g : Nat) (v : Value) (ns : List Node) (root : Int) (W : World) (h : RopeAt base W g v ns root) (h0 : 0 ≤ root) (h1 : root < ns.length) :
    Calls Try.prog 34 #[.pointer (some ⟨g, 0, none⟩)] W
      fun e w' => e = .returned (.agg #[.int .i64 (nd ns root).rn, .int .i64 (nd ns root).ln, .int .i64 (nd ns root).bn]) ∧ Below W.heap.size W w' := by
  obtain ⟨A, c, rfl, hc, hc0, hc1, hf0, hf1, hr⟩ := h.open_
  obtain ⟨ad, A5, c5, rfl, x0, x1, x2, x3, x4, x5, l5, t5, n5⟩ := at_node hr root h0 h1
  have HB := Aside0.mk h
  have hbel : Below W.heap.size W ((W.alloc (.cells #[.int .i64 0, .int .i64 0, .int .i64 0] 64)).drew) := (below_alloc (Below.refl _ _) _).drew
  have HBEL := Aside0.mk hbel
  have hq0 := pw_cell_below hbel hc0
  have hq1 := pw_cell_below hbel hc1
  have hx0 := pw_cell_below hbel x0
  have hx1 := pw_cell_below hbel x1
  have hx2 := pw_cell_below hbel x2
  clear h hr x0 x1 x2 x3 x4 x5 l5 t5 n5 hbel
  replace h0 := eq_true h0
  replace h1 := eq_true h1
  go_enter Try.func34, Try.ntmps34
  go_wp2
  refine start_ (n := 12) (S := fun w' => w'.cell? ⟨g, 0, none⟩ = some (.slice (some ad) ns.length c) ∧ w'.cell? ⟨g, 1, none⟩ = some (.int .i64 root) ∧ w'.cell? (ad.add (root.toNat * 6)) = some (.int .i64 (nd ns root).rn) ∧ w'.cell? ⟨(ad.add (root.toNat * 6)).block, (ad.add (root.toNat * 6)).off + 1, none⟩ = some (.int .i64 (nd ns root).ln) ∧ w'.cell? ⟨(ad.add (root.toNat * 6)).block, (ad.add (root.toNat * 6)).off + 2, none⟩ = some (.int .i64 (nd ns root).bn)) (ds := [11]) #[false, false, false, false, false, false, false, false, false, false, false, false] (by kernel_rfl) rfl rfl ⟨hq0, hq1, hx0, hx1, hx2⟩ (fun hHeld => ?_); refine with_tabW whole.tab3 whole.bits3 (fun HT_ HW_ => ?_)
  refine pure_ (i := 0) (N := some 6) (v := ?_) (a' := ?_) #[true, false, false, false, false, false, false, false, false, false, false, false] rfl rfl (any_of HT_.out (by kernel_rfl)) (fun _ _ _ h => h) (Or.inl ⟨by rfl, ?_⟩) ?_ ?_
  rotate_left
  · intro w'
    go_simp
    with_reducible rfl
  rotate_left
  · simp only [Act.put, List.setIfInBounds_toArray, List.set_cons_zero, List.set_cons_succ, i64_w, i32_w]
    rfl
  refine pure_ (i := 1) (N := some 7) (v := ?_) (a' := ?_) #[true, true, false, false, false, false, false, false, false, false, false, false] rfl rfl (any_of HT_.out (by kernel_rfl)) (fun _ _ _ h => h) (Or.inl ⟨by rfl, ?_⟩) ?_ ?_
  rotate_left
  · intro w'
    go_simp
    with_reducible rfl
  rotate_left
  · simp only [Act.put, List.setIfInBounds_toArray, List.set_cons_zero, List.set_cons_succ, i64_w, i32_w]
    rfl
  refine pure_ (i := 2) (N := some 8) (v := ?_) (a' := ?_) #[true, true, true, false, false, false, false, false, false, false, false, false] rfl rfl (any_of HT_.out (by kernel_rfl)) (fun _ _ _ h => h) (Or.inl ⟨by rfl, ?_⟩) ?_ ?_
  rotate_left
  · intro w'
    go_simp
    with_reducible rfl
  rotate_left
  · simp only [Act.put, List.setIfInBounds_toArray, List.set_cons_zero, List.set_cons_succ, i64_w, i32_w]
    rfl
  refine take_ (i := 3) (N := some 9) (v := ?_) (a' := ?_) #[true, true, true, true, false, false, false, false, false, false, false, false] rfl rfl (take_ofW HT_.out HW_.out (by kernel_rfl)) (fun _ _ _ h => h) (Or.inl ⟨by rfl, ?_⟩) hHeld ?_ ?_
  rotate_left
  · rintro w' ⟨s0, s1, s2, s3, s4⟩
    go_simp
    with_reducible rfl
  rotate_left
  · simp only [Act.put, List.setIfInBounds_toArray, List.set_cons_zero, List.set_cons_succ, i64_w, i32_w]
    rfl
  refine pure_ (i := 4) (N := some 10) (v := ?_) (a' := ?_) #[true, true, true, true, true, false, false, false, false, false, false, false] rfl rfl (any_of HT_.out (by kernel_rfl)) (fun _ _ _ h => h) (Or.inl ⟨by rfl, ?_⟩) ?_ ?_
  rotate_left
  · intro w'
    go_simp
    with_reducible rfl
  rotate_left
  · simp only [Act.put, List.setIfInBounds_toArray, List.set_cons_zero, List.set_cons_succ, i64_w, i32_w]
    rfl
  refine pure_ (i := 5) (N := some 11) (v := ?_) (a' := ?_) #[true, true, true, true, true, true, false, false, false, false, false, false] rfl rfl (any_of HT_.out (by kernel_rfl)) (fun _ _ _ h => h) (Or.inl ⟨by rfl, ?_⟩) ?_ ?_
  rotate_left
  · intro w'
    go_simp
    with_reducible rfl
  rotate_left
  · simp only [Act.put, List.setIfInBounds_toArray, List.set_cons_zero, List.set_cons_succ, i64_w, i32_w]
    rfl
  refine pure_ (i := 6) (N := some 12) (v := ?_) (a' := ?_) #[true, true, true, true, true, true, true, false, false, false, false, false] rfl rfl (any_of HT_.out (by kernel_rfl)) (fun _ _ _ h => h) (Or.inl ⟨by rfl, ?_⟩) ?_ ?_
  rotate_left
  · intro w'
    go_simp
    with_reducible rfl
  rotate_left
  · simp only [Act.put, List.setIfInBounds_toArray, List.set_cons_zero, List.set_cons_succ, i64_w, i32_w]
    rfl
  refine take_ (i := 7) (N := some 13) (v := ?_) (a' := ?_) #[true, true, true, true, true, true, true, true, false, false, false, false] rfl rfl (take_ofW HT_.out HW_.out (by kernel_rfl)) (fun _ _ _ h => h) (Or.inl ⟨by rfl, ?_⟩) hHeld ?_ ?_
  rotate_left
  · rintro w' ⟨s0, s1, s2, s3, s4⟩
    go_simp
    with_reducible rfl
  rotate_left
  · simp only [Act.put, List.setIfInBounds_toArray, List.set_cons_zero, List.set_cons_succ, i64_w, i32_w]
    rfl
  refine pure_ (i := 8) (N := some 14) (v := ?_) (a' := ?_) #[true, true, true, true, true, true, true, true, true, false, false, false] rfl rfl (any_of HT_.out (by kernel_rfl)) (fun _ _ _ h => h) (Or.inl ⟨by rfl, ?_⟩) ?_ ?_
  rotate_left
  · intro w'
    go_simp
    with_reducible rfl
  rotate_left
  · simp only [Act.put, List.setIfInBounds_toArray, List.set_cons_zero, List.set_cons_succ, i64_w, i32_w]
    rfl
  refine pure_ (i := 9) (N := some 15) (v := ?_) (a' := ?_) #[true, true, true, true, true, true, true, true, true, true, false, false] rfl rfl (any_of HT_.out (by kernel_rfl)) (fun _ _ _ h => h) (Or.inl ⟨by rfl, ?_⟩) ?_ ?_
  rotate_left
  · intro w'
    go_simp
    with_reducible rfl
  rotate_left
  · simp only [Act.put, List.setIfInBounds_toArray, List.set_cons_zero, List.set_cons_succ, i64_w, i32_w]
    rfl
  refine take_ (i := 10) (N := some 16) (v := ?_) (a' := ?_) #[true, true, true, true, true, true, true, true, true, true, true, false] rfl rfl (take_ofW HT_.out HW_.out (by kernel_rfl)) (fun _ _ _ h => h) (Or.inl ⟨by rfl, ?_⟩) hHeld ?_ ?_
  rotate_left
  · rintro w' ⟨s0, s1, s2, s3, s4⟩
    go_simp
    with_reducible rfl
  rotate_left
  · simp only [Act.put, List.setIfInBounds_toArray, List.set_cons_zero, List.set_cons_succ, i64_w, i32_w]
    rfl
  refine last_ (i := 11) (N := none) #[true, true, true, true, true, true, true, true, true, true, true, true] rfl rfl (one_of HT_.out (by kernel_rfl)) (by decide) (fun K hK => ?_)
  have hb : ((W.alloc (.cells #[.int .i64 0, .int .i64 0, .int .i64 0] 64)).drew).heap[W.heap.size]? = some (.cells #[.int .i64 0, .int .i64 0, .int .i64 0] 64 (0, 0)) := blk_drew (blk_new W _)
  refine skip_ (by rfl) rfl (w1 := ((((W.alloc (.cells #[.int .i64 0, .int .i64 0, .int .i64 0] 64)).drew).setCell ⟨W.heap.size, 0, none⟩ (.int .i64 (nd ns root).rn)).setCell ⟨W.heap.size, 1, none⟩ (.int .i64 (nd ns root).ln)).setCell ⟨W.heap.size, 2, none⟩ (.int .i64 (nd ns root).bn)) ?hr ?_
  case hr => go_simp
  refine hK.out _ _ ?_
  clear hK K
  refine done_ (done_of HT_.out (by kernel_rfl)) ?_
  go_wp2
  refine bodyPost_ret (results_cell_row rfl _ _ W.heap.size 64 #[.int .i64 (nd ns root).rn, .int .i64 (nd ns root).ln, .int .i64 (nd ns root).bn] (0, 0) _ rfl (blk_put (blk_put (blk_put (blk_drew (blk_new W _)) 0 _ rfl) 1 _ rfl) 2 _ rfl) Try.underlying64 rfl (by kernel_rfl)) rfl ⟨rfl, ?_⟩
  exact (((HBEL.out.setCell (Nat.le_refl _) _).setCell (Nat.le_refl _) _).setCell (Nat.le_refl _) _)

theorem whole_nil (W : World) : Calls Try.prog 34 #[.pointer none] W fun e w' => e = .returned (.agg #[.int .i64 0, .int .i64 0, .int .i64 0]) ∧ Below W.heap.size W w' := by
  go_enter Try.func34, Try.ntmps34
  go_wp2
  refine bodyPost_ret (results_cell_row rfl _ _ W.heap.size 64 #[.int .i64 0, .int .i64 0, .int .i64 0] (0, 0) _ rfl (by simpa using blk_new W _) Try.underlying64 rfl (by kernel_rfl)) rfl ⟨rfl, ?_⟩
  exact below_alloc (Below.refl _ _) _

theorem fld0 (a b c : Int) (w : World) : (Instr.field 64 (.agg #[.int .i64 a, .int .i64 b, .int .i64 c]) 0).run Try.prog w = .ok (.int .i64 a) w := by kernel_rfl
theorem fld1 (a b c : Int) (w : World) : (Instr.field 64 (.agg #[.int .i64 a, .int .i64 b, .int .i64 c]) 1).run Try.prog w = .ok (.int .i64 b) w := by kernel_rfl
theorem len_calls (base g : Nat) (v : Value) (ns : List Node) (root : Int) (W : World) (h : RopeAt base W g v ns root) (h0 : 0 ≤ root) (h1 : root < ns.length) :
    Calls Try.prog 11 #[.pointer (some ⟨g, 0, none⟩)] W fun e w' => e = .returned (.int .i64 (nd ns root).rn) ∧ Below W.heap.size W w' := by
  have H := Aside0.mk h
  clear h
  have hf := fld0
  go_enter Try.func11, Try.ntmps11
  go_wp2_with (go_at_call 34; refine (whole_calls base g v ns root _ H.out h0 h1).mono ?_; rintro e w1 ⟨rfl, hb⟩)
  go_ret
  exact ⟨rfl, hb⟩
theorem len_nil (W : World) : Calls Try.prog 11 #[.pointer none] W fun e w' => e = .returned (.int .i64 0) ∧ Below W.heap.size W w' := by
  have hf := fld0
  go_enter Try.func11, Try.ntmps11
  go_wp2_with (go_at_call 34; refine (whole_nil _).mono ?_; rintro e w1 ⟨rfl, hb⟩)
  go_ret
  exact ⟨rfl, hb⟩
theorem lines_calls (base g : Nat) (v : Value) (ns : List Node) (root : Int) (W : World) (h : RopeAt base W g v ns root) (h0 : 0 ≤ root) (h1 : root < ns.length) (hl0 : 0 ≤ (nd ns root).ln) (hl1 : (nd ns root).ln ≤ 1000000) :
    Calls Try.prog 13 #[.pointer (some ⟨g, 0, none⟩)] W fun e w' => e = .returned (.int .i64 ((nd ns root).ln + 1)) ∧ Below W.heap.size W w' := by
  have H := Aside0.mk h
  clear h
  have hf := fld1
  go_enter Try.func13, Try.ntmps13
  go_wp2_with (go_at_call 34; refine (whole_calls base g v ns root _ H.out h0 h1).mono ?_; rintro e w1 ⟨rfl, hb⟩)
  go_ret
  exact ⟨rfl, hb⟩
theorem lines_nil (W : World) : Calls Try.prog 13 #[.pointer none] W fun e w' => e = .returned (.int .i64 1) ∧ Below W.heap.size W w' := by
  have hf := fld1
  go_enter Try.func13, Try.ntmps13
  go_wp2_with (go_at_call 34; refine (whole_nil _).mono ?_; rintro e w1 ⟨rfl, hb⟩)
  go_ret
  exact ⟨rfl, hb⟩
/-- Are these places? -/
def btw (n a b : Int) : Bool := decide (0 ≤ a) && decide (a ≤ b) && decide (b ≤ n)
theorem between_calls (base g : Nat) (v : Value) (ns : List Node) (root a b : Int) (W : World) (h : RopeAt base W g v ns root) (h0 : 0 ≤ root) (h1 : root < ns.length) :
    Calls Try.prog 31 #[.pointer (some ⟨g, 0, none⟩), .int .i64 a, .int .i64 b] W fun e w' => e = .returned (.bool (btw (nd ns root).rn a b)) ∧ Below W.heap.size W w' := by
  have H := Aside0.mk h
  clear h
  have hbel := Below.refl W.heap.size W
  by_cases c1 : 0 ≤ a
  · by_cases c2 : a ≤ b
    · have c1b : decide (0 ≤ a) = true := decide_eq_true c1
      have c2b : decide (a ≤ b) = true := decide_eq_true c2
      have HE : Aside0 (btw (nd ns root).rn a b = decide (b ≤ (nd ns root).rn)) := ⟨by unfold btw; rw [c1b, c2b]; rfl⟩
      clear c1b c2b
      go_enter Try.func31, Try.ntmps31
      go_wp2_with (go_at_call 11; refine (len_calls base g v ns root _ H.out h0 h1).mono ?_; rintro e w1 ⟨rfl, hb⟩)
      go_ret
      exact ⟨by rw [HE.out]; rfl, hb⟩
    · have c2b : decide (a ≤ b) = false := decide_eq_false c2
      have HE : Aside0 (btw (nd ns root).rn a b = false) := ⟨by unfold btw; rw [c2b]; simp⟩
      go_enter Try.func31, Try.ntmps31
      go_wp2_with fail
      go_ret
      exact ⟨by rw [HE.out]; rfl, hbel⟩
  · have c1b : decide (0 ≤ a) = false := decide_eq_false c1
    have HE : Aside0 (btw (nd ns root).rn a b = false) := ⟨by unfold btw; rw [c1b]; simp⟩
    go_enter Try.func31, Try.ntmps31
    go_wp2_with fail
    go_ret
    exact ⟨by rw [HE.out]; rfl, hbel⟩
theorem between_nil (a b : Int) (W : World) : Calls Try.prog 31 #[.pointer none, .int .i64 a, .int .i64 b] W fun e w' => e = .returned (.bool (btw 0 a b)) ∧ Below W.heap.size W w' := by
  have hbel := Below.refl W.heap.size W
  by_cases c1 : 0 ≤ a
  · by_cases c2 : a ≤ b
    · have c1b : decide (0 ≤ a) = true := decide_eq_true c1
      have c2b : decide (a ≤ b) = true := decide_eq_true c2
      have HE : Aside0 (btw 0 a b = decide (b ≤ 0)) := ⟨by unfold btw; rw [c1b, c2b]; rfl⟩
      clear c1b c2b
      go_enter Try.func31, Try.ntmps31
      go_wp2_with (go_at_call 11; refine (len_nil _).mono ?_; rintro e w1 ⟨rfl, hb⟩)
      go_ret
      exact ⟨by rw [HE.out]; rfl, hb⟩
    · have c2b : decide (a ≤ b) = false := decide_eq_false c2
      have HE : Aside0 (btw 0 a b = false) := ⟨by unfold btw; rw [c2b]; simp⟩
      go_enter Try.func31, Try.ntmps31
      go_wp2_with fail
      go_ret
      exact ⟨by rw [HE.out]; rfl, hbel⟩
  · have c1b : decide (0 ≤ a) = false := decide_eq_false c1
    have HE : Aside0 (btw 0 a b = false) := ⟨by unfold btw; rw [c1b]; simp⟩
    go_enter Try.func31, Try.ntmps31
    go_wp2_with fail
    go_ret
    exact ⟨by rw [HE.out]; rfl, hbel⟩
end Go.Proofs.Ytepcdjkpmchobaa.Rope
