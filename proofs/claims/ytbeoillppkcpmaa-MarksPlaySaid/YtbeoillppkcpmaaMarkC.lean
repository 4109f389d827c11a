/- may, Add and Get answer, and Add puts a range at the end. For at most 1000000 ranges. -/
import Derived.Laws.Cover3
import Derived.Test.YtbeoillppkcpmaaMarkB
namespace Go.Proofs.Ytbeoillppkcpmaa.Mark
open Go.RowKit Go.Proofs.YtbeoillppkcpmaaW.PrintWords Go.Proofs.YtbeoillppkcpmaaW.PrintLast Go.Proofs.YtbeoillppkcpmaaW.PrintMore Go.Proofs.Ytbeoillppkcpmaa.PMarksPlay
attribute [local go_sem] max2_int min2_int max_two min_two max_three min_three max_four min_four
set_option linter.unusedVariables false
set_option linter.unusedSimpArgs false

theorem info64 : (Try.prog.info? 64).map (fun i => (i.zero, i.size, i.bytes)) = some (some (.agg #[.int .i64 0, .int .i64 0, .bool false, .bool false, .int .i64 0]), 5, 32) := by kernel_rfl
def mayB (a b : Int) : Bool := decide (0 ≤ a ∧ a ≤ b ∧ b ≤ 2147483648)
theorem may_calls (a b : Int) (c d : Bool) (W : World) : Calls Try.prog 22 #[.agg #[.int .i64 a, .int .i64 b, .bool c, .bool d]] W fun e w' => e = .returned (.bool (mayB a b)) ∧ Below W.heap.size W w' := by
  refine marks_may.calls a b c d (mayB a b) W ?_
  unfold marks_may.f mayB
  by_cases h1 : 0 ≤ a
  · rw [if_pos h1]
    by_cases h2 : a ≤ b
    · rw [if_pos h2]
      by_cases h3 : b ≤ 2147483648
      · rw [decide_eq_true h3, decide_eq_true ⟨h1, h2, h3⟩]
      · rw [decide_eq_false h3, decide_eq_false (fun h => h3 h.2.2)]
    · rw [if_neg h2, decide_eq_false (fun h => h2 h.2.1)]
  · rw [if_neg h1, decide_eq_false (fun h => h1 h.1)]
theorem MarksAt.set1 {base : Nat} {W : World} {g : Nat} {v : Value} {ms : List S64} {last : Int} (h : MarksAt base W g v ms last) (x : Int) :
    MarksAt base (W.setCell ⟨g, 1, none⟩ (.int .i64 x)) g v ms x ∧ Mv base g v v W (W.setCell ⟨g, 1, none⟩ (.int .i64 x)) :=
  ⟨⟨by simpa using blk_set h.1 1 (.int .i64 x), h.2.1, Kd.R_set h.2.2 h.1 (by decide) 1 _⟩, ⟨(Below.refl base W).setCell h.2.1 _, (KeepBut.refl W g v.ownBlock).set_ 1 _, fun _ hk => .inl hk⟩⟩
theorem mv_set0 {base g : Nat} {v v1 : Value} {ms : List S64} {last : Int} {W w1 : World} {o : Obj} (h : MarksAt base W g v ms last)
    (hgr : ((W.drew).alloc o).grownBy w1 v.ownBlock ∨ (W.drew).grownBy w1 v.ownBlock) (hat : v1.ownBlock = v.ownBlock ∨ ∃ b, v1.ownBlock = some b ∧ W.heap.size ≤ b) : Mv base g v v1 W (w1.setCell ⟨g, 0, none⟩ v1) := by
  have hbW := h.hb
  refine ⟨?_, ?_, ?_⟩
  · rcases hgr with hgr | hgr
    · exact (((Below.refl base W).drew.alloc hbW o).grown hgr (by simpa using Nat.le_succ_of_le hbW) (fun k hk => Kd.R_base h.2.2 k hk)).setCell h.2.1 _
    · exact (((Below.refl base W).drew).grown hgr hbW (fun k hk => Kd.R_base h.2.2 k hk)).setCell h.2.1 _
  · rcases hgr with hgr | hgr
    · exact (((KeepBut.of_grown (World.grownBy_alloc W.drew o v.ownBlock) g).trans (KeepBut.of_grown hgr g) (.inl rfl))).set_ 0 v1
    · exact (KeepBut.of_grown (w := W.drew) hgr g).set_ 0 v1
  · intro k hk
    rcases hat with hat | ⟨b, hb, hlb⟩
    · exact .inl (hat ▸ hk)
    · rw [hb] at hk
      injection hk with hk
      subst hk
      exact .inr hlb
/-! ### Add -/
theorem add_bad (base g : Nat) (v : Value) (ms : List S64) (last a b : Int) (c d : Bool) (W : World) (h : MarksAt base W g v ms last) (hm : mayB a b = false) :
    Calls Try.prog 7 #[.pointer (some ⟨g, 0, none⟩), .agg #[.int .i64 a, .int .i64 b, .bool c, .bool d]] W fun e w' => e = .returned (.tuple #[.int .i64 0, .int .i64 1]) ∧ Below W.heap.size W w' := by
  have HW : Aside0 (Below W.heap.size W (W.alloc (.cells #[.int .i64 a, .int .i64 b, .bool c, .bool d] 30))) := ⟨below_alloc (Below.refl _ _) _⟩
  clear h
  go_enter Try.func7, Try.ntmps7
  go_wp2_with fail
  refine (may_calls a b c d _).mono ?_
  rintro e w1 ⟨rfl, hb1⟩
  have HB1 := Aside0.mk (below_then HW.out HW.out.size hb1)
  clear hb1
  go_wp2_with fail
  go_ret2
  exact ⟨rfl, HB1.out⟩
theorem add_nil (a b : Int) (c d : Bool) (W : World) (hm : mayB a b = true) :
    Calls Try.prog 7 #[.pointer none, .agg #[.int .i64 a, .int .i64 b, .bool c, .bool d]] W fun e w' => e = .returned (.tuple #[.int .i64 0, .int .i64 3]) ∧ Below W.heap.size W w' := by
  have HW : Aside0 (Below W.heap.size W (W.alloc (.cells #[.int .i64 a, .int .i64 b, .bool c, .bool d] 30))) := ⟨below_alloc (Below.refl _ _) _⟩
  go_enter Try.func7, Try.ntmps7
  go_wp2_with fail
  refine (may_calls a b c d _).mono ?_
  rintro e w1 ⟨rfl, hb1⟩
  have HB1 := Aside0.mk (below_then HW.out HW.out.size hb1)
  clear hb1
  go_wp2_with fail
  go_ret2
  exact ⟨rfl, HB1.out⟩
theorem add_full (base g : Nat) (v : Value) (ms : List S64) (last a b : Int) (c d : Bool) (W : World) (h : MarksAt base W g v ms last) (hm : mayB a b = true) (hf : 60 ≤ ms.length) :
    Calls Try.prog 7 #[.pointer (some ⟨g, 0, none⟩), .agg #[.int .i64 a, .int .i64 b, .bool c, .bool d]] W fun e w' => e = .returned (.tuple #[.int .i64 0, .int .i64 3]) ∧ Below W.heap.size W w' := by
  have HW : Aside0 (Below W.heap.size W (W.alloc (.cells #[.int .i64 a, .int .i64 b, .bool c, .bool d] 30))) := ⟨below_alloc (Below.refl _ _) _⟩
  obtain ⟨A, cc, rfl, hc, hc0, hc1, hf0, hf1, hr⟩ := h.open_
  have hfb : decide ((60 : Int) ≤ ms.length) = true := decide_eq_true (by omega)
  clear h hr
  go_enter Try.func7, Try.ntmps7
  go_wp2_with fail
  refine (may_calls a b c d _).mono ?_
  rintro e w1 ⟨rfl, hb1⟩
  have HB1 := Aside0.mk (below_then HW.out HW.out.size hb1)
  have hq := pw_cell_below HB1.out hc0
  clear hb1
  go_wp2_with fail
  go_ret2
  exact ⟨rfl, HB1.out⟩
def addM.T6 : Bool × List (List Nat × List Nat) := (true, [([], []), ([], []), ([1], [1]), ([2], [2]), ([3], [3]), ([], []), ([], []), ([6], [6]), ([7], [7]), ([8], [8]), ([5, 9], [5, 9]), ([10], [10]), ([4, 11], [4, 11]), ([0, 0, 1, 2, 3, 4, 5, 6, 7, 8, 9, 10, 11, 12], [0]), ([13, 0, 1, 2, 3, 4, 5, 6, 7, 8, 9, 10, 11, 12], [13]), ([14, 12, 12, 0, 1, 2, 3, 4, 5, 6, 7, 8, 9, 10, 11, 12], [12, 14])])
def addM.B6 : List Nat := [0, 0, 2, 6, 14, 0, 0, 64, 192, 448, 992, 2016, 4094, 8191, 16383, 32767]
theorem addM.tab6 : rtab .any (opsOf Try.f7 6) = addM.T6 := by kernel_rfl
theorem addM.bits6 : waitsOk addM.T6.2 addM.B6 = true := by kernel_rfl

set_option maxHeartbeats 2000000 in
theorem add_ok (base g : Nat) (v : Value) (ms : List S64) (last a b : Int) (c d : Bool) (W : World) (h : MarksAt base W g v ms last) (hm : mayB a b = true) (hf : ms.length < 60) (hl0 : 0 ≤ last) (hl1 : last ≤ 1000000) :
    Calls Try.prog 7 #[.pointer (some ⟨g, 0, none⟩), .agg #[.int .i64 a, .int .i64 b, .bool c, .bool d]] W fun e w' => ∃ v', e = .returned (.tuple #[.int .i64 (last + 1), .int .i64 0]) ∧ MarksAt base w' g v' (ms ++ [⟨⟨⟨a, b⟩, c, d⟩, last + 1⟩]) (last + 1) ∧ Mv base g v v' W w' := by
  have HW : Aside0 (Below W.heap.size W (W.alloc (.cells #[.int .i64 a, .int .i64 b, .bool c, .bool d] 30))) := ⟨below_alloc (Below.refl _ _) _⟩
  have H := Aside0.mk h
  obtain ⟨A, cc, rfl, hc, hc0, hc1, hf0, hf1, hr⟩ := h.open_
  have hfb : decide ((60 : Int) ≤ ms.length) = false := decide_eq_false (by omega)
  clear h hr hf0 hf1
  go_enter Try.func7, Try.ntmps7
  go_wp2_with fail
  refine (may_calls a b c d _).mono ?_
  rintro e w1 ⟨rfl, hb1⟩
  have HB1 := Aside0.mk (below_then HW.out HW.out.size hb1)
  have H1 := Aside0.mk (H.out.below HB1.out)
  have X1 : Aside0 (w1.heap[W.heap.size]? = some (.cells #[.int .i64 a, .int .i64 b, .bool c, .bool d] 30)) := ⟨blk_below (blk_new W _) hb1⟩
  have hq0 := pw_cell_below HB1.out hc0
  have hq1 := pw_cell_below HB1.out hc1
  have hf1 := blk_frozen H1.out.1 1
  clear hb1 hc0 hc1
  go_wp2_with fail
  obtain ⟨w3, hw3⟩ : ∃ w3, w1.setCell ⟨g, 1, none⟩ (.int .i64 (last + 1)) = w3 := ⟨_, rfl⟩
  have H3 : Aside0 (MarksAt base w3 g (.slice A ms.length cc) ms (last + 1)) := ⟨by rw [← hw3]; exact (H1.out.set1 _).1⟩
  have V3 : Aside0 (Mv base g (.slice A ms.length cc) (.slice A ms.length cc) W w3) := ⟨by rw [← hw3]; exact (Mv.of_below HB1.out H.out.hb).trans (H1.out.set1 _).2⟩
  have X3 : Aside0 (w3.heap[W.heap.size]? = some (.cells #[.int .i64 a, .int .i64 b, .bool c, .bool d] 30)) := ⟨by rw [← hw3]; exact blk_far X1.out (p := ⟨g, 1, none⟩) (by have := H.out.lt; show W.heap.size ≠ g; omega) _⟩
  rw [hw3]
  clear hw3 hq0 hq1 hf1
  refine start_ (n := 16) (S := fun w' => w'.cell? ⟨g, 0, none⟩ = some (.slice A ms.length cc) ∧ w'.cell? ⟨g, 1, none⟩ = some (.int .i64 (last + 1)) ∧ w'.cell? ⟨W.heap.size, 0, none⟩ = some (.int .i64 a) ∧ w'.cell? ⟨W.heap.size, 1, none⟩ = some (.int .i64 b) ∧ w'.cell? ⟨W.heap.size, 2, none⟩ = some (.bool c) ∧ w'.cell? ⟨W.heap.size, 3, none⟩ = some (.bool d)) (ds := [15]) #[false, false, false, false, false, false, false, false, false, false, false, false, false, false, false, false] (by kernel_rfl) rfl rfl ⟨(blk_cell (blk_drew H3.out.1) 0).trans rfl, (blk_cell (blk_drew H3.out.1) 1).trans rfl, (blk_cell (blk_drew X3.out) 0).trans rfl, (blk_cell (blk_drew X3.out) 1).trans rfl, (blk_cell (blk_drew X3.out) 2).trans rfl, (blk_cell (blk_drew X3.out) 3).trans rfl⟩ (fun hHeld => ?_); refine with_tabW addM.tab6 addM.bits6 (fun HT_ HW_ => ?_)
  refine pure_ (i := 0) (N := some 28) (v := ?_) (a' := ?_) #[true, false, false, false, false, false, false, false, false, false, false, false, false, false, false, false] rfl rfl (any_of HT_.out (by kernel_rfl)) (fun _ _ _ h => h) (Or.inl ⟨by rfl, ?_⟩) ?_ ?_
  rotate_left
  · intro w'
    go_simp
    with_reducible rfl
  rotate_left
  · simp only [Act.put, List.setIfInBounds_toArray, List.set_cons_zero, List.set_cons_succ, i64_w, i32_w]
    rfl
  refine pure_ (i := 1) (N := some 29) (v := ?_) (a' := ?_) #[true, true, false, false, false, false, false, false, false, false, false, false, false, false, false, false] rfl rfl (any_of HT_.out (by kernel_rfl)) (fun _ _ _ h => h) (Or.inl ⟨by rfl, ?_⟩) ?_ ?_
  rotate_left
  · intro w'
    go_simp
    with_reducible rfl
  rotate_left
  · simp only [Act.put, List.setIfInBounds_toArray, List.set_cons_zero, List.set_cons_succ, i64_w, i32_w]
    rfl
  refine pure_ (i := 2) (N := some 30) (v := ?_) (a' := ?_) #[true, true, true, false, false, false, false, false, false, false, false, false, false, false, false, false] rfl rfl (any_of HT_.out (by kernel_rfl)) (fun _ _ _ h => h) (Or.inl ⟨by rfl, ?_⟩) ?_ ?_
  rotate_left
  · intro w'
    go_simp
    with_reducible rfl
  rotate_left
  · simp only [Act.put, List.setIfInBounds_toArray, List.set_cons_zero, List.set_cons_succ, i64_w, i32_w]
    rfl
  refine pure_ (i := 3) (N := some 31) (v := ?_) (a' := ?_) #[true, true, true, true, false, false, false, false, false, false, false, false, false, false, false, false] rfl rfl (any_of HT_.out (by kernel_rfl)) (fun _ _ _ h => h) (Or.inl ⟨by rfl, ?_⟩) ?_ ?_
  rotate_left
  · intro w'
    go_simp
    with_reducible rfl
  rotate_left
  · simp only [Act.put, List.setIfInBounds_toArray, List.set_cons_zero, List.set_cons_succ, i64_w, i32_w]
    rfl
  refine take_ (i := 4) (N := some 32) (v := ?_) (a' := ?_) #[true, true, true, true, true, false, false, false, false, false, false, false, false, false, false, false] rfl rfl (take_ofW HT_.out HW_.out (by kernel_rfl)) (fun _ _ _ h => h) (Or.inl ⟨by rfl, ?_⟩) hHeld ?_ ?_
  rotate_left
  · rintro w' ⟨s0, s1, s2, s3, s4, s5⟩
    go_simp
    with_reducible rfl
  rotate_left
  · simp only [Act.put, List.setIfInBounds_toArray, List.set_cons_zero, List.set_cons_succ, i64_w, i32_w]
    rfl
  refine take_ (i := 5) (N := some 33) (v := ?_) (a' := ?_) #[true, true, true, true, true, true, false, false, false, false, false, false, false, false, false, false] rfl rfl (take_ofW HT_.out HW_.out (by kernel_rfl)) (fun _ _ _ h => h) (Or.inl ⟨by rfl, ?_⟩) hHeld ?_ ?_
  rotate_left
  · rintro w' ⟨s0, s1, s2, s3, s4, s5⟩
    go_simp
    with_reducible rfl
  rotate_left
  · simp only [Act.put, List.setIfInBounds_toArray, List.set_cons_zero, List.set_cons_succ, i64_w, i32_w]
    rfl
  refine pure_ (i := 6) (N := some 34) (v := ?_) (a' := ?_) #[true, true, true, true, true, true, true, false, false, false, false, false, false, false, false, false] rfl rfl (any_of HT_.out (by kernel_rfl)) (fun _ _ _ h => h) (Or.inl ⟨by rfl, ?_⟩) ?_ ?_
  rotate_left
  · intro w'
    go_simp
    with_reducible rfl
  rotate_left
  · simp only [Act.put, List.setIfInBounds_toArray, List.set_cons_zero, List.set_cons_succ, i64_w, i32_w]
    rfl
  refine pure_ (i := 7) (N := some 35) (v := ?_) (a' := ?_) #[true, true, true, true, true, true, true, true, false, false, false, false, false, false, false, false] rfl rfl (any_of HT_.out (by kernel_rfl)) (fun _ _ _ h => h) (Or.inl ⟨by rfl, ?_⟩) ?_ ?_
  rotate_left
  · intro w'
    go_simp
    with_reducible rfl
  rotate_left
  · simp only [Act.put, List.setIfInBounds_toArray, List.set_cons_zero, List.set_cons_succ, i64_w, i32_w]
    rfl
  refine pure_ (i := 8) (N := some 36) (v := ?_) (a' := ?_) #[true, true, true, true, true, true, true, true, true, false, false, false, false, false, false, false] rfl rfl (any_of HT_.out (by kernel_rfl)) (fun _ _ _ h => h) (Or.inl ⟨by rfl, ?_⟩) ?_ ?_
  rotate_left
  · intro w'
    go_simp
    with_reducible rfl
  rotate_left
  · simp only [Act.put, List.setIfInBounds_toArray, List.set_cons_zero, List.set_cons_succ, i64_w, i32_w]
    rfl
  refine take_ (i := 9) (N := some 37) (v := ?_) (a' := ?_) #[true, true, true, true, true, true, true, true, true, true, false, false, false, false, false, false] rfl rfl (take_ofW HT_.out HW_.out (by kernel_rfl)) (fun _ _ _ h => h) (Or.inl ⟨by rfl, ?_⟩) hHeld ?_ ?_
  rotate_left
  · rintro w' ⟨s0, s1, s2, s3, s4, s5⟩
    go_simp
    with_reducible rfl
  rotate_left
  · simp only [Act.put, List.setIfInBounds_toArray, List.set_cons_zero, List.set_cons_succ, i64_w, i32_w]
    rfl
  refine pure_ (i := 10) (N := some 38) (v := .agg #[.int .i64 a, .int .i64 b, .bool c, .bool d, .int .i64 (last + 1)]) (a' := ?paaddM_10_1) #[true, true, true, true, true, true, true, true, true, true, true, false, false, false, false, false] rfl rfl (any_of HT_.out (by kernel_rfl)) (fun _ _ _ h => h) (Or.inl ⟨by rfl, ?pyaddM_10_1⟩) ?peaddM_10_1 ?praddM_10_1
  case peaddM_10_1 =>
    simp only [Act.put, List.setIfInBounds_toArray, List.set_cons_zero, List.set_cons_succ, i64_w, i32_w]
    rfl
  case pyaddM_10_1 =>
    intro w'
    go_simp
  refine one_ (i := 11) (N := some 39) #[true, true, true, true, true, true, true, true, true, true, true, true, false, false, false, false] rfl rfl (one_of HT_.out (by kernel_rfl)) (by decide) (fun K hK => ?_)
  refine value_ (by rfl) rfl (v := .slice (some ⟨w3.heap.size, 0, none⟩) 1 1) (w1 := (w3.drew).alloc (.cells #[.int .i64 a, .int .i64 b, .bool c, .bool d, .int .i64 (last + 1)] 64)) ?hr ?_
  case hr => go_simp
  refine hK.out _ _ ⟨(blk_cell (blk_alloc (blk_drew H3.out.1) _) 0).trans rfl, (blk_cell (blk_alloc (blk_drew H3.out.1) _) 1).trans rfl, (blk_cell (blk_alloc (blk_drew X3.out) _) 0).trans rfl, (blk_cell (blk_alloc (blk_drew X3.out) _) 1).trans rfl, (blk_cell (blk_alloc (blk_drew X3.out) _) 2).trans rfl, (blk_cell (blk_alloc (blk_drew X3.out) _) 3).trans rfl⟩ (fun hHeld => ?_)
  clear hK K
  refine norm_ (a' := ?_) ?_ ?_
  rotate_left
  · show Act.put _ (some 39) _ = _
    simp only [Act.put, List.setIfInBounds_toArray, List.set_cons_zero, List.set_cons_succ, i64_w, i32_w]
    rfl
  refine one_ (i := 12) (N := some 40) #[true, true, true, true, true, true, true, true, true, true, true, true, true, false, false, false] rfl rfl (one_of HT_.out (by kernel_rfl)) (by decide) (fun K hK => ?_)
  refine Kd.R_append_step k64 (w0 := w3) (W := w3.drew) base (by rfl) _ _ 58 64 _ 32 (by rfl) Try.underlying58 info64 (by rfl) (by decide) (by decide) (.slice A ms.length cc) ms (⟨⟨⟨a, b⟩, c, d⟩, last + 1⟩ : S64) [.int .i64 a, .int .i64 b, .bool c, .bool d, .int .i64 (last + 1)] (fun _ => True) (fun _ => False) (by rfl) (by rfl) (k64_mkM _ base _ ⟨⟨⟨a, b⟩, c, d⟩, last + 1⟩) (fun _ hk => hk.elim) (fun _ _ => trivial) H3.out.2.2 ((Below.refl base w3).drew) H3.out.hb (by omega) ?_
  intro v1 w4 hown hbel hgr hat
  have hbg : w4.heap[g]? = some (.cells #[.slice A ms.length cc, .int .i64 (last + 1)] 60 (0, 0)) := blk_grown (blk_drew H3.out.1) hgr (Kd.R_ne H3.out.2.2 H3.out.1 (by decide))
  have hbx : w4.heap[W.heap.size]? = some (.cells #[.int .i64 a, .int .i64 b, .bool c, .bool d] 30) := blk_grown (blk_drew X3.out) hgr (Kd.R_ne H3.out.2.2 X3.out (by decide))
  obtain ⟨A1, c1, hv1⟩ := Kd.R_slice hown
  have hlen : (ms ++ [(⟨⟨⟨a, b⟩, c, d⟩, last + 1⟩ : S64)]).length = ms.length + 1 := by simp
  rw [hlen] at hv1
  subst hv1
  refine hK.out _ _ ⟨(blk_cell hbg 0).trans rfl, (blk_cell hbg 1).trans rfl, (blk_cell hbx 0).trans rfl, (blk_cell hbx 1).trans rfl, (blk_cell hbx 2).trans rfl, (blk_cell hbx 3).trans rfl⟩ (fun hHeld => ?_)
  have HN := Aside0.mk hown
  have HG := Aside0.mk hgr
  have HA := Aside0.mk hat
  have HBG := Aside0.mk hbg
  clear hown hgr hat hbg hbx hbel
  clear hK K
  refine norm_ (a' := ?_) ?_ ?_
  rotate_left
  · show Act.put _ (some 40) _ = _
    simp only [Act.put, List.setIfInBounds_toArray, List.set_cons_zero, List.set_cons_succ, i64_w, i32_w]
    rfl
  refine pure_ (i := 13) (N := some 41) (v := ?_) (a' := ?_) #[true, true, true, true, true, true, true, true, true, true, true, true, true, true, false, false] rfl rfl (any_of HT_.out (by kernel_rfl)) (fun _ _ _ h => h) (Or.inl ⟨by rfl, ?_⟩) ?_ ?_
  rotate_left
  · intro w'
    go_simp
    with_reducible rfl
  rotate_left
  · simp only [Act.put, List.setIfInBounds_toArray, List.set_cons_zero, List.set_cons_succ, i64_w, i32_w]
    rfl
  refine pure_ (i := 14) (N := some 42) (v := ?_) (a' := ?_) #[true, true, true, true, true, true, true, true, true, true, true, true, true, true, true, false] rfl rfl (any_of HT_.out (by kernel_rfl)) (fun _ _ _ h => h) (Or.inl ⟨by rfl, ?_⟩) ?_ ?_
  rotate_left
  · intro w'
    go_simp
    with_reducible rfl
  rotate_left
  · simp only [Act.put, List.setIfInBounds_toArray, List.set_cons_zero, List.set_cons_succ, i64_w, i32_w]
    rfl
  refine last_ (i := 15) (N := none) #[true, true, true, true, true, true, true, true, true, true, true, true, true, true, true, true] rfl rfl (one_of HT_.out (by kernel_rfl)) (by decide) (fun K hK => ?_)
  have hfz : w4.frozen? ⟨g, 0, none⟩ = false := blk_frozen HBG.out 0
  have hcz : w4.cell? ⟨g, 0, none⟩ = some (.slice A ms.length cc) := (blk_cell HBG.out 0).trans rfl
  refine skip_ (by rfl) rfl (w1 := w4.setCell ⟨g, 0, none⟩ (.slice A1 (ms.length + 1) c1)) ?hr ?_
  case hr => go_simp
  refine hK.out _ _ ?_
  clear hK K
  refine done_ (done_of HT_.out (by kernel_rfl)) ?_
  have hM : MarksAt base (w4.setCell ⟨g, 0, none⟩ (.slice A1 (ms.length + 1) c1)) g (.slice A1 (ms.length + 1) c1) (ms ++ [⟨⟨⟨a, b⟩, c, d⟩, last + 1⟩]) (last + 1) := ⟨by simpa using blk_set HBG.out 0 (.slice A1 (ms.length + 1) c1), H3.out.2.1, Kd.R_set HN.out HBG.out (by decide) 0 _⟩
  have hV : Mv base g (.slice A ms.length cc) (.slice A1 (ms.length + 1) c1) w3 (w4.setCell ⟨g, 0, none⟩ (.slice A1 (ms.length + 1) c1)) := mv_set0 (o := (.cells #[.int .i64 a, .int .i64 b, .bool c, .bool d] 30)) H3.out (.inr HG.out) HA.out
  have HM5 := Aside0.mk hM
  have HV5 := Aside0.mk hV
  have hq1 := (blk_cell hM.1 1).trans rfl
  clear hM hV
  go_wp2_with fail
  go_ret2
  exact ⟨_, rfl, HM5.out, V3.out.trans HV5.out⟩
/-! ### Get -/
theorem get_calls (base g : Nat) (v : Value) (ms : List S64) (last n : Int) (W : World) (h : MarksAt base W g v ms last) (hl : ms.length ≤ 1000000) (hs : Rising ms) :
    Calls Try.prog 14 #[.pointer (some ⟨g, 0, none⟩), .int .i64 n] W fun e w' => ∃ i, Low ms n i ∧ Below W.heap.size W w' ∧
      ((hit ms i n = false ∧ e = .returned (.tuple #[.agg #[.int .i64 0, .int .i64 0, .bool false, .bool false], .int .i64 4])) ∨
       (hit ms i n = true ∧ ∃ a b c d, ms.getD i z64 = ⟨⟨⟨a, b⟩, c, d⟩, idAt ms i⟩ ∧ e = .returned (.tuple #[.agg #[.int .i64 a, .int .i64 b, .bool c, .bool d], .int .i64 0]))) := by
  have HS := Aside0.mk hs
  have HW : Aside0 (Below W.heap.size W (W.alloc (.cells #[.int .i64 0, .int .i64 0, .bool false, .bool false] 30))) := ⟨below_alloc (Below.refl _ _) _⟩
  have H := Aside0.mk h
  have hbx := fun (w : World) => (show (Instr.build 30 #[]).run Try.prog w = .ok (.agg #[.int .i64 0, .int .i64 0, .bool false, .bool false]) w from by kernel_rfl)
  clear h hs
  go_enter Try.func14, Try.ntmps14
  go_wp2_with fail
  refine (find_calls base g v ms last n _ (H.out.below HW.out) hl HS.out).mono ?_
  rintro e w1 ⟨i, hlow, rfl, hb1⟩
  have HB1 := Aside0.mk (below_then HW.out HW.out.size hb1)
  have X1 : Aside0 (w1.heap[W.heap.size]? = some (.cells #[.int .i64 0, .int .i64 0, .bool false, .bool false] 30)) := ⟨blk_below (blk_new W _) hb1⟩
  have HL := Aside0.mk hlow
  have H1 := Aside0.mk ((H.out.below HW.out).below hb1)
  have f0 := blk_frozen X1.out 0
  have f1 := blk_frozen X1.out 1
  have f2 := blk_frozen X1.out 2
  have f3 := blk_frozen X1.out 3
  have x0 := (blk_cell X1.out 0).trans rfl
  have x1 := (blk_cell X1.out 1).trans rfl
  have x2 := (blk_cell X1.out 2).trans rfl
  have x3 := (blk_cell X1.out 3).trans rfl
  clear hb1 hlow
  cases hh : hit ms i n with
  | false =>
    have HH := Aside0.mk hh
    clear hh
    go_wp2_with fail
    refine bodyPost_ret (results_ct rfl _ _ W.heap.size 30 #[.int .i64 0, .int .i64 0, .bool false, .bool false] (0, 0) _ rfl ?_ Try.underlying30 rfl (by kernel_rfl)) rfl ⟨i, HL.out, ?_, .inl ⟨HH.out, rfl⟩⟩
    · exact blk_put (blk_put (blk_put (blk_put X1.out 0 (.int .i64 0) rfl) 1 (.int .i64 0) rfl) 2 (.bool false) rfl) 3 (.bool false) rfl
    · exact (((HB1.out.setCell (Nat.le_refl _) _).setCell (Nat.le_refl _) _).setCell (Nat.le_refl _) _).setCell (Nat.le_refl _) _
  | true =>
    have HH := Aside0.mk hh
    have hi : i < ms.length := (of_decide_eq_true hh).1
    obtain ⟨A, cc, rfl, hc, hc0, hc1, hf0, hf1, hr⟩ := H1.out.open_
    obtain ⟨ad, a, b, c, d, rfl, hx, y0, y1, y2, y3, y4⟩ := at_item hr i hi
    have HX := Aside0.mk hx
    clear hh hr hc1 hf0 hf1 y4 hx
    go_wp2_with fail
    refine bodyPost_ret (results_ct rfl _ _ W.heap.size 30 #[.int .i64 a, .int .i64 b, .bool c, .bool d] (0, 0) _ rfl ?_ Try.underlying30 rfl (by kernel_rfl)) rfl ⟨i, HL.out, ?_, .inr ⟨HH.out, a, b, c, d, HX.out, rfl⟩⟩
    · exact blk_put (blk_put (blk_put (blk_put X1.out 0 (.int .i64 a) rfl) 1 (.int .i64 b) rfl) 2 (.bool c) rfl) 3 (.bool d) rfl
    · exact (((HB1.out.setCell (Nat.le_refl _) _).setCell (Nat.le_refl _) _).setCell (Nat.le_refl _) _).setCell (Nat.le_refl _) _
end Go.Proofs.Ytbeoillppkcpmaa.Mark
