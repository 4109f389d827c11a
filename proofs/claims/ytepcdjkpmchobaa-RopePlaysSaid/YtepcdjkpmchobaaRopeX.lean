/- The document's answers for ropes as plain functions: Insert, Delete, Between, Starts, Line, Bytes, Right. -/
import Derived.Laws.Cover3
import Derived.Test.YtepcdjkpmchobaaRopeW
namespace Go.Proofs.Ytepcdjkpmchobaa.Rope
open Go.RowKit Go.Proofs.YtepcdjkpmchobaaW.PrintWords Go.Proofs.YtepcdjkpmchobaaW.PrintLast Go.Proofs.YtepcdjkpmchobaaW.PrintMore
attribute [local go_sem] max2_int min2_int max_two min_two max_three min_three max_four min_four
set_option linter.unusedVariables false
set_option linter.unusedSimpArgs false

/-- What the document's Insert and Delete come to: the text as it was, or a text in new memory. -/
def RefR (A : Option Addr) (c : Nat) (t : List Int) (r : List Int × Int) (W : World) (e : Ending) (w' : World) : Prop :=
  ∃ A' c', e = .returned (.tuple #[.slice A' r.1.length c', .int .i64 r.2]) ∧ r.1.length ≤ c' ∧ Below W.heap.size W w' ∧ ((A' = A ∧ c' = c ∧ r.1 = t) ∨ TextAt w' A' r.1)
theorem own_new (W : World) : (W.alloc (.cells #[] 21)).ownsRow W.heap.size 21 1 (.slice (some ⟨W.heap.size, 0, none⟩) 0 0) 0 (nums .i32 []) := own_lit W W.heap.size 21 .i32 [] (Nat.le_refl _) (by simp)
set_option maxHeartbeats 4000000 in
theorem ins_ref (t : List Int) (A : Option Addr) (c : Nat) (p : Int) (l : List Int) (B : Option Addr) (d : Nat) (W : World) (ht : RI W A t) (hc : t.length ≤ c) (hl : RI W B l) (hd : l.length ≤ d) (h1 : t.length ≤ 1000000) (h2 : l.length ≤ 1000000) :
    Calls Try.prog 18 #[.slice A t.length c, .int .i64 p, .slice B l.length d] W (RefR A c t (insF t p l) W) := by
  have HT := Aside0.mk ht
  have HL := Aside0.mk hl
  have HC := Aside0.mk hc
  have HD := Aside0.mk hd
  clear ht hc hl hd
  by_cases c1 : p < 0
  · have E : Aside0 (insF t p l = (t, 1)) := ⟨by unfold insF; rw [if_pos (.inl c1)]⟩
    have c1b : decide (p < 0) = true := decide_eq_true c1
    go_enter Try.func18, Try.ntmps18
    go_wp2_with fail
    refine (all_calls l B d _ HL.out HD.out).mono ?_
    rintro e w1 ⟨rfl, hb1⟩
    have HB := Aside0.mk hb1
    clear hb1
    go_wp2_with fail
    go_ret2
    rw [E.out]
    exact ⟨A, c, rfl, HC.out, HB.out, .inl ⟨rfl, rfl, rfl⟩⟩
  have c1b : decide (p < 0) = false := decide_eq_false c1
  by_cases c2 : (t.length : Int) < p
  · have E : Aside0 (insF t p l = (t, 1)) := ⟨by unfold insF; rw [if_pos (.inr (.inl c2))]⟩
    have c2b : decide ((t.length : Int) < p) = true := decide_eq_true c2
    go_enter Try.func18, Try.ntmps18
    go_wp2_with fail
    refine (all_calls l B d _ HL.out HD.out).mono ?_
    rintro e w1 ⟨rfl, hb1⟩
    have HB := Aside0.mk hb1
    clear hb1
    go_wp2_with fail
    go_ret2
    rw [E.out]
    exact ⟨A, c, rfl, HC.out, HB.out, .inl ⟨rfl, rfl, rfl⟩⟩
  have c2b : decide ((t.length : Int) < p) = false := decide_eq_false c2
  by_cases c3 : okt l = false
  · have E : Aside0 (insF t p l = (t, 1)) := ⟨by unfold insF; rw [if_pos (.inr (.inr c3))]⟩
    go_enter Try.func18, Try.ntmps18
    go_wp2_with fail
    refine (all_calls l B d _ HL.out HD.out).mono ?_
    rintro e w1 ⟨rfl, hb1⟩
    have HB := Aside0.mk hb1
    clear hb1
    go_wp2_with fail
    go_ret2
    rw [E.out]
    exact ⟨A, c, rfl, HC.out, HB.out, .inl ⟨rfl, rfl, rfl⟩⟩
  have c3b : okt l = true := by simpa using c3
  by_cases c4 : 2000 < t.length + l.length
  · have E : Aside0 (insF t p l = (t, 3)) := ⟨by unfold insF; rw [if_neg (by simp [c1, c2, c3b]), if_pos c4]⟩
    have c4b : decide ((2000 : Int) < t.length + l.length) = true := decide_eq_true (by omega)
    clear c3
    go_enter Try.func18, Try.ntmps18
    go_wp2_with fail
    refine (all_calls l B d _ HL.out HD.out).mono ?_
    rintro e w1 ⟨rfl, hb1⟩
    have HB := Aside0.mk hb1
    clear hb1
    go_wp2_with fail
    go_ret2
    rw [E.out]
    exact ⟨A, c, rfl, HC.out, HB.out, .inl ⟨rfl, rfl, rfl⟩⟩
  have E : Aside0 (insF t p l = (t.take p.toNat ++ l ++ t.drop p.toNat, 0)) := ⟨by unfold insF; rw [if_neg (by simp [c1, c2, c3b]), if_neg c4]⟩
  have c4b : decide ((2000 : Int) < t.length + l.length) = false := decide_eq_false (by omega)
  clear c3
  have p0 : (0 : Int) ≤ p := by omega
  have p1 : p ≤ (t.length : Int) := by omega
  have hsl := slice_hi A c t p p0 p1 HC.out
  obtain ⟨A', hsd, hA', hcd⟩ := slice_lo A c t p p0 p1 HC.out
  have ht1 : ∀ W, RI W A t → Kd.C (Kd.int .i32) W A (t.take p.toNat).length (t.take p.toNat) := fun W h => Kd.C_take h (by omega)
  have HT1 := Aside0.mk ht1
  have HA' := Aside0.mk hA'
  obtain ⟨x1, hx1⟩ : ∃ x, t.take p.toNat = x := ⟨_, rfl⟩
  obtain ⟨x2, hx2⟩ : ∃ x, t.drop p.toNat = x := ⟨_, rfl⟩
  have HL1 : Aside0 (x1.length ≤ 1000000) := ⟨by rw [← hx1, List.length_take]; omega⟩
  have HL2 : Aside0 (x2.length ≤ 1000000) := ⟨by rw [← hx2, List.length_drop]; omega⟩
  have HL3 := Aside0.mk h2
  rw [hx1] at hsl HT1 E
  rw [hx2] at hsd HA' E
  clear hA' hcd ht1 hx1 hx2
  go_enter Try.func18, Try.ntmps18
  go_wp2_with fail
  refine (all_calls l B d _ HL.out HD.out).mono ?_
  rintro e w1 ⟨rfl, hb1⟩
  have HB1 := Aside0.mk hb1
  clear hb1
  have HO1 := Aside0.mk (own_less (own_new w1) HB1.out.size)
  have HW1 := Aside0.mk (below_alloc HB1.out (.cells #[] 21))
  go_wp2_with (first | ((with_reducible refine gate_builtin (b := .append) (xs := #[.tmp 32, .tmp 35]) rfl ?_); at_builtin; refine print_append_row (w0 := W) W.heap.size rfl (.tmp 32) (.tmp 35) 22 21 .i32 4 rfl Try.underlying22 info21 (by decide) (.slice (some ⟨w1.heap.size, 0, none⟩) 0 0) ([]) (x1) A x1.length c rfl rfl ?aO ?aR ?aB ?aS ?aL ?_; (case aO => exact HO1.out); (case aR => exact Kd.reads_of_C (d := (0 : Int)) (HT1.out _ (HT.out.below HW1.out))); (case aB => exact HW1.out); (case aS => exact (HW1.out).size); (case aL => have := HL1.out; have := HL2.out; have := HL3.out; simp only [List.length_append, List.length_nil]; omega); intro v2 w2 ho2 hb2 hg2 hat2; have HB2 := Aside0.mk hb2; have HO2 := Aside0.mk ho2; obtain ⟨A2, c2', hv2⟩ := own_slice ho2; obtain ⟨n2, hn2⟩ : ∃ n, ([] ++ x1).length = n := ⟨_, rfl⟩; rw [hn2] at hv2; subst hv2; have HN2 := Aside0.mk hn2; clear ho2 hb2 hg2 hat2 hn2) | ((with_reducible refine gate_builtin (b := .append) (xs := #[.tmp 37, .tmp 38]) rfl ?_); at_builtin; refine print_append_row (w0 := W) W.heap.size rfl (.tmp 37) (.tmp 38) 22 21 .i32 4 rfl Try.underlying22 info21 (by decide) (.slice A2 n2 c2') ([] ++ x1) (l) B l.length d rfl rfl ?aO ?aR ?aB ?aS ?aL ?_; (case aO => exact HO2.out); (case aR => exact Kd.reads_of_C (d := (0 : Int)) (HL.out.below HB2.out)); (case aB => exact HB2.out); (case aS => exact (HB2.out).size); (case aL => have := HL1.out; have := HL2.out; have := HL3.out; simp only [List.length_append, List.length_nil]; omega); intro v3 w3 ho3 hb3 hg3 hat3; have HB3 := Aside0.mk hb3; have HO3 := Aside0.mk ho3; obtain ⟨A3, c3', hv3⟩ := own_slice ho3; obtain ⟨n3, hn3⟩ : ∃ n, ([] ++ x1 ++ l).length = n := ⟨_, rfl⟩; rw [hn3] at hv3; subst hv3; have HN3 := Aside0.mk hn3; clear ho3 hb3 hg3 hat3 hn3) | ((with_reducible refine gate_builtin (b := .append) (xs := #[.tmp 40, .tmp 43]) rfl ?_); at_builtin; refine print_append_row (w0 := W) W.heap.size rfl (.tmp 40) (.tmp 43) 22 21 .i32 4 rfl Try.underlying22 info21 (by decide) (.slice A3 n3 c3') ([] ++ x1 ++ l) (x2) A' x2.length (c - p.toNat) rfl rfl ?aO ?aR ?aB ?aS ?aL ?_; (case aO => exact HO3.out); (case aR => exact Kd.reads_of_C (d := (0 : Int)) (HA'.out _ (HT.out.below HB3.out))); (case aB => exact HB3.out); (case aS => exact (HB3.out).size); (case aL => have := HL1.out; have := HL2.out; have := HL3.out; simp only [List.length_append, List.length_nil]; omega); intro v4 w4 ho4 hb4 hg4 hat4; have HB4 := Aside0.mk hb4; have HO4 := Aside0.mk ho4; obtain ⟨A4, c4', hv4⟩ := own_slice ho4; obtain ⟨n4, hn4⟩ : ∃ n, ([] ++ x1 ++ l ++ x2).length = n := ⟨_, rfl⟩; rw [hn4] at hv4; subst hv4; have HN4 := Aside0.mk hn4; clear ho4 hb4 hg4 hat4 hn4))
  go_ret2
  rw [E.out]
  have hn : (x1 ++ l ++ x2).length = n4 := HN4.out
  have ho := HO4.out
  rw [HN4.out] at ho
  exact ⟨A4, c4', by rw [hn]; rfl, by rw [hn]; exact own_le HO4.out, HB4.out, .inr (own_text ho)⟩
def delRef.T3 : Bool × List (List Nat × List Nat) := (true, [([], []), ([], []), ([], []), ([1, 2], [1, 2]), ([0, 3], [0, 3]), ([], []), ([], []), ([5, 6], [5, 6]), ([4, 7, 4], [4, 7]), ([8, 8, 0, 1, 2, 3, 4, 5, 6, 7, 8], [8]), ([9, 0, 1, 2, 3, 4, 5, 6, 7, 8, 9], [])])
def delRef.B3 : List Nat := [0, 0, 0, 6, 15, 0, 0, 96, 255, 511, 1023]
theorem delRef.tab3 : rtab .any (opsOf Try.f19 3) = delRef.T3 := by kernel_rfl
theorem delRef.bits3 : waitsOk delRef.T3.2 delRef.B3 = true := by kernel_rfl

theorem btw_ref (t : List Int) (A : Option Addr) (c : Nat) (a b : Int) (W : World) (ht : RI W A t) (hc : t.length ≤ c) : Calls Try.prog 20 #[.slice A t.length c, .int .i64 a, .int .i64 b] W fun e w' => e = .returned (.bool (btw t.length a b)) ∧ Below W.heap.size W w' := by
  refine (Leaf.stylusref03_Between.calls A c t a b (btw t.length a b) W ht hc ?_).mono ?_
  · unfold Leaf.stylusref03_Between.f btw
    by_cases h1 : 0 ≤ a
    · by_cases h2 : a ≤ b
      · rw [if_pos h1, if_pos h2, decide_eq_true h1, decide_eq_true h2]; rfl
      · rw [if_pos h1, if_neg h2, decide_eq_true h1, decide_eq_false h2]; rfl
    · rw [if_neg h1, decide_eq_false h1]; rfl
  · rintro e w' ⟨rfl, hd⟩
    exact ⟨rfl, hd.below⟩
set_option maxHeartbeats 4000000 in
theorem del_ref (t : List Int) (A : Option Addr) (c : Nat) (a b : Int) (W : World) (ht : RI W A t) (hc : t.length ≤ c) (h1 : t.length ≤ 1000000) :
    Calls Try.prog 19 #[.slice A t.length c, .int .i64 a, .int .i64 b] W (RefR A c t (delF t a b) W) := by
  have HT := Aside0.mk ht
  have HC := Aside0.mk hc
  clear ht hc
  by_cases c1 : btw t.length a b = true
  · have E : Aside0 (delF t a b = (t.take a.toNat ++ t.drop b.toNat, 0)) := ⟨by unfold delF; rw [if_neg (by simp [c1])]⟩
    obtain ⟨a0, ab, bl⟩ := btw_true c1
    have a1 : a ≤ (t.length : Int) := by omega
    have b0 : 0 ≤ b := by omega
    have hsl := slice_hi A c t a a0 a1 HC.out
    obtain ⟨A', hsd, hA', hcd⟩ := slice_lo A c t b b0 bl HC.out
    have ht1 : ∀ W, RI W A t → Kd.C (Kd.int .i32) W A (t.take a.toNat).length (t.take a.toNat) := fun W h => Kd.C_take h (by omega)
    have HT1 := Aside0.mk ht1
    have HA' := Aside0.mk hA'
    obtain ⟨x1, hx1⟩ : ∃ x, t.take a.toNat = x := ⟨_, rfl⟩
    obtain ⟨x2, hx2⟩ : ∃ x, t.drop b.toNat = x := ⟨_, rfl⟩
    have HL1 : Aside0 (x1.length ≤ 1000000) := ⟨by rw [← hx1, List.length_take]; omega⟩
    have HL2 : Aside0 (x2.length ≤ 1000000) := ⟨by rw [← hx2, List.length_drop]; omega⟩
    rw [hx1] at hsl HT1 E
    rw [hx2] at hsd HA' E
    clear hA' hcd ht1 hx1 hx2
    go_enter Try.func19, Try.ntmps19
    go_wp2_with fail
    refine (btw_ref t A c a b _ HT.out HC.out).mono ?_
    rintro e w1 ⟨rfl, hb1⟩
    have HB1 := Aside0.mk hb1
    clear hb1
    have HO1 : Aside0 (((w1.drew).alloc (.cells #[] 21)).ownsRow W.heap.size 21 1 (.slice (some ⟨w1.heap.size, 0, none⟩) 0 0) 0 (nums .i32 [])) := ⟨own_less (own_new w1.drew) HB1.out.size⟩
    have HW1 := Aside0.mk (below_alloc HB1.out.drew (.cells #[] 21))
    go_wp2_with fail
    refine start_ (n := 11) (S := fun _ => True) (ds := []) #[false, false, false, false, false, false, false, false, false, false, false] (by kernel_rfl) rfl rfl trivial (fun hHeld => ?_); refine with_tabW delRef.tab3 delRef.bits3 (fun HT_ HW_ => ?_)
    refine pure_ (i := 1) (N := some 15) (v := ?_) (a' := ?_) #[false, true, false, false, false, false, false, false, false, false, false] rfl rfl (any_of HT_.out (by kernel_rfl)) (fun _ _ _ h => h) (Or.inl ⟨by rfl, ?_⟩) ?_ ?_
    rotate_left
    · intro w'
      go_simp
      with_reducible rfl
    rotate_left
    · simp only [Act.put, List.setIfInBounds_toArray, List.set_cons_zero, List.set_cons_succ, i64_w, i32_w]
      rfl
    refine pure_ (i := 2) (N := some 16) (v := ?_) (a' := ?_) #[false, true, true, false, false, false, false, false, false, false, false] rfl rfl (any_of HT_.out (by kernel_rfl)) (fun _ _ _ h => h) (Or.inl ⟨by rfl, ?_⟩) ?_ ?_
    rotate_left
    · intro w'
      go_simp
      with_reducible rfl
    rotate_left
    · simp only [Act.put, List.setIfInBounds_toArray, List.set_cons_zero, List.set_cons_succ, i64_w, i32_w]
      rfl
    refine pure_ (i := 3) (N := some 17) (v := .slice A x1.length c) (a' := ?padelRef_3_1) #[false, true, true, true, false, false, false, false, false, false, false] rfl rfl (any_of HT_.out (by kernel_rfl)) (fun _ _ _ h => h) (Or.inl ⟨by rfl, ?pydelRef_3_1⟩) ?pedelRef_3_1 ?prdelRef_3_1
    case pedelRef_3_1 =>
      simp only [Act.put, List.setIfInBounds_toArray, List.set_cons_zero, List.set_cons_succ, i64_w, i32_w]
      rfl
    case pydelRef_3_1 =>
      intro w'
      go_simp
    refine pure_ (i := 5) (N := some 19) (v := ?_) (a' := ?_) #[false, true, true, true, false, true, false, false, false, false, false] rfl rfl (any_of HT_.out (by kernel_rfl)) (fun _ _ _ h => h) (Or.inl ⟨by rfl, ?_⟩) ?_ ?_
    rotate_left
    · intro w'
      go_simp
      with_reducible rfl
    rotate_left
    · simp only [Act.put, List.setIfInBounds_toArray, List.set_cons_zero, List.set_cons_succ, i64_w, i32_w]
      rfl
    refine pure_ (i := 6) (N := some 20) (v := ?_) (a' := ?_) #[false, true, true, true, false, true, true, false, false, false, false] rfl rfl (any_of HT_.out (by kernel_rfl)) (fun _ _ _ h => h) (Or.inl ⟨by rfl, ?_⟩) ?_ ?_
    rotate_left
    · intro w'
      go_simp
      with_reducible rfl
    rotate_left
    · simp only [Act.put, List.setIfInBounds_toArray, List.set_cons_zero, List.set_cons_succ, i64_w, i32_w]
      rfl
    refine pure_ (i := 7) (N := some 21) (v := .slice A' x2.length (c - b.toNat)) (a' := ?padelRef_7_2) #[false, true, true, true, false, true, true, true, false, false, false] rfl rfl (any_of HT_.out (by kernel_rfl)) (fun _ _ _ h => h) (Or.inl ⟨by rfl, ?pydelRef_7_2⟩) ?pedelRef_7_2 ?prdelRef_7_2
    case pedelRef_7_2 =>
      simp only [Act.put, List.setIfInBounds_toArray, List.set_cons_zero, List.set_cons_succ, i64_w, i32_w]
      rfl
    case pydelRef_7_2 =>
      intro w'
      go_simp
    refine one_ (i := 0) (N := some 14) #[true, true, true, true, false, true, true, true, false, false, false] rfl rfl (one_of HT_.out (by kernel_rfl)) (by decide) (fun K hK => ?_)
    refine value_ (by rfl) rfl (v := .slice (some ⟨w1.heap.size, 0, none⟩) 0 0) (w1 := (w1.drew).alloc (.cells #[] 21)) ?hr ?_
    case hr => go_simp
    refine hK.out _ _ trivial (fun hHeld => ?_)
    clear hK K
    refine norm_ (a' := ?_) ?_ ?_
    rotate_left
    · show Act.put _ (some 14) _ = _
      simp only [Act.put, List.setIfInBounds_toArray, List.set_cons_zero, List.set_cons_succ, i64_w, i32_w]
      rfl
    refine one_ (i := 4) (N := some 18) #[true, true, true, true, true, true, true, true, false, false, false] rfl rfl (one_of HT_.out (by kernel_rfl)) (by decide) (fun K hK => ?_)
    refine step_append_i32 W.heap.size (by rfl) _ _ (by rfl) (.slice (some ⟨w1.heap.size, 0, none⟩) 0 0) [] x1 A c (by rfl) (by rfl) HO1.out (HT1.out _ (HT.out.below HW1.out)) HW1.out.size (by have := HL1.out; simp only [List.length_nil]; omega) ?_
    intro v2 w2 ho2 hb2 hg2 hat2
    have HB2 := Aside0.mk hb2
    have HO2 := Aside0.mk ho2
    obtain ⟨A2, c2', hv2⟩ := own_slice ho2
    obtain ⟨n2, hn2⟩ : ∃ n, ([] ++ x1).length = n := ⟨_, rfl⟩
    rw [hn2] at hv2
    subst hv2
    have HN2 := Aside0.mk hn2
    clear ho2 hb2 hg2 hat2 hn2
    have HV2 := Aside0.mk (HW1.out.trans HB2.out)
    refine hK.out _ _ trivial (fun hHeld => ?_)
    clear hK K
    refine norm_ (a' := ?_) ?_ ?_
    rotate_left
    · show Act.put _ (some 18) _ = _
      simp only [Act.put, List.setIfInBounds_toArray, List.set_cons_zero, List.set_cons_succ, i64_w, i32_w]
      rfl
    refine one_ (i := 8) (N := some 22) #[true, true, true, true, true, true, true, true, true, false, false] rfl rfl (one_of HT_.out (by kernel_rfl)) (by decide) (fun K hK => ?_)
    refine step_append_i32 W.heap.size (by rfl) _ _ (by rfl) (.slice A2 n2 c2') ([] ++ x1) x2 A' (c - b.toNat) (by rfl) (by rfl) HO2.out (HA'.out _ (HT.out.below HV2.out)) HV2.out.size (by have := HL1.out; have := HL2.out; simp only [List.length_append, List.length_nil]; omega) ?_
    intro v3 w3 ho3 hb3 hg3 hat3
    have HB3 := Aside0.mk hb3
    have HO3 := Aside0.mk ho3
    obtain ⟨A3, c3', hv3⟩ := own_slice ho3
    obtain ⟨n3, hn3⟩ : ∃ n, ([] ++ x1 ++ x2).length = n := ⟨_, rfl⟩
    rw [hn3] at hv3
    subst hv3
    have HN3 := Aside0.mk hn3
    clear ho3 hb3 hg3 hat3 hn3
    have HV3 := Aside0.mk (HV2.out.trans HB3.out)
    refine hK.out _ _ trivial (fun hHeld => ?_)
    clear hK K
    refine norm_ (a' := ?_) ?_ ?_
    rotate_left
    · show Act.put _ (some 22) _ = _
      simp only [Act.put, List.setIfInBounds_toArray, List.set_cons_zero, List.set_cons_succ, i64_w, i32_w]
      rfl
    refine pure_ (i := 9) (N := some 6) (v := ?_) (a' := ?_) #[true, true, true, true, true, true, true, true, true, true, false] rfl rfl (any_of HT_.out (by kernel_rfl)) (fun _ _ _ h => h) (Or.inl ⟨by rfl, ?_⟩) ?_ ?_
    rotate_left
    · intro w'
      go_simp
      with_reducible rfl
    rotate_left
    · simp only [Act.put, List.setIfInBounds_toArray, List.set_cons_zero, List.set_cons_succ, i64_w, i32_w]
      rfl
    refine pure_ (i := 10) (N := some 7) (v := ?_) (a' := ?_) #[true, true, true, true, true, true, true, true, true, true, true] rfl rfl (any_of HT_.out (by kernel_rfl)) (fun _ _ _ h => h) (Or.inl ⟨by rfl, ?_⟩) ?_ ?_
    rotate_left
    · intro w'
      go_simp
      with_reducible rfl
    rotate_left
    · simp only [Act.put, List.setIfInBounds_toArray, List.set_cons_zero, List.set_cons_succ, i64_w, i32_w]
      rfl
    refine done_ (done_of HT_.out (by kernel_rfl)) ?_
    skip
    go_wp2_with fail
    go_ret2
    rw [E.out]
    have hn : (x1 ++ x2).length = n3 := HN3.out
    have ho := HO3.out
    rw [HN3.out] at ho
    exact ⟨A3, c3', by rw [hn]; rfl, by rw [hn]; exact own_le HO3.out, HV3.out, .inr (own_text ho)⟩
  · have c1b : btw t.length a b = false := by simpa using c1
    have E : Aside0 (delF t a b = (t, 1)) := ⟨by unfold delF; rw [if_pos c1b]⟩
    go_enter Try.func19, Try.ntmps19
    go_wp2_with fail
    refine (btw_ref t A c a b _ HT.out HC.out).mono ?_
    rintro e w1 ⟨rfl, hb1⟩
    have HB1 := Aside0.mk hb1
    clear hb1
    go_wp2_with fail
    go_ret2
    rw [E.out]
    exact ⟨A, c, rfl, HC.out, HB1.out, .inl ⟨rfl, rfl, rfl⟩⟩
end Go.Proofs.Ytepcdjkpmchobaa.Rope
