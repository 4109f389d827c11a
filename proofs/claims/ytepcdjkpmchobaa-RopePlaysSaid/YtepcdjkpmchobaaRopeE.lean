/- rope.join makes of two trees one that holds both texts. For an arena of at most 1000000 nodes. -/
import Derived.Test.YtepcdjkpmchobaaRopeD
namespace Go.Proofs.Ytepcdjkpmchobaa.Rope
open Go.RowKit Go.Proofs.YtepcdjkpmchobaaW.PrintWords Go.Proofs.YtepcdjkpmchobaaW.PrintLast Go.Proofs.YtepcdjkpmchobaaW.PrintMore
attribute [local go_sem] max2_int min2_int max_two min_two max_three min_three max_four min_four
set_option linter.unusedVariables false
set_option linter.unusedSimpArgs false

/-! ### The tree that an arena holds -/
theorem nd_lt {ns : List Node} {i : Int} (h0 : 0 ≤ i) (h1 : i < ns.length) (m : List Node) : nd (ns ++ m) i = nd ns i := by
  unfold nd
  simp only [List.getD_eq_getElem?_getD]
  rw [List.getElem?_append_left (by omega)]
theorem nd_last (ns : List Node) (x : Node) : nd (ns ++ [x]) (ns.length : Int) = x := by
  unfold nd
  simp [List.getD_eq_getElem?_getD]

inductive Tree (ns : List Node) : Int → List Int → Prop
  | leaf (i : Int) (t : List Int) (h0 : 0 ≤ i) (h1 : i < ns.length) (hn : nd ns i = ⟨t.length, nl t, ub t, -1, -1, t⟩) : Tree ns i t
  | two (i l r : Int) (u s t : List Int) (h0 : 0 ≤ i) (h1 : i < ns.length) (hn : nd ns i = ⟨u.length, nl u, ub u, l, r, []⟩) (hu : u = s ++ t) (hl : l < i) (hr : r < i) (hs : Tree ns l s) (ht : Tree ns r t) (ps : 0 < s.length) (pt : 0 < t.length) : Tree ns i u
theorem Tree.ix {ns : List Node} {i : Int} {t : List Int} (h : Tree ns i t) : 0 ≤ i ∧ i < ns.length := by cases h <;> exact ⟨by assumption, by assumption⟩
theorem Tree.sum {ns : List Node} {i : Int} {t : List Int} (h : Tree ns i t) : (nd ns i).rn = t.length ∧ (nd ns i).ln = nl t ∧ (nd ns i).bn = ub t := by
  cases h with
  | leaf _ _ h0 h1 hn => rw [hn]; exact ⟨rfl, rfl, rfl⟩
  | two _ l r _ s t h0 h1 hn => rw [hn]; exact ⟨rfl, rfl, rfl⟩
theorem Tree.more {ns : List Node} {i : Int} {t : List Int} (h : Tree ns i t) (m : List Node) : Tree (ns ++ m) i t := by
  induction h with
  | leaf i t h0 h1 hn => exact .leaf i t h0 (by simp; omega) (by rw [nd_lt h0 h1]; exact hn)
  | two i l r u s t h0 h1 hn hu hl hr hs ht ps pt ihs iht => exact .two i l r u s t h0 (by simp; omega) (by rw [nd_lt h0 h1]; exact hn) hu hl hr ihs iht ps pt

/-- What join comes to. -/
def JoinR (ns : List Node) (a b : Int) (ns' : List Node) (r : Int) : Prop :=
  ((nd ns a).rn = 0 ∧ ns' = ns ∧ r = b) ∨ ((nd ns a).rn ≠ 0 ∧ (nd ns b).rn = 0 ∧ ns' = ns ∧ r = a) ∨
  ((nd ns a).rn ≠ 0 ∧ (nd ns b).rn ≠ 0 ∧ ns' = ns ++ [⟨(nd ns a).rn + (nd ns b).rn, (nd ns a).ln + (nd ns b).ln, (nd ns a).bn + (nd ns b).bn, a, b, []⟩] ∧ r = ns.length)
theorem JoinR.tree {ns ns' : List Node} {a b r : Int} {s t : List Int} (h : JoinR ns a b ns' r) (hs : Tree ns a s) (ht : Tree ns b t) : ∃ m, ns' = ns ++ m ∧ m.length ≤ 1 ∧ Tree ns' r (s ++ t) := by
  have ss := hs.sum
  have st := ht.sum
  rcases h with ⟨h1, rfl, rfl⟩ | ⟨h1, h2, rfl, rfl⟩ | ⟨h1, h2, rfl, rfl⟩
  · have : s = [] := List.eq_nil_of_length_eq_zero (by omega)
    subst this
    exact ⟨[], by simp, by simp, by simpa using ht⟩
  · have : t = [] := List.eq_nil_of_length_eq_zero (by omega)
    subst this
    exact ⟨[], by simp, by simp, by simpa using hs⟩
  · refine ⟨_, rfl, by simp, ?_⟩
    refine .two _ a b (s ++ t) s t (by omega) (by simp; omega) ?_ rfl hs.ix.2 ht.ix.2 (hs.more _) (ht.more _) (by omega) (by omega)
    rw [nd_last, ss.1, ss.2.1, ss.2.2, st.1, st.2.1, st.2.2, nl_append, ub_append]
    simp
def join.T5 : Bool × List (List Nat × List Nat) := (true, [([], []), ([], []), ([1], [1]), ([2], [2]), ([3], [3]), ([], []), ([4, 5], [4, 5]), ([6], [6]), ([7], [7]), ([], []), ([9], [9]), ([10], [10]), ([11], [11]), ([], []), ([12, 13], [12, 13]), ([14], [14]), ([15], [15]), ([8, 16], [8, 16]), ([], []), ([], []), ([17, 18, 19], [17, 18, 19]), ([0, 20, 17], [0, 20]), ([21, 21, 0, 1, 2, 3, 4, 5, 6, 7, 8, 9, 10, 11, 12, 13, 14, 15, 16, 17, 18, 19, 20, 21], [21])])
def join.B5 : List Nat := [0, 0, 2, 6, 14, 0, 62, 126, 254, 0, 512, 1536, 3584, 0, 15872, 32256, 65024, 131070, 0, 0, 1048574, 2097151, 4194303]
theorem join.tab5 : rtab .any (opsOf Try.f30 5) = join.T5 := by kernel_rfl
theorem join.bits5 : waitsOk join.T5.2 join.B5 = true := by kernel_rfl

theorem add_two (base g : Nat) (v : Value) (ns : List Node) (root s0 s1 s2 a b : Int) (W : World) (h : RopeAt base W g v ns root) (hl : ns.length ≤ 1000000) :
    Calls Try.prog 38 #[.pointer (some ⟨g, 0, none⟩), .agg #[.int .i64 s0, .int .i64 s1, .int .i64 s2, .int .i64 a, .int .i64 b, .slice none 0 0]] W
      fun e w' => ∃ v', e = .returned (.int .i64 ns.length) ∧ RopeAt base w' g v' (ns ++ [⟨s0, s1, s2, a, b, []⟩]) root ∧ Mv base g v v' W w' :=
  add_calls base g v ns root ⟨s0, s1, s2, a, b, []⟩ none 0 W h ⟨none, 0, rfl, Nat.le_refl _, .inl rfl, fun _ => ⟨rfl, rfl, rfl⟩⟩ hl
structure SumB (x : Node) : Prop where
  a0 : 0 ≤ x.rn
  a1 : 0 ≤ x.ln
  a2 : 0 ≤ x.bn
  b0 : x.rn ≤ 1000000000
  b1 : x.ln ≤ 1000000000
  b2 : x.bn ≤ 1000000000
set_option maxHeartbeats 1000000 in
theorem join_calls (base g : Nat) (v : Value) (ns : List Node) (root a b : Int) (W : World) (h : RopeAt base W g v ns root) (ha0 : 0 ≤ a) (ha1 : a < ns.length) (hb0 : 0 ≤ b) (hb1 : b < ns.length)
    (sa : SumB (nd ns a)) (sb : SumB (nd ns b)) (hl : ns.length ≤ 1000000) :
    Calls Try.prog 30 #[.pointer (some ⟨g, 0, none⟩), .int .i64 a, .int .i64 b] W
      fun e w' => ∃ v' ns' r, e = .returned (.int .i64 r) ∧ RopeAt base w' g v' ns' root ∧ Mv base g v v' W w' ∧ JoinR ns a b ns' r := by
  obtain ⟨A, c, rfl, hc, hc0, hc1, hf0, hf1, hr⟩ := h.open_
  obtain ⟨ad, A5, c5, rfl, x0, x1, x2, x3, x4, x5, l5, t5, n5⟩ := at_node hr a ha0 ha1
  obtain ⟨ad', A6, c6, he, y0, y1, y2, y3, y4, y5, l6, t6, n6⟩ := at_node hr b hb0 hb1
  injection he with he
  subst he
  have H := Aside0.mk h
  have SA := Aside0.mk sa
  have SB := Aside0.mk sb
  have HL := Aside0.mk hl
  have HBW : Aside0 (base ≤ W.heap.size) := ⟨Nat.le_trans h.2.1 (Nat.le_of_lt h.lt)⟩
  clear h hr x3 x4 x5 l5 t5 n5 y3 y4 y5 l6 t6 n6 sa sb
  replace ha0 := eq_true ha0
  replace ha1 := eq_true ha1
  replace hb0 := eq_true hb0
  replace hb1 := eq_true hb1
  by_cases c1 : (nd ns a).rn = 0
  · have C1 := Aside0.mk c1
    have c1b : ((nd ns a).rn == 0) = true := beq_iff_eq.mpr c1
    clear c1
    go_enter Try.func30, Try.ntmps30
    go_wp2
    go_ret
    exact ⟨_, _, _, rfl, H.out, Mv.refl _ _ _ _, .inl ⟨C1.out, rfl, rfl⟩⟩
  · have C1 := Aside0.mk c1
    have c1b : ((nd ns a).rn == 0) = false := beq_eq_false_iff_ne.mpr c1
    clear c1
    by_cases c2 : (nd ns b).rn = 0
    · have C2 := Aside0.mk c2
      have c2b : ((nd ns b).rn == 0) = true := beq_iff_eq.mpr c2
      clear c2
      go_enter Try.func30, Try.ntmps30
      go_wp2
      go_ret
      exact ⟨_, _, _, rfl, H.out, Mv.refl _ _ _ _, .inr (.inl ⟨C1.out, C2.out, rfl, rfl⟩)⟩
    · have C2 := Aside0.mk c2
      have c2b : ((nd ns b).rn == 0) = false := beq_eq_false_iff_ne.mpr c2
      clear c2
      go_enter Try.func30, Try.ntmps30
      go_wp2
      refine start_ (n := 23) (S := fun w' => w'.cell? ⟨g, 0, none⟩ = some (.slice (some ad) ns.length c) ∧ w'.cell? (ad.add (a.toNat * 6)) = some (.int .i64 (nd ns a).rn) ∧ w'.cell? ⟨(ad.add (a.toNat * 6)).block, (ad.add (a.toNat * 6)).off + 1, none⟩ = some (.int .i64 (nd ns a).ln) ∧ w'.cell? ⟨(ad.add (a.toNat * 6)).block, (ad.add (a.toNat * 6)).off + 2, none⟩ = some (.int .i64 (nd ns a).bn) ∧ w'.cell? (ad.add (b.toNat * 6)) = some (.int .i64 (nd ns b).rn) ∧ w'.cell? ⟨(ad.add (b.toNat * 6)).block, (ad.add (b.toNat * 6)).off + 1, none⟩ = some (.int .i64 (nd ns b).ln) ∧ w'.cell? ⟨(ad.add (b.toNat * 6)).block, (ad.add (b.toNat * 6)).off + 2, none⟩ = some (.int .i64 (nd ns b).bn)) (ds := [21]) #[false, false, false, false, false, false, false, false, false, false, false, false, false, false, false, false, false, false, false, false, false, false, false] (by kernel_rfl) rfl rfl ⟨hc0, x0, x1, x2, y0, y1, y2⟩ (fun hHeld => ?_); refine with_tabW join.tab5 join.bits5 (fun HT_ HW_ => ?_)
      refine pure_ (i := 0) (N := some 31) (v := ?_) (a' := ?_) #[true, false, false, false, false, false, false, false, false, false, false, false, false, false, false, false, false, false, false, false, false, false, false] rfl rfl (any_of HT_.out (by kernel_rfl)) (fun _ _ _ h => h) (Or.inl ⟨by rfl, ?_⟩) ?_ ?_
      rotate_left
      · intro w'
        go_simp
        with_reducible rfl
      rotate_left
      · simp only [Act.put, List.setIfInBounds_toArray, List.set_cons_zero, List.set_cons_succ, i64_w, i32_w]
        rfl
      refine pure_ (i := 1) (N := some 32) (v := ?_) (a' := ?_) #[true, true, false, false, false, false, false, false, false, false, false, false, false, false, false, false, false, false, false, false, false, false, false] rfl rfl (any_of HT_.out (by kernel_rfl)) (fun _ _ _ h => h) (Or.inl ⟨by rfl, ?_⟩) ?_ ?_
      rotate_left
      · intro w'
        go_simp
        with_reducible rfl
      rotate_left
      · simp only [Act.put, List.setIfInBounds_toArray, List.set_cons_zero, List.set_cons_succ, i64_w, i32_w]
        rfl
      refine pure_ (i := 2) (N := some 33) (v := ?_) (a' := ?_) #[true, true, true, false, false, false, false, false, false, false, false, false, false, false, false, false, false, false, false, false, false, false, false] rfl rfl (any_of HT_.out (by kernel_rfl)) (fun _ _ _ h => h) (Or.inl ⟨by rfl, ?_⟩) ?_ ?_
      rotate_left
      · intro w'
        go_simp
        with_reducible rfl
      rotate_left
      · simp only [Act.put, List.setIfInBounds_toArray, List.set_cons_zero, List.set_cons_succ, i64_w, i32_w]
        rfl
      refine pure_ (i := 3) (N := some 34) (v := ?_) (a' := ?_) #[true, true, true, true, false, false, false, false, false, false, false, false, false, false, false, false, false, false, false, false, false, false, false] rfl rfl (any_of HT_.out (by kernel_rfl)) (fun _ _ _ h => h) (Or.inl ⟨by rfl, ?_⟩) ?_ ?_
      rotate_left
      · intro w'
        go_simp
        with_reducible rfl
      rotate_left
      · simp only [Act.put, List.setIfInBounds_toArray, List.set_cons_zero, List.set_cons_succ, i64_w, i32_w]
        rfl
      refine take_ (i := 4) (N := some 35) (v := ?_) (a' := ?_) #[true, true, true, true, true, false, false, false, false, false, false, false, false, false, false, false, false, false, false, false, false, false, false] rfl rfl (take_ofW HT_.out HW_.out (by kernel_rfl)) (fun _ _ _ h => h) (Or.inl ⟨by rfl, ?_⟩) hHeld ?_ ?_
      rotate_left
      · rintro w' ⟨s0, s1, s2, s3, s4, s5, s6⟩
        go_simp
        with_reducible rfl
      rotate_left
      · simp only [Act.put, List.setIfInBounds_toArray, List.set_cons_zero, List.set_cons_succ, i64_w, i32_w]
        rfl
      refine pure_ (i := 5) (N := some 36) (v := ?_) (a' := ?_) #[true, true, true, true, true, true, false, false, false, false, false, false, false, false, false, false, false, false, false, false, false, false, false] rfl rfl (any_of HT_.out (by kernel_rfl)) (fun _ _ _ h => h) (Or.inl ⟨by rfl, ?_⟩) ?_ ?_
      rotate_left
      · intro w'
        go_simp
        with_reducible rfl
      rotate_left
      · simp only [Act.put, List.setIfInBounds_toArray, List.set_cons_zero, List.set_cons_succ, i64_w, i32_w]
        rfl
      refine pure_ (i := 6) (N := some 37) (v := ?_) (a' := ?_) #[true, true, true, true, true, true, true, false, false, false, false, false, false, false, false, false, false, false, false, false, false, false, false] rfl rfl (any_of HT_.out (by kernel_rfl)) (fun _ _ _ h => h) (Or.inl ⟨by rfl, ?_⟩) ?_ ?_
      rotate_left
      · intro w'
        go_simp
        with_reducible rfl
      rotate_left
      · simp only [Act.put, List.setIfInBounds_toArray, List.set_cons_zero, List.set_cons_succ, i64_w, i32_w]
        rfl
      refine pure_ (i := 7) (N := some 38) (v := ?_) (a' := ?_) #[true, true, true, true, true, true, true, true, false, false, false, false, false, false, false, false, false, false, false, false, false, false, false] rfl rfl (any_of HT_.out (by kernel_rfl)) (fun _ _ _ h => h) (Or.inl ⟨by rfl, ?_⟩) ?_ ?_
      rotate_left
      · intro w'
        go_simp
        with_reducible rfl
      rotate_left
      · simp only [Act.put, List.setIfInBounds_toArray, List.set_cons_zero, List.set_cons_succ, i64_w, i32_w]
        rfl
      refine take_ (i := 8) (N := some 39) (v := ?_) (a' := ?_) #[true, true, true, true, true, true, true, true, true, false, false, false, false, false, false, false, false, false, false, false, false, false, false] rfl rfl (take_ofW HT_.out HW_.out (by kernel_rfl)) (fun _ _ _ h => h) (Or.inl ⟨by rfl, ?_⟩) hHeld ?_ ?_
      rotate_left
      · rintro w' ⟨s0, s1, s2, s3, s4, s5, s6⟩
        go_simp
        with_reducible rfl
      rotate_left
      · simp only [Act.put, List.setIfInBounds_toArray, List.set_cons_zero, List.set_cons_succ, i64_w, i32_w]
        rfl
      refine pure_ (i := 9) (N := some 40) (v := ?_) (a' := ?_) #[true, true, true, true, true, true, true, true, true, true, false, false, false, false, false, false, false, false, false, false, false, false, false] rfl rfl (any_of HT_.out (by kernel_rfl)) (fun _ _ _ h => h) (Or.inl ⟨by rfl, ?_⟩) ?_ ?_
      rotate_left
      · intro w'
        go_simp
        with_reducible rfl
      rotate_left
      · simp only [Act.put, List.setIfInBounds_toArray, List.set_cons_zero, List.set_cons_succ, i64_w, i32_w]
        rfl
      refine pure_ (i := 10) (N := some 41) (v := ?_) (a' := ?_) #[true, true, true, true, true, true, true, true, true, true, true, false, false, false, false, false, false, false, false, false, false, false, false] rfl rfl (any_of HT_.out (by kernel_rfl)) (fun _ _ _ h => h) (Or.inl ⟨by rfl, ?_⟩) ?_ ?_
      rotate_left
      · intro w'
        go_simp
        with_reducible rfl
      rotate_left
      · simp only [Act.put, List.setIfInBounds_toArray, List.set_cons_zero, List.set_cons_succ, i64_w, i32_w]
        rfl
      refine pure_ (i := 11) (N := some 42) (v := ?_) (a' := ?_) #[true, true, true, true, true, true, true, true, true, true, true, true, false, false, false, false, false, false, false, false, false, false, false] rfl rfl (any_of HT_.out (by kernel_rfl)) (fun _ _ _ h => h) (Or.inl ⟨by rfl, ?_⟩) ?_ ?_
      rotate_left
      · intro w'
        go_simp
        with_reducible rfl
      rotate_left
      · simp only [Act.put, List.setIfInBounds_toArray, List.set_cons_zero, List.set_cons_succ, i64_w, i32_w]
        rfl
      refine take_ (i := 12) (N := some 43) (v := ?_) (a' := ?_) #[true, true, true, true, true, true, true, true, true, true, true, true, true, false, false, false, false, false, false, false, false, false, false] rfl rfl (take_ofW HT_.out HW_.out (by kernel_rfl)) (fun _ _ _ h => h) (Or.inl ⟨by rfl, ?_⟩) hHeld ?_ ?_
      rotate_left
      · rintro w' ⟨s0, s1, s2, s3, s4, s5, s6⟩
        go_simp
        with_reducible rfl
      rotate_left
      · simp only [Act.put, List.setIfInBounds_toArray, List.set_cons_zero, List.set_cons_succ, i64_w, i32_w]
        rfl
      refine pure_ (i := 13) (N := some 44) (v := ?_) (a' := ?_) #[true, true, true, true, true, true, true, true, true, true, true, true, true, true, false, false, false, false, false, false, false, false, false] rfl rfl (any_of HT_.out (by kernel_rfl)) (fun _ _ _ h => h) (Or.inl ⟨by rfl, ?_⟩) ?_ ?_
      rotate_left
      · intro w'
        go_simp
        with_reducible rfl
      rotate_left
      · simp only [Act.put, List.setIfInBounds_toArray, List.set_cons_zero, List.set_cons_succ, i64_w, i32_w]
        rfl
      refine pure_ (i := 14) (N := some 45) (v := ?_) (a' := ?_) #[true, true, true, true, true, true, true, true, true, true, true, true, true, true, true, false, false, false, false, false, false, false, false] rfl rfl (any_of HT_.out (by kernel_rfl)) (fun _ _ _ h => h) (Or.inl ⟨by rfl, ?_⟩) ?_ ?_
      rotate_left
      · intro w'
        go_simp
        with_reducible rfl
      rotate_left
      · simp only [Act.put, List.setIfInBounds_toArray, List.set_cons_zero, List.set_cons_succ, i64_w, i32_w]
        rfl
      refine pure_ (i := 15) (N := some 46) (v := ?_) (a' := ?_) #[true, true, true, true, true, true, true, true, true, true, true, true, true, true, true, true, false, false, false, false, false, false, false] rfl rfl (any_of HT_.out (by kernel_rfl)) (fun _ _ _ h => h) (Or.inl ⟨by rfl, ?_⟩) ?_ ?_
      rotate_left
      · intro w'
        go_simp
        with_reducible rfl
      rotate_left
      · simp only [Act.put, List.setIfInBounds_toArray, List.set_cons_zero, List.set_cons_succ, i64_w, i32_w]
        rfl
      refine take_ (i := 16) (N := some 47) (v := ?_) (a' := ?_) #[true, true, true, true, true, true, true, true, true, true, true, true, true, true, true, true, true, false, false, false, false, false, false] rfl rfl (take_ofW HT_.out HW_.out (by kernel_rfl)) (fun _ _ _ h => h) (Or.inl ⟨by rfl, ?_⟩) hHeld ?_ ?_
      rotate_left
      · rintro w' ⟨s0, s1, s2, s3, s4, s5, s6⟩
        go_simp
        with_reducible rfl
      rotate_left
      · simp only [Act.put, List.setIfInBounds_toArray, List.set_cons_zero, List.set_cons_succ, i64_w, i32_w]
        rfl
      refine pure_ (i := 18) (N := some 49) (v := ?_) (a' := ?_) #[true, true, true, true, true, true, true, true, true, true, true, true, true, true, true, true, true, false, true, false, false, false, false] rfl rfl (any_of HT_.out (by kernel_rfl)) (fun _ _ _ h => h) (Or.inl ⟨by rfl, ?_⟩) ?_ ?_
      rotate_left
      · intro w'
        go_simp
        with_reducible rfl
      rotate_left
      · simp only [Act.put, List.setIfInBounds_toArray, List.set_cons_zero, List.set_cons_succ, i64_w, i32_w]
        rfl
      refine pure_ (i := 19) (N := some 50) (v := ?_) (a' := ?_) #[true, true, true, true, true, true, true, true, true, true, true, true, true, true, true, true, true, false, true, true, false, false, false] rfl rfl (any_of HT_.out (by kernel_rfl)) (fun _ _ _ h => h) (Or.inl ⟨by rfl, ?_⟩) ?_ ?_
      rotate_left
      · intro w'
        go_simp
        with_reducible rfl
      rotate_left
      · simp only [Act.put, List.setIfInBounds_toArray, List.set_cons_zero, List.set_cons_succ, i64_w, i32_w]
        rfl
      refine one_ (i := 17) (N := some 48) #[true, true, true, true, true, true, true, true, true, true, true, true, true, true, true, true, true, true, true, true, false, false, false] rfl rfl (one_of HT_.out (by kernel_rfl)) (by decide) (fun K hK => ?_)
      refine goes_ Try.func42 (by kernel_rfl) rfl #[.agg #[.int .i64 (nd ns a).rn, .int .i64 (nd ns a).ln, .int .i64 (nd ns a).bn], .agg #[.int .i64 (nd ns b).rn, .int .i64 (nd ns b).ln, .int .i64 (nd ns b).bn]] (by rfl) rfl rfl (by (try simp only [List.map_toArray, List.map_cons, List.map_nil]); first | done | rfl | (simp only [List.length_drop, List.length_take]; rfl)) ?_
      with_reducible refine (and_calls _ _ _ _ _ _ _ SA.out.a0 SA.out.a1 SA.out.a2 SB.out.a0 SB.out.a1 SB.out.a2 SA.out.b0 SA.out.b1 SA.out.b2 SB.out.b0 SB.out.b1 SB.out.b2).mono ?_
      rintro e w' ⟨rfl, hb⟩
      have hb' : Below W.heap.size W w' := below_then (below_drew (Below.refl _ W)) (Nat.le_refl _) hb
      refine ⟨_, rfl, ?_⟩
      refine hK.out _ _ ⟨pw_cell_below hb' hc0, pw_cell_below hb' x0, pw_cell_below hb' x1, pw_cell_below hb' x2, pw_cell_below hb' y0, pw_cell_below hb' y1, pw_cell_below hb' y2⟩ (fun hHeld => ?_)
      clear hK K
      refine norm_ (a' := ?_) ?_ ?_
      rotate_left
      · show Act.put _ (some 48) _ = _
        simp only [Act.put, List.setIfInBounds_toArray, List.set_cons_zero, List.set_cons_succ, i64_w, i32_w]
        rfl
      have HB1 := Aside0.mk hb'
      clear hb hb'
      refine pure_ (i := 20) (N := some 51) (v := .agg #[.int .i64 ((nd ns a).rn + (nd ns b).rn), .int .i64 ((nd ns a).ln + (nd ns b).ln), .int .i64 ((nd ns a).bn + (nd ns b).bn), .int .i64 a, .int .i64 b, .slice none 0 0]) (a' := ?pajoin_20_1) #[true, true, true, true, true, true, true, true, true, true, true, true, true, true, true, true, true, true, true, true, true, false, false] rfl rfl (any_of HT_.out (by kernel_rfl)) (fun _ _ _ h => h) (Or.inl ⟨by rfl, ?pyjoin_20_1⟩) ?pejoin_20_1 ?prjoin_20_1
      case pejoin_20_1 =>
        simp only [Act.put, List.setIfInBounds_toArray, List.set_cons_zero, List.set_cons_succ, i64_w, i32_w]
        rfl
      case pyjoin_20_1 =>
        intro w'
        go_simp
      refine last_ (i := 21) (N := some 52) #[true, true, true, true, true, true, true, true, true, true, true, true, true, true, true, true, true, true, true, true, true, true, false] rfl rfl (one_of HT_.out (by kernel_rfl)) (by decide) (fun K hK => ?_)
      refine goes_ Try.func38 (by kernel_rfl) rfl #[.pointer (some ⟨g, 0, none⟩), .agg #[.int .i64 ((nd ns a).rn + (nd ns b).rn), .int .i64 ((nd ns a).ln + (nd ns b).ln), .int .i64 ((nd ns a).bn + (nd ns b).bn), .int .i64 a, .int .i64 b, .slice none 0 0]] (by rfl) rfl rfl (by (try simp only [List.map_toArray, List.map_cons, List.map_nil]); first | done | rfl) ?_
      with_reducible refine (add_two base g (.slice (some ad) ns.length c) ns root _ _ _ a b _ (H.out.below HB1.out) HL.out).mono ?_
      rintro e w2 ⟨v', rfl, hR, hM⟩
      refine ⟨_, rfl, ?_⟩
      refine hK.out _ _ ?_
      clear hK K
      refine norm_ (a' := ?_) ?_ ?_
      rotate_left
      · show Act.put _ (some 52) _ = _
        simp only [Act.put, List.setIfInBounds_toArray, List.set_cons_zero, List.set_cons_succ, i64_w, i32_w]
        rfl
      refine pure_ (i := 22) (N := some 6) (v := ?_) (a' := ?_) #[true, true, true, true, true, true, true, true, true, true, true, true, true, true, true, true, true, true, true, true, true, true, true] rfl rfl (any_of HT_.out (by kernel_rfl)) (fun _ _ _ h => h) (Or.inl ⟨by rfl, ?_⟩) ?_ ?_
      rotate_left
      · intro w'
        go_simp
        with_reducible rfl
      rotate_left
      · simp only [Act.put, List.setIfInBounds_toArray, List.set_cons_zero, List.set_cons_succ, i64_w, i32_w]
        rfl
      refine done_ (done_of HT_.out (by kernel_rfl)) ?_
      try go_wp2
      go_ret
      exact ⟨v', _, _, rfl, hR, (Mv.of_below HB1.out HBW.out).trans hM, .inr (.inr ⟨Aside0.out C1, Aside0.out C2, rfl, rfl⟩)⟩
    
end Go.Proofs.Ytepcdjkpmchobaa.Rope
