/- rope.cut parts a tree at a place: the leaf. -/
import Derived.Laws.Cover3
import Derived.Test.YtepcdjkpmchobaaRopeG
namespace Go.Proofs.Ytepcdjkpmchobaa.Rope
open Go.RowKit Go.Proofs.YtepcdjkpmchobaaW.PrintWords Go.Proofs.YtepcdjkpmchobaaW.PrintLast Go.Proofs.YtepcdjkpmchobaaW.PrintMore
attribute [local go_sem] max2_int min2_int max_two min_two max_three min_three max_four min_four
set_option linter.unusedVariables false
set_option linter.unusedSimpArgs false

/-- A block that is none of the rope's. -/
def Apart (k g : Nat) (v : Value) : Prop := k ≠ g ∧ some k ≠ v.ownBlock
theorem RopeAt.new {base g : Nat} {v : Value} {ns : List Node} {root : Int} {W : World} (h : RopeAt base W g v ns root) {k : Nat} (hk : W.heap.size ≤ k) : Apart k g v :=
  ⟨fun he => by have := h.lt; omega, fun he => by have := (h.row _ he.symm).2.1; omega⟩
theorem Mv.apart {base g k : Nat} {v v1 : Value} {W W1 : World} (m : Mv base g v v1 W W1) (h : Apart k g v) (hk : k < W.heap.size) : Apart k g v1 :=
  ⟨h.1, fun he => by
    rcases m.mv k he.symm with hm | hm
    · exact h.2 hm.symm
    · omega⟩
theorem Mv.far {base g k : Nat} {v v1 : Value} {W W1 : World} {o : Obj} (m : Mv base g v v1 W W1) (h : Apart k g v) (hb : W.heap[k]? = some o) : W1.heap[k]? = some o := m.keep.blk hb h.1 h.2
/-- What cut comes to. -/
def CutR (base g : Nat) (v : Value) (ns : List Node) (root i : Int) (t : List Int) (p : Int) (W : World) (e : Ending) (w' : World) : Prop :=
  ∃ v' m a b, e = .returned (.tuple #[.int .i64 a, .int .i64 b]) ∧ RopeAt base w' g v' (ns ++ m) root ∧ Mv base g v v' W w' ∧ m.length ≤ i.toNat + 5000 ∧ Tree (ns ++ m) a (t.take p.toNat) ∧ Tree (ns ++ m) b (t.drop p.toNat)
def cutA.T3 : Bool × List (List Nat × List Nat) := (true, [([], []), ([], []), ([1], [1]), ([], []), ([2, 3], [2, 3]), ([0, 4], [0, 4]), ([], []), ([], []), ([7], [7]), ([], []), ([8, 9], [8, 9]), ([6, 10, 5], [6, 10]), ([5, 11, 0, 1, 2, 3, 4, 5], [5]), ([11, 12, 0, 1, 2, 3, 4, 5, 6, 7, 8, 9, 10, 11, 12], [11])])
def cutA.B3 : List Nat := [0, 0, 2, 0, 14, 31, 0, 0, 128, 0, 896, 2047, 4095, 8191]
theorem cutA.tab3 : rtab .any (opsOf Try.f28 3) = cutA.T3 := by kernel_rfl
theorem cutA.bits3 : waitsOk cutA.T3.2 cutA.B3 = true := by kernel_rfl
def cutB.T4 : Bool × List (List Nat × List Nat) := (true, [([], []), ([0], [0]), ([1], [1]), ([2], [2]), ([], []), ([4], [4]), ([3, 5], [3, 5]), ([6], [6]), ([7], [7]), ([8], [8]), ([9, 0, 1, 2, 3, 4, 5, 6, 7, 8, 9], [9])])
def cutB.B4 : List Nat := [0, 1, 3, 7, 0, 16, 63, 127, 255, 511, 1023]
theorem cutB.tab4 : rtab .any (opsOf Try.f28 4) = cutB.T4 := by kernel_rfl
theorem cutB.bits4 : waitsOk cutB.T4.2 cutB.B4 = true := by kernel_rfl

set_option maxHeartbeats 2000000 in
theorem cut_leaf (base g : Nat) (v : Value) (ns : List Node) (root i p : Int) (t : List Int) (W : World) (h : RopeAt base W g v ns root) (h0 : 0 ≤ i) (h1 : i < ns.length) (hn : nd ns i = ⟨t.length, nl t, ub t, -1, -1, t⟩)
    (p0 : 0 ≤ p) (p1 : p ≤ t.length) (hl : t.length ≤ 2000) (hm : ns.length ≤ 100000) :
    Calls Try.prog 28 #[.pointer (some ⟨g, 0, none⟩), .int .i64 i, .int .i64 p] W (CutR base g v ns root i t p W) := by
  obtain ⟨A, c, rfl, hc, hc0, hc1, hf0, hf1, hr⟩ := h.open_
  obtain ⟨ad, A5, c5, rfl, x0, x1, x2, x3, x4, x5, l5, t5, n5⟩ := at_node hr i h0 h1
  rw [hn] at x0 x1 x2 x3 x4 x5 l5 t5
  obtain ⟨v, hv⟩ : ∃ v, v = Value.slice (some ad) ns.length c := ⟨_, rfl⟩
  have H := Aside0.mk h
  have HBW : Aside0 (base ≤ W.heap.size) := ⟨Nat.le_trans h.2.1 (Nat.le_of_lt h.lt)⟩
  have HS := Aside0.mk (t5.stay h (show t.length ≤ _ by omega))
  rw [← hv] at H HS ⊢
  have HV := Aside0.mk hv
  have LT : Aside0 ((t.take p.toNat).length = p.toNat) := ⟨by rw [List.length_take]; omega⟩
  have LD : Aside0 ((t.drop p.toNat).length = t.length - p.toNat) := ⟨by rw [List.length_drop]⟩
  have hsl := slice_hi A5 c5 t p p0 p1 l5
  obtain ⟨A', hsd, hA', hcd⟩ := slice_lo A5 c5 t p p0 p1 l5
  have HA' := Aside0.mk hA'
  have HN := Aside0.mk hn
  clear h hr t5 n5 hA' hcd hv hn
  replace h0 := eq_true h0
  replace h1 := eq_true h1
  cases hA5 : A5.isNone
  · go_enter Try.func28, Try.ntmps28
    go_wp2_with fail
    have HB0 : Aside0 ((W.alloc (.cells #[.int .i64 t.length, .int .i64 (nl t), .int .i64 (ub t), .int .i64 (-1), .int .i64 (-1), .slice A5 t.length c5] 67)).heap[W.heap.size]? = some (.cells #[.int .i64 t.length, .int .i64 (nl t), .int .i64 (ub t), .int .i64 (-1), .int .i64 (-1), .slice A5 t.length c5] 67)) := ⟨blk_new W _⟩
    have HW : Aside0 (Below W.heap.size W (W.alloc (.cells #[.int .i64 t.length, .int .i64 (nl t), .int .i64 (ub t), .int .i64 (-1), .int .i64 (-1), .slice A5 t.length c5] 67))) := ⟨below_alloc (Below.refl _ _) _⟩
    have HAP : Aside0 (Apart W.heap.size g v) := ⟨H.out.new (Nat.le_refl _)⟩
    refine start_ (n := 14) (S := fun w' => w'.cell? ⟨W.heap.size, 5, none⟩ = some (.slice A5 t.length c5)) (ds := []) #[false, false, false, false, false, false, false, false, false, false, false, false, false, false] (by kernel_rfl) rfl rfl ((blk_cell (blk_drew HB0.out) 5).trans rfl) (fun hHeld => ?_); refine with_tabW cutA.tab3 cutA.bits3 (fun HT_ HW_ => ?_)
    refine pure_ (i := 0) (N := some 29) (v := ?_) (a' := ?_) #[true, false, false, false, false, false, false, false, false, false, false, false, false, false] rfl rfl (any_of HT_.out (by kernel_rfl)) (fun _ _ _ h => h) (Or.inl ⟨by rfl, ?_⟩) ?_ ?_
    rotate_left
    · intro w'
      go_simp
      with_reducible rfl
    rotate_left
    · simp only [Act.put, List.setIfInBounds_toArray, List.set_cons_zero, List.set_cons_succ, i64_w, i32_w]
      rfl
    refine pure_ (i := 1) (N := some 30) (v := ?_) (a' := ?_) #[true, true, false, false, false, false, false, false, false, false, false, false, false, false] rfl rfl (any_of HT_.out (by kernel_rfl)) (fun _ _ _ h => h) (Or.inl ⟨by rfl, ?_⟩) ?_ ?_
    rotate_left
    · intro w'
      go_simp
      with_reducible rfl
    rotate_left
    · simp only [Act.put, List.setIfInBounds_toArray, List.set_cons_zero, List.set_cons_succ, i64_w, i32_w]
      rfl
    refine pure_ (i := 3) (N := some 32) (v := ?_) (a' := ?_) #[true, true, false, true, false, false, false, false, false, false, false, false, false, false] rfl rfl (any_of HT_.out (by kernel_rfl)) (fun _ _ _ h => h) (Or.inl ⟨by rfl, ?_⟩) ?_ ?_
    rotate_left
    · intro w'
      go_simp
      with_reducible rfl
    rotate_left
    · simp only [Act.put, List.setIfInBounds_toArray, List.set_cons_zero, List.set_cons_succ, i64_w, i32_w]
      rfl
    refine pure_ (i := 6) (N := some 35) (v := ?_) (a' := ?_) #[true, true, false, true, false, false, true, false, false, false, false, false, false, false] rfl rfl (any_of HT_.out (by kernel_rfl)) (fun _ _ _ h => h) (Or.inl ⟨by rfl, ?_⟩) ?_ ?_
    rotate_left
    · intro w'
      go_simp
      with_reducible rfl
    rotate_left
    · simp only [Act.put, List.setIfInBounds_toArray, List.set_cons_zero, List.set_cons_succ, i64_w, i32_w]
      rfl
    refine pure_ (i := 7) (N := some 36) (v := ?_) (a' := ?_) #[true, true, false, true, false, false, true, true, false, false, false, false, false, false] rfl rfl (any_of HT_.out (by kernel_rfl)) (fun _ _ _ h => h) (Or.inl ⟨by rfl, ?_⟩) ?_ ?_
    rotate_left
    · intro w'
      go_simp
      with_reducible rfl
    rotate_left
    · simp only [Act.put, List.setIfInBounds_toArray, List.set_cons_zero, List.set_cons_succ, i64_w, i32_w]
      rfl
    refine pure_ (i := 9) (N := some 38) (v := ?_) (a' := ?_) #[true, true, false, true, false, false, true, true, false, true, false, false, false, false] rfl rfl (any_of HT_.out (by kernel_rfl)) (fun _ _ _ h => h) (Or.inl ⟨by rfl, ?_⟩) ?_ ?_
    rotate_left
    · intro w'
      go_simp
      with_reducible rfl
    rotate_left
    · simp only [Act.put, List.setIfInBounds_toArray, List.set_cons_zero, List.set_cons_succ, i64_w, i32_w]
      rfl
    refine take_ (i := 2) (N := some 31) (v := ?_) (a' := ?_) #[true, true, true, true, false, false, true, true, false, true, false, false, false, false] rfl rfl (take_ofW HT_.out HW_.out (by kernel_rfl)) (fun _ _ _ h => h) (Or.inl ⟨by rfl, ?_⟩) hHeld ?_ ?_
    rotate_left
    · rintro w' s0
      go_simp
      with_reducible rfl
    rotate_left
    · simp only [Act.put, List.setIfInBounds_toArray, List.set_cons_zero, List.set_cons_succ, i64_w, i32_w]
      rfl
    refine take_ (i := 8) (N := some 37) (v := ?_) (a' := ?_) #[true, true, true, true, false, false, true, true, true, true, false, false, false, false] rfl rfl (take_ofW HT_.out HW_.out (by kernel_rfl)) (fun _ _ _ h => h) (Or.inl ⟨by rfl, ?_⟩) hHeld ?_ ?_
    rotate_left
    · rintro w' s0
      go_simp
      with_reducible rfl
    rotate_left
    · simp only [Act.put, List.setIfInBounds_toArray, List.set_cons_zero, List.set_cons_succ, i64_w, i32_w]
      rfl
    refine pure_ (i := 4) (N := some 33) (v := .slice A5 (t.take p.toNat).length c5) (a' := ?pacutA_4_1) #[true, true, true, true, true, false, true, true, true, true, false, false, false, false] rfl rfl (any_of HT_.out (by kernel_rfl)) (fun _ _ _ h => h) (Or.inl ⟨by rfl, ?pycutA_4_1⟩) ?pecutA_4_1 ?prcutA_4_1
    case pecutA_4_1 =>
      simp only [Act.put, List.setIfInBounds_toArray, List.set_cons_zero, List.set_cons_succ, i64_w, i32_w]
      rfl
    case pycutA_4_1 =>
      intro w'
      go_simp
    refine pure_ (i := 10) (N := some 39) (v := .slice A' (t.drop p.toNat).length (c5 - p.toNat)) (a' := ?pacutA_10_2) #[true, true, true, true, true, false, true, true, true, true, true, false, false, false] rfl rfl (any_of HT_.out (by kernel_rfl)) (fun _ _ _ h => h) (Or.inl ⟨by rfl, ?pycutA_10_2⟩) ?pecutA_10_2 ?prcutA_10_2
    case pecutA_10_2 =>
      simp only [Act.put, List.setIfInBounds_toArray, List.set_cons_zero, List.set_cons_succ, i64_w, i32_w]
      rfl
    case pycutA_10_2 =>
      intro w'
      go_simp
    refine one_ (i := 5) (N := some 34) #[true, true, true, true, true, true, true, true, true, true, true, false, false, false] rfl rfl (one_of HT_.out (by kernel_rfl)) (by decide) (fun K hK => ?_)
    refine goes_ Try.func27 (by kernel_rfl) rfl #[.pointer (some ⟨g, 0, none⟩), .slice A5 (t.take p.toNat).length c5] (by rfl) rfl rfl (by (try simp only [List.map_toArray, List.map_cons, List.map_nil]); first | done | rfl | (simp only [List.length_drop, List.length_take]; rfl)) ?_
    refine (build_calls (t.take p.toNat).length (t.take p.toNat) A5 c5 base g v ns root _ (Nat.le_refl _) (H.out.below HW.out).drew (((HS.out.below HW.out HBW.out).below (below_drew (Below.refl _ _)) (Nat.le_trans HBW.out HW.out.size)).take (by omega)) (by rw [LT.out]; omega) (by rw [LT.out]; omega) (by rw [LT.out]; omega)).mono ?_
    rintro e w' ⟨v1, m1, i1, rfl, hR1, hM1, hl1, hT1⟩
    have HR1 := Aside0.mk hR1
    have HM1 : Aside0 (Mv base g v v1 W w') := ⟨((Mv.of_below HW.out HBW.out).trans (Mv.of_below (below_drew (Below.refl _ _)) (Nat.le_trans HBW.out HW.out.size))).trans hM1⟩
    have HB1 := Aside0.mk (hM1.far HAP.out (blk_drew HB0.out))
    have HA1 := Aside0.mk (hM1.apart HAP.out (blk_lt (blk_drew HB0.out)))
    have HL1 := Aside0.mk hl1
    have HT1 := Aside0.mk hT1
    clear hR1 hM1 hl1 hT1
    refine ⟨_, rfl, ?_⟩
    refine hK.out _ _ ((blk_cell HB1.out 5).trans rfl) (fun hHeld => ?_)
    clear hK K
    refine norm_ (a' := ?_) ?_ ?_
    rotate_left
    · show Act.put _ (some 34) _ = _
      simp only [Act.put, List.setIfInBounds_toArray, List.set_cons_zero, List.set_cons_succ, i64_w, i32_w]
      rfl
    refine one_ (i := 11) (N := some 40) #[true, true, true, true, true, true, true, true, true, true, true, true, false, false] rfl rfl (one_of HT_.out (by kernel_rfl)) (by decide) (fun K hK => ?_)
    refine goes_ Try.func27 (by kernel_rfl) rfl #[.pointer (some ⟨g, 0, none⟩), .slice A' (t.drop p.toNat).length (c5 - p.toNat)] (by rfl) rfl rfl (by (try simp only [List.map_toArray, List.map_cons, List.map_nil]); first | done | rfl | (simp only [List.length_drop, List.length_take]; rfl)) ?_
    have hlen1 := HL1.out.1
    rw [LT.out] at hlen1
    have HLN : Aside0 ((ns ++ m1).length + 2 * (t.drop p.toNat).length + 1 ≤ 900000) := ⟨by rw [LD.out, List.length_append]; omega⟩
    clear hlen1
    refine (build_calls (t.drop p.toNat).length (t.drop p.toNat) A' (c5 - p.toNat) base g v1 (ns ++ m1) root _ (Nat.le_refl _) HR1.out (fun v' W' k => HA'.out W' ((HS.out.step HM1.out) v' W' k)) (by rw [LD.out]; omega) (by rw [LD.out]; omega) HLN.out).mono ?_
    rintro e w' ⟨v2, m2, i2, rfl, hR2, hM2, hl2, hT2⟩
    have HR2 := Aside0.mk hR2
    have HM2 := Aside0.mk (HM1.out.trans hM2)
    have HB2 := Aside0.mk (hM2.far HA1.out HB1.out)
    have HL2 := Aside0.mk hl2
    have HT2 := Aside0.mk hT2
    clear hR2 hM2 hl2 hT2
    refine ⟨_, rfl, ?_⟩
    refine hK.out _ _ ((blk_cell HB2.out 5).trans rfl) (fun hHeld => ?_)
    clear hK K
    refine norm_ (a' := ?_) ?_ ?_
    rotate_left
    · show Act.put _ (some 40) _ = _
      simp only [Act.put, List.setIfInBounds_toArray, List.set_cons_zero, List.set_cons_succ, i64_w, i32_w]
      rfl
    refine pure_ (i := 12) (N := some 6) (v := ?_) (a' := ?_) #[true, true, true, true, true, true, true, true, true, true, true, true, true, false] rfl rfl (any_of HT_.out (by kernel_rfl)) (fun _ _ _ h => h) (Or.inl ⟨by rfl, ?_⟩) ?_ ?_
    rotate_left
    · intro w'
      go_simp
      with_reducible rfl
    rotate_left
    · simp only [Act.put, List.setIfInBounds_toArray, List.set_cons_zero, List.set_cons_succ, i64_w, i32_w]
      rfl
    refine pure_ (i := 13) (N := some 7) (v := ?_) (a' := ?_) #[true, true, true, true, true, true, true, true, true, true, true, true, true, true] rfl rfl (any_of HT_.out (by kernel_rfl)) (fun _ _ _ h => h) (Or.inl ⟨by rfl, ?_⟩) ?_ ?_
    rotate_left
    · intro w'
      go_simp
      with_reducible rfl
    rotate_left
    · simp only [Act.put, List.setIfInBounds_toArray, List.set_cons_zero, List.set_cons_succ, i64_w, i32_w]
      rfl
    refine done_ (done_of HT_.out (by kernel_rfl)) ?_
    try go_wp2
    go_ret2
    have hlen1 := HL1.out.1
    have hlen2 := HL2.out.1
    rw [LT.out] at hlen1
    rw [LD.out] at hlen2
    exact ⟨v2, m1 ++ m2, i1, i2, rfl, by simpa [List.append_assoc] using HR2.out, HM2.out, by simp only [List.length_append]; omega, by simpa [List.append_assoc] using HT1.out.more m2, by simpa [List.append_assoc] using HT2.out⟩
  
  · go_enter Try.func28, Try.ntmps28
    go_wp2_with fail
    have HB0 : Aside0 ((W.alloc (.cells #[.int .i64 t.length, .int .i64 (nl t), .int .i64 (ub t), .int .i64 (-1), .int .i64 (-1), .slice A5 t.length c5] 67)).heap[W.heap.size]? = some (.cells #[.int .i64 t.length, .int .i64 (nl t), .int .i64 (ub t), .int .i64 (-1), .int .i64 (-1), .slice A5 t.length c5] 67)) := ⟨blk_new W _⟩
    have HW : Aside0 (Below W.heap.size W (W.alloc (.cells #[.int .i64 t.length, .int .i64 (nl t), .int .i64 (ub t), .int .i64 (-1), .int .i64 (-1), .slice A5 t.length c5] 67))) := ⟨below_alloc (Below.refl _ _) _⟩
    have HAP : Aside0 (Apart W.heap.size g v) := ⟨H.out.new (Nat.le_refl _)⟩
    refine start_ (n := 14) (S := fun w' => w'.cell? ⟨W.heap.size, 5, none⟩ = some (.slice A5 t.length c5)) (ds := []) #[false, false, false, false, false, false, false, false, false, false, false, false, false, false] (by kernel_rfl) rfl rfl ((blk_cell (blk_drew HB0.out) 5).trans rfl) (fun hHeld => ?_); refine with_tabW cutA.tab3 cutA.bits3 (fun HT_ HW_ => ?_)
    refine pure_ (i := 0) (N := some 29) (v := ?_) (a' := ?_) #[true, false, false, false, false, false, false, false, false, false, false, false, false, false] rfl rfl (any_of HT_.out (by kernel_rfl)) (fun _ _ _ h => h) (Or.inl ⟨by rfl, ?_⟩) ?_ ?_
    rotate_left
    · intro w'
      go_simp
      with_reducible rfl
    rotate_left
    · simp only [Act.put, List.setIfInBounds_toArray, List.set_cons_zero, List.set_cons_succ, i64_w, i32_w]
      rfl
    refine pure_ (i := 1) (N := some 30) (v := ?_) (a' := ?_) #[true, true, false, false, false, false, false, false, false, false, false, false, false, false] rfl rfl (any_of HT_.out (by kernel_rfl)) (fun _ _ _ h => h) (Or.inl ⟨by rfl, ?_⟩) ?_ ?_
    rotate_left
    · intro w'
      go_simp
      with_reducible rfl
    rotate_left
    · simp only [Act.put, List.setIfInBounds_toArray, List.set_cons_zero, List.set_cons_succ, i64_w, i32_w]
      rfl
    refine pure_ (i := 3) (N := some 32) (v := ?_) (a' := ?_) #[true, true, false, true, false, false, false, false, false, false, false, false, false, false] rfl rfl (any_of HT_.out (by kernel_rfl)) (fun _ _ _ h => h) (Or.inl ⟨by rfl, ?_⟩) ?_ ?_
    rotate_left
    · intro w'
      go_simp
      with_reducible rfl
    rotate_left
    · simp only [Act.put, List.setIfInBounds_toArray, List.set_cons_zero, List.set_cons_succ, i64_w, i32_w]
      rfl
    refine pure_ (i := 6) (N := some 35) (v := ?_) (a' := ?_) #[true, true, false, true, false, false, true, false, false, false, false, false, false, false] rfl rfl (any_of HT_.out (by kernel_rfl)) (fun _ _ _ h => h) (Or.inl ⟨by rfl, ?_⟩) ?_ ?_
    rotate_left
    · intro w'
      go_simp
      with_reducible rfl
    rotate_left
    · simp only [Act.put, List.setIfInBounds_toArray, List.set_cons_zero, List.set_cons_succ, i64_w, i32_w]
      rfl
    refine pure_ (i := 7) (N := some 36) (v := ?_) (a' := ?_) #[true, true, false, true, false, false, true, true, false, false, false, false, false, false] rfl rfl (any_of HT_.out (by kernel_rfl)) (fun _ _ _ h => h) (Or.inl ⟨by rfl, ?_⟩) ?_ ?_
    rotate_left
    · intro w'
      go_simp
      with_reducible rfl
    rotate_left
    · simp only [Act.put, List.setIfInBounds_toArray, List.set_cons_zero, List.set_cons_succ, i64_w, i32_w]
      rfl
    refine pure_ (i := 9) (N := some 38) (v := ?_) (a' := ?_) #[true, true, false, true, false, false, true, true, false, true, false, false, false, false] rfl rfl (any_of HT_.out (by kernel_rfl)) (fun _ _ _ h => h) (Or.inl ⟨by rfl, ?_⟩) ?_ ?_
    rotate_left
    · intro w'
      go_simp
      with_reducible rfl
    rotate_left
    · simp only [Act.put, List.setIfInBounds_toArray, List.set_cons_zero, List.set_cons_succ, i64_w, i32_w]
      rfl
    refine take_ (i := 2) (N := some 31) (v := ?_) (a' := ?_) #[true, true, true, true, false, false, true, true, false, true, false, false, false, false] rfl rfl (take_ofW HT_.out HW_.out (by kernel_rfl)) (fun _ _ _ h => h) (Or.inl ⟨by rfl, ?_⟩) hHeld ?_ ?_
    rotate_left
    · rintro w' s0
      go_simp
      with_reducible rfl
    rotate_left
    · simp only [Act.put, List.setIfInBounds_toArray, List.set_cons_zero, List.set_cons_succ, i64_w, i32_w]
      rfl
    refine take_ (i := 8) (N := some 37) (v := ?_) (a' := ?_) #[true, true, true, true, false, false, true, true, true, true, false, false, false, false] rfl rfl (take_ofW HT_.out HW_.out (by kernel_rfl)) (fun _ _ _ h => h) (Or.inl ⟨by rfl, ?_⟩) hHeld ?_ ?_
    rotate_left
    · rintro w' s0
      go_simp
      with_reducible rfl
    rotate_left
    · simp only [Act.put, List.setIfInBounds_toArray, List.set_cons_zero, List.set_cons_succ, i64_w, i32_w]
      rfl
    refine pure_ (i := 4) (N := some 33) (v := .slice A5 (t.take p.toNat).length c5) (a' := ?pacutA_4_3) #[true, true, true, true, true, false, true, true, true, true, false, false, false, false] rfl rfl (any_of HT_.out (by kernel_rfl)) (fun _ _ _ h => h) (Or.inl ⟨by rfl, ?pycutA_4_3⟩) ?pecutA_4_3 ?prcutA_4_3
    case pecutA_4_3 =>
      simp only [Act.put, List.setIfInBounds_toArray, List.set_cons_zero, List.set_cons_succ, i64_w, i32_w]
      rfl
    case pycutA_4_3 =>
      intro w'
      go_simp
    refine pure_ (i := 10) (N := some 39) (v := .slice A' (t.drop p.toNat).length (c5 - p.toNat)) (a' := ?pacutA_10_4) #[true, true, true, true, true, false, true, true, true, true, true, false, false, false] rfl rfl (any_of HT_.out (by kernel_rfl)) (fun _ _ _ h => h) (Or.inl ⟨by rfl, ?pycutA_10_4⟩) ?pecutA_10_4 ?prcutA_10_4
    case pecutA_10_4 =>
      simp only [Act.put, List.setIfInBounds_toArray, List.set_cons_zero, List.set_cons_succ, i64_w, i32_w]
      rfl
    case pycutA_10_4 =>
      intro w'
      go_simp
    refine one_ (i := 5) (N := some 34) #[true, true, true, true, true, true, true, true, true, true, true, false, false, false] rfl rfl (one_of HT_.out (by kernel_rfl)) (by decide) (fun K hK => ?_)
    refine goes_ Try.func27 (by kernel_rfl) rfl #[.pointer (some ⟨g, 0, none⟩), .slice A5 (t.take p.toNat).length c5] (by rfl) rfl rfl (by (try simp only [List.map_toArray, List.map_cons, List.map_nil]); first | done | rfl | (simp only [List.length_drop, List.length_take]; rfl)) ?_
    refine (build_calls (t.take p.toNat).length (t.take p.toNat) A5 c5 base g v ns root _ (Nat.le_refl _) (H.out.below HW.out).drew (((HS.out.below HW.out HBW.out).below (below_drew (Below.refl _ _)) (Nat.le_trans HBW.out HW.out.size)).take (by omega)) (by rw [LT.out]; omega) (by rw [LT.out]; omega) (by rw [LT.out]; omega)).mono ?_
    rintro e w' ⟨v1, m1, i1, rfl, hR1, hM1, hl1, hT1⟩
    have HR1 := Aside0.mk hR1
    have HM1 : Aside0 (Mv base g v v1 W w') := ⟨((Mv.of_below HW.out HBW.out).trans (Mv.of_below (below_drew (Below.refl _ _)) (Nat.le_trans HBW.out HW.out.size))).trans hM1⟩
    have HB1 := Aside0.mk (hM1.far HAP.out (blk_drew HB0.out))
    have HA1 := Aside0.mk (hM1.apart HAP.out (blk_lt (blk_drew HB0.out)))
    have HL1 := Aside0.mk hl1
    have HT1 := Aside0.mk hT1
    clear hR1 hM1 hl1 hT1
    refine ⟨_, rfl, ?_⟩
    refine hK.out _ _ ((blk_cell HB1.out 5).trans rfl) (fun hHeld => ?_)
    clear hK K
    refine norm_ (a' := ?_) ?_ ?_
    rotate_left
    · show Act.put _ (some 34) _ = _
      simp only [Act.put, List.setIfInBounds_toArray, List.set_cons_zero, List.set_cons_succ, i64_w, i32_w]
      rfl
    refine one_ (i := 11) (N := some 40) #[true, true, true, true, true, true, true, true, true, true, true, true, false, false] rfl rfl (one_of HT_.out (by kernel_rfl)) (by decide) (fun K hK => ?_)
    refine goes_ Try.func27 (by kernel_rfl) rfl #[.pointer (some ⟨g, 0, none⟩), .slice A' (t.drop p.toNat).length (c5 - p.toNat)] (by rfl) rfl rfl (by (try simp only [List.map_toArray, List.map_cons, List.map_nil]); first | done | rfl | (simp only [List.length_drop, List.length_take]; rfl)) ?_
    have hlen1 := HL1.out.1
    rw [LT.out] at hlen1
    have HLN : Aside0 ((ns ++ m1).length + 2 * (t.drop p.toNat).length + 1 ≤ 900000) := ⟨by rw [LD.out, List.length_append]; omega⟩
    clear hlen1
    refine (build_calls (t.drop p.toNat).length (t.drop p.toNat) A' (c5 - p.toNat) base g v1 (ns ++ m1) root _ (Nat.le_refl _) HR1.out (fun v' W' k => HA'.out W' ((HS.out.step HM1.out) v' W' k)) (by rw [LD.out]; omega) (by rw [LD.out]; omega) HLN.out).mono ?_
    rintro e w' ⟨v2, m2, i2, rfl, hR2, hM2, hl2, hT2⟩
    have HR2 := Aside0.mk hR2
    have HM2 := Aside0.mk (HM1.out.trans hM2)
    have HB2 := Aside0.mk (hM2.far HA1.out HB1.out)
    have HL2 := Aside0.mk hl2
    have HT2 := Aside0.mk hT2
    clear hR2 hM2 hl2 hT2
    refine ⟨_, rfl, ?_⟩
    refine hK.out _ _ ((blk_cell HB2.out 5).trans rfl) (fun hHeld => ?_)
    clear hK K
    refine norm_ (a' := ?_) ?_ ?_
    rotate_left
    · show Act.put _ (some 40) _ = _
      simp only [Act.put, List.setIfInBounds_toArray, List.set_cons_zero, List.set_cons_succ, i64_w, i32_w]
      rfl
    refine pure_ (i := 12) (N := some 6) (v := ?_) (a' := ?_) #[true, true, true, true, true, true, true, true, true, true, true, true, true, false] rfl rfl (any_of HT_.out (by kernel_rfl)) (fun _ _ _ h => h) (Or.inl ⟨by rfl, ?_⟩) ?_ ?_
    rotate_left
    · intro w'
      go_simp
      with_reducible rfl
    rotate_left
    · simp only [Act.put, List.setIfInBounds_toArray, List.set_cons_zero, List.set_cons_succ, i64_w, i32_w]
      rfl
    refine pure_ (i := 13) (N := some 7) (v := ?_) (a' := ?_) #[true, true, true, true, true, true, true, true, true, true, true, true, true, true] rfl rfl (any_of HT_.out (by kernel_rfl)) (fun _ _ _ h => h) (Or.inl ⟨by rfl, ?_⟩) ?_ ?_
    rotate_left
    · intro w'
      go_simp
      with_reducible rfl
    rotate_left
    · simp only [Act.put, List.setIfInBounds_toArray, List.set_cons_zero, List.set_cons_succ, i64_w, i32_w]
      rfl
    refine done_ (done_of HT_.out (by kernel_rfl)) ?_
    try go_wp2
    go_ret2
    have hlen1 := HL1.out.1
    have hlen2 := HL2.out.1
    rw [LT.out] at hlen1
    rw [LD.out] at hlen2
    exact ⟨v2, m1 ++ m2, i1, i2, rfl, by simpa [List.append_assoc] using HR2.out, HM2.out, by simp only [List.length_append]; omega, by simpa [List.append_assoc] using HT1.out.more m2, by simpa [List.append_assoc] using HT2.out⟩
  
end Go.Proofs.Ytepcdjkpmchobaa.Rope
