/- rope.build makes of runes a tree that holds them: both cases. For at most 2000 runes. -/
import Derived.Test.YtepcdjkpmchobaaRopeF
namespace Go.Proofs.Ytepcdjkpmchobaa.Rope
open Go.RowKit Go.Proofs.YtepcdjkpmchobaaW.PrintWords Go.Proofs.YtepcdjkpmchobaaW.PrintLast Go.Proofs.YtepcdjkpmchobaaW.PrintMore
attribute [local go_sem] max2_int min2_int max_two min_two max_three min_three max_four min_four
set_option linter.unusedVariables false
set_option linter.unusedSimpArgs false

theorem slice_hi (A : Option Addr) (c : Nat) (t : List Int) (j : Int) (h0 : 0 ≤ j) (h1 : j ≤ t.length) (hc : t.length ≤ c) :
    ∀ W : World, (Instr.slice 22 (.slice A t.length c) none (some (.int .i64 j)) none).run Try.prog W = .ok (.slice A (t.take j.toNat).length c) W := by
  obtain ⟨i0, hi, hzz⟩ := Option.map_eq_some_iff.1 info21
  simp only [Prod.mk.injEq] at hzz
  exact (print_take_of (Value.int .i32) (0 : Int) 22 21 .i64 Try.underlying22 hi hzz.2.1 A c t j h0 h1 hc).1
theorem slice_lo (A : Option Addr) (c : Nat) (t : List Int) (j : Int) (h0 : 0 ≤ j) (h1 : j ≤ t.length) (hc : t.length ≤ c) :
    ∃ A' : Option Addr, (∀ W : World, (Instr.slice 22 (.slice A t.length c) (some (.int .i64 j)) none none).run Try.prog W = .ok (.slice A' (t.drop j.toNat).length (c - j.toNat)) W) ∧ (∀ W, RI W A t → RI W A' (t.drop j.toNat)) ∧ (t.drop j.toNat).length ≤ c - j.toNat := by
  obtain ⟨i0, hi, hzz⟩ := Option.map_eq_some_iff.1 info21
  simp only [Prod.mk.injEq] at hzz
  obtain ⟨A', h2, h3, h4⟩ := print_drop_of (P := Try.prog) (Value.int .i32) (0 : Int) 22 21 .i64 Try.underlying22 hi hzz.2.1 A c t j h0 h1 hc
  exact ⟨A', h2, fun W hr => Kd.C_of_reads (h3 W (Kd.reads_of_C (d := (0 : Int)) hr)), h4⟩
theorem SumB.of_tree {ns : List Node} {i : Int} {t : List Int} (h : Tree ns i t) (hl : t.length ≤ 100000) : SumB (nd ns i) := by
  have hs := h.sum
  have h1 := nl_le t
  have h2 := ub_le t
  constructor <;> omega
def buildB.T5 : Bool × List (List Nat × List Nat) := (true, [([], []), ([], []), ([], []), ([], []), ([2, 3], [2, 3]), ([1, 4], [1, 4]), ([], []), ([], []), ([], []), ([7, 8], [7, 8]), ([6, 9, 5], [6, 9]), ([0, 5, 10, 10], [0, 5, 10]), ([11, 11, 0, 1, 2, 3, 4, 5, 6, 7, 8, 9, 10, 11], [11])])
def buildB.B5 : List Nat := [0, 0, 0, 0, 12, 30, 0, 0, 0, 384, 1022, 2047, 4095]
theorem buildB.tab5 : rtab .any (opsOf Try.f27 5) = buildB.T5 := by kernel_rfl
theorem buildB.bits5 : waitsOk buildB.T5.2 buildB.B5 = true := by kernel_rfl

set_option maxHeartbeats 2000000 in
theorem build_calls (n : Nat) : ∀ (t : List Int) (A : Option Addr) (c : Nat) (base g : Nat) (v : Value) (ns : List Node) (root : Int) (W : World), t.length ≤ n → RopeAt base W g v ns root → Stay base g v W A t → t.length ≤ c → t.length ≤ 100000 → ns.length + 2 * t.length + 1 ≤ 900000 →
    Calls Try.prog 27 #[.pointer (some ⟨g, 0, none⟩), .slice A t.length c] W (BuildR base g v ns root t W) := by
  induction n with
  | zero => exact fun t A c base g v ns root W hn h hs hc hl hm => build_leaf base g v ns root t A c W h hs hc (by omega) (by omega)
  | succ n ih =>
    intro t A c base g v ns root W hn h hs hc hl hm
    by_cases h16 : t.length ≤ 16
    · exact build_leaf base g v ns root t A c W h hs hc h16 (by omega)
    have H := Aside0.mk h
    have HS := Aside0.mk hs
    have HBW : Aside0 (base ≤ W.heap.size) := ⟨Nat.le_trans h.2.1 (Nat.le_of_lt h.lt)⟩
    have cb : decide ((t.length : Int) ≤ 16) = false := decide_eq_false (by omega)
    have cb' : decide (t.length ≤ 16) = false := decide_eq_false (by omega)
    have LT : Aside0 ((t.take ((t.length : Int) / 2).toNat).length = t.length / 2) := ⟨by rw [List.length_take]; omega⟩
    have LD : Aside0 ((t.drop ((t.length : Int) / 2).toNat).length = t.length - t.length / 2) := ⟨by rw [List.length_drop]; omega⟩
    have hsl := slice_hi A c t ((t.length : Int) / 2) (by omega) (by omega) hc
    obtain ⟨A', hsd, hA', hcd⟩ := slice_lo A c t ((t.length : Int) / 2) (by omega) (by omega) hc
    have HA' := Aside0.mk hA'
    clear h hs hA' hcd
    go_enter Try.func27, Try.ntmps27
    go_wp2_with fail
    refine start_ (n := 13) (S := fun _ => True) (ds := []) #[false, false, false, false, false, false, false, false, false, false, false, false, false] (by kernel_rfl) rfl rfl trivial (fun hHeld => ?_); refine with_tabW buildB.tab5 buildB.bits5 (fun HT_ HW_ => ?_)
    refine pure_ (i := 0) (N := some 27) (v := ?_) (a' := ?_) #[true, false, false, false, false, false, false, false, false, false, false, false, false] rfl rfl (any_of HT_.out (by kernel_rfl)) (fun _ _ _ h => h) (Or.inl ⟨by rfl, ?_⟩) ?_ ?_
    rotate_left
    · intro w'
      go_simp
      with_reducible rfl
    rotate_left
    · simp only [Act.put, List.setIfInBounds_toArray, List.set_cons_zero, List.set_cons_succ, i64_w, i32_w]
      rfl
    refine pure_ (i := 1) (N := some 28) (v := ?_) (a' := ?_) #[true, true, false, false, false, false, false, false, false, false, false, false, false] rfl rfl (any_of HT_.out (by kernel_rfl)) (fun _ _ _ h => h) (Or.inl ⟨by rfl, ?_⟩) ?_ ?_
    rotate_left
    · intro w'
      go_simp
      with_reducible rfl
    rotate_left
    · simp only [Act.put, List.setIfInBounds_toArray, List.set_cons_zero, List.set_cons_succ, i64_w, i32_w]
      rfl
    refine pure_ (i := 2) (N := some 29) (v := ?_) (a' := ?_) #[true, true, true, false, false, false, false, false, false, false, false, false, false] rfl rfl (any_of HT_.out (by kernel_rfl)) (fun _ _ _ h => h) (Or.inl ⟨by rfl, ?_⟩) ?_ ?_
    rotate_left
    · intro w'
      go_simp
      with_reducible rfl
    rotate_left
    · simp only [Act.put, List.setIfInBounds_toArray, List.set_cons_zero, List.set_cons_succ, i64_w, i32_w]
      rfl
    refine pure_ (i := 3) (N := some 30) (v := ?_) (a' := ?_) #[true, true, true, true, false, false, false, false, false, false, false, false, false] rfl rfl (any_of HT_.out (by kernel_rfl)) (fun _ _ _ h => h) (Or.inl ⟨by rfl, ?_⟩) ?_ ?_
    rotate_left
    · intro w'
      go_simp
      with_reducible rfl
    rotate_left
    · simp only [Act.put, List.setIfInBounds_toArray, List.set_cons_zero, List.set_cons_succ, i64_w, i32_w]
      rfl
    refine pure_ (i := 6) (N := some 33) (v := ?_) (a' := ?_) #[true, true, true, true, false, false, true, false, false, false, false, false, false] rfl rfl (any_of HT_.out (by kernel_rfl)) (fun _ _ _ h => h) (Or.inl ⟨by rfl, ?_⟩) ?_ ?_
    rotate_left
    · intro w'
      go_simp
      with_reducible rfl
    rotate_left
    · simp only [Act.put, List.setIfInBounds_toArray, List.set_cons_zero, List.set_cons_succ, i64_w, i32_w]
      rfl
    refine pure_ (i := 7) (N := some 34) (v := ?_) (a' := ?_) #[true, true, true, true, false, false, true, true, false, false, false, false, false] rfl rfl (any_of HT_.out (by kernel_rfl)) (fun _ _ _ h => h) (Or.inl ⟨by rfl, ?_⟩) ?_ ?_
    rotate_left
    · intro w'
      go_simp
      with_reducible rfl
    rotate_left
    · simp only [Act.put, List.setIfInBounds_toArray, List.set_cons_zero, List.set_cons_succ, i64_w, i32_w]
      rfl
    refine pure_ (i := 8) (N := some 35) (v := ?_) (a' := ?_) #[true, true, true, true, false, false, true, true, true, false, false, false, false] rfl rfl (any_of HT_.out (by kernel_rfl)) (fun _ _ _ h => h) (Or.inl ⟨by rfl, ?_⟩) ?_ ?_
    rotate_left
    · intro w'
      go_simp
      with_reducible rfl
    rotate_left
    · simp only [Act.put, List.setIfInBounds_toArray, List.set_cons_zero, List.set_cons_succ, i64_w, i32_w]
      rfl
    refine pure_ (i := 4) (N := some 31) (v := .slice A (t.take ((t.length : Int) / 2).toNat).length c) (a' := ?pabuildB_4_1) #[true, true, true, true, true, false, true, true, true, false, false, false, false] rfl rfl (any_of HT_.out (by kernel_rfl)) (fun _ _ _ h => h) (Or.inl ⟨by rfl, ?pybuildB_4_1⟩) ?pebuildB_4_1 ?prbuildB_4_1
    case pebuildB_4_1 =>
      simp only [Act.put, List.setIfInBounds_toArray, List.set_cons_zero, List.set_cons_succ, i64_w, i32_w]
      rfl
    case pybuildB_4_1 =>
      intro w'
      go_simp
    refine pure_ (i := 9) (N := some 36) (v := .slice A' (t.drop ((t.length : Int) / 2).toNat).length (c - ((t.length : Int) / 2).toNat)) (a' := ?pabuildB_9_2) #[true, true, true, true, true, false, true, true, true, true, false, false, false] rfl rfl (any_of HT_.out (by kernel_rfl)) (fun _ _ _ h => h) (Or.inl ⟨by rfl, ?pybuildB_9_2⟩) ?pebuildB_9_2 ?prbuildB_9_2
    case pebuildB_9_2 =>
      simp only [Act.put, List.setIfInBounds_toArray, List.set_cons_zero, List.set_cons_succ, i64_w, i32_w]
      rfl
    case pybuildB_9_2 =>
      intro w'
      go_simp
    refine one_ (i := 5) (N := some 32) #[true, true, true, true, true, true, true, true, true, true, false, false, false] rfl rfl (one_of HT_.out (by kernel_rfl)) (by decide) (fun K hK => ?_)
    refine goes_ Try.func27 (by kernel_rfl) rfl #[.pointer (some ⟨g, 0, none⟩), .slice A (t.take ((t.length : Int) / 2).toNat).length c] (by rfl) rfl rfl (by (try simp only [List.map_toArray, List.map_cons, List.map_nil]); first | done | rfl | (simp only [List.length_drop, List.length_take]; rfl)) ?_
    refine (ih (t.take ((t.length : Int) / 2).toNat) A c base g v ns root _ (by rw [LT.out]; omega) (H.out.drew) ((HS.out.below (below_drew (Below.refl _ _)) HBW.out).take (by omega)) (by rw [LT.out]; omega) (by rw [LT.out]; omega) (by rw [LT.out]; omega)).mono ?_
    rintro e w' ⟨v1, m1, i1, rfl, hR1, hM1, hl1, hT1⟩
    have HR1 := Aside0.mk hR1
    have HM1 : Aside0 (Mv base g v v1 W w') := ⟨(Mv.of_below (below_drew (Below.refl _ _)) HBW.out).trans hM1⟩
    have HL1 := Aside0.mk hl1
    have HT1 := Aside0.mk hT1
    clear hR1 hM1 hl1 hT1
    refine ⟨_, rfl, ?_⟩
    refine hK.out _ _ trivial (fun hHeld => ?_)
    clear hK K
    refine norm_ (a' := ?_) ?_ ?_
    rotate_left
    · show Act.put _ (some 32) _ = _
      simp only [Act.put, List.setIfInBounds_toArray, List.set_cons_zero, List.set_cons_succ, i64_w, i32_w]
      rfl
    refine one_ (i := 10) (N := some 37) #[true, true, true, true, true, true, true, true, true, true, true, false, false] rfl rfl (one_of HT_.out (by kernel_rfl)) (by decide) (fun K hK => ?_)
    refine goes_ Try.func27 (by kernel_rfl) rfl #[.pointer (some ⟨g, 0, none⟩), .slice A' (t.drop ((t.length : Int) / 2).toNat).length (c - ((t.length : Int) / 2).toNat)] (by rfl) rfl rfl (by (try simp only [List.map_toArray, List.map_cons, List.map_nil]); first | done | rfl | (simp only [List.length_drop, List.length_take]; rfl)) ?_
    have hlen1 := HL1.out.2
    rw [LT.out] at hlen1
    have HLN : Aside0 ((ns ++ m1).length + 2 * (t.drop ((t.length : Int) / 2).toNat).length + 1 ≤ 900000) := ⟨by rw [LD.out, List.length_append]; omega⟩
    clear hlen1
    refine (ih (t.drop ((t.length : Int) / 2).toNat) A' (c - ((t.length : Int) / 2).toNat) base g v1 (ns ++ m1) root _ (by rw [LD.out]; omega) HR1.out (fun v' W' k => HA'.out W' ((HS.out.step HM1.out) v' W' k)) (by rw [LD.out]; omega) (by rw [LD.out]; omega) HLN.out).mono ?_
    rintro e w' ⟨v2, m2, i2, rfl, hR2, hM2, hl2, hT2⟩
    have HR2 := Aside0.mk hR2
    have HM2 := Aside0.mk (HM1.out.trans hM2)
    have HL2 := Aside0.mk hl2
    have HT2 := Aside0.mk hT2
    have HT1' := Aside0.mk (HT1.out.more m2)
    clear hR2 hM2 hl2 hT2
    refine ⟨_, rfl, ?_⟩
    refine hK.out _ _ trivial (fun hHeld => ?_)
    clear hK K
    refine norm_ (a' := ?_) ?_ ?_
    rotate_left
    · show Act.put _ (some 37) _ = _
      simp only [Act.put, List.setIfInBounds_toArray, List.set_cons_zero, List.set_cons_succ, i64_w, i32_w]
      rfl
    refine one_ (i := 11) (N := some 38) #[true, true, true, true, true, true, true, true, true, true, true, true, false] rfl rfl (one_of HT_.out (by kernel_rfl)) (by decide) (fun K hK => ?_)
    refine goes_ Try.func30 (by kernel_rfl) rfl #[.pointer (some ⟨g, 0, none⟩), .int .i64 i1, .int .i64 i2] (by rfl) rfl rfl (by (try simp only [List.map_toArray, List.map_cons, List.map_nil]); first | done | rfl) ?_
    have hlen1 := HL1.out.2
    have hlen2 := HL2.out.2
    rw [LT.out] at hlen1
    rw [LD.out] at hlen2
    refine (join_calls base g v2 (ns ++ m1 ++ m2) root i1 i2 _ HR2.out HT1'.out.ix.1 HT1'.out.ix.2 HT2.out.ix.1 HT2.out.ix.2 (.of_tree HT1'.out (by rw [LT.out]; omega)) (.of_tree HT2.out (by rw [LD.out]; omega)) (by simp only [List.length_append]; omega)).mono ?_
    rintro e w3 ⟨v3, ns3, i3, rfl, hR3, hM3, hJ⟩
    have HR3 := Aside0.mk hR3
    have HM3 := Aside0.mk (HM2.out.trans hM3)
    have HJ := Aside0.mk hJ
    clear hR3 hM3 hJ
    refine ⟨_, rfl, ?_⟩
    refine hK.out _ _ trivial (fun hHeld => ?_)
    clear hK K
    refine norm_ (a' := ?_) ?_ ?_
    rotate_left
    · show Act.put _ (some 38) _ = _
      simp only [Act.put, List.setIfInBounds_toArray, List.set_cons_zero, List.set_cons_succ, i64_w, i32_w]
      rfl
    refine pure_ (i := 12) (N := some 4) (v := ?_) (a' := ?_) #[true, true, true, true, true, true, true, true, true, true, true, true, true] rfl rfl (any_of HT_.out (by kernel_rfl)) (fun _ _ _ h => h) (Or.inl ⟨by rfl, ?_⟩) ?_ ?_
    rotate_left
    · intro w'
      go_simp
      with_reducible rfl
    rotate_left
    · simp only [Act.put, List.setIfInBounds_toArray, List.set_cons_zero, List.set_cons_succ, i64_w, i32_w]
      rfl
    refine done_ (done_of HT_.out (by kernel_rfl)) ?_
    try go_wp2
    go_ret
    obtain ⟨m3, e3, hl3, hT3⟩ := HJ.out.tree HT1'.out HT2.out
    rw [List.take_append_drop] at hT3
    have hlen1 := HL1.out.2
    have hlen2 := HL2.out.2
    rw [LT.out] at hlen1
    rw [LD.out] at hlen2
    subst e3
    refine ⟨v3, m1 ++ m2 ++ m3, i3, rfl, ?_, HM3.out, ⟨by simp only [List.length_append]; omega, fun _ => by simp only [List.length_append]; omega⟩, ?_⟩
    · simpa [List.append_assoc] using HR3.out
    · simpa [List.append_assoc] using hT3

end Go.Proofs.Ytepcdjkpmchobaa.Rope
