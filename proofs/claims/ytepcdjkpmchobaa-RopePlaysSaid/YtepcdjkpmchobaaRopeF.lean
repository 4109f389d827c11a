/- rope.build makes of runes a tree that holds them: the leaf. -/
import Derived.Test.YtepcdjkpmchobaaRopeE
namespace Go.Proofs.Ytepcdjkpmchobaa.Rope
open Go.RowKit Go.Proofs.YtepcdjkpmchobaaW.PrintWords Go.Proofs.YtepcdjkpmchobaaW.PrintLast Go.Proofs.YtepcdjkpmchobaaW.PrintMore
attribute [local go_sem] max2_int min2_int max_two min_two max_three min_three max_four min_four
set_option linter.unusedVariables false
set_option linter.unusedSimpArgs false

theorem info21 : (Try.prog.info? 21).map (fun i => (i.zero, i.size, i.bytes)) = some (some (.int .i32 0), 1, 4) := by kernel_rfl
/-- Runes that are read as long as only the rope is written. -/
def Stay (base g : Nat) (v : Value) (W : World) (A : Option Addr) (t : List Int) : Prop := ∀ v' W', Mv base g v v' W W' → RI W' A t
theorem Stay.now {base g : Nat} {v : Value} {W : World} {A : Option Addr} {t : List Int} (h : Stay base g v W A t) : RI W A t := h v W (Mv.refl _ _ _ _)
theorem Stay.step {base g : Nat} {v v1 : Value} {W W1 : World} {A : Option Addr} {t : List Int} (h : Stay base g v W A t) (m : Mv base g v v1 W W1) : Stay base g v1 W1 A t := fun v' W' m' => h v' W' (m.trans m')
theorem Stay.below {base g : Nat} {v : Value} {W W1 : World} {A : Option Addr} {t : List Int} (h : Stay base g v W A t) (hb : Below W.heap.size W W1) (hB : base ≤ W.heap.size) : Stay base g v W1 A t := h.step (Mv.of_below hb hB)
theorem Stay.take {base g : Nat} {v : Value} {W : World} {A : Option Addr} {t : List Int} (h : Stay base g v W A t) {m : Nat} (hm : m ≤ t.length) : Stay base g v W A (t.take m) := fun v' W' k => Kd.C_take (h v' W' k) hm
theorem Stay.drop {base g : Nat} {v : Value} {W : World} {A : Option Addr} {t : List Int} (h : Stay base g v W A t) {m c : Nat} (hm : m ≤ t.length) (hc : t.length ≤ c) : Stay base g v W (if c = m then A else A.map (·.add (m * 1))) (t.drop m) := fun v' W' k => Kd.C_drop (h v' W' k) hm hc
theorem reads_take {t : List Int} {cur : Array Value} (h : cur.toList.take t.length = nums .i32 t) (j : Nat) (hj : j < t.length) : cur[j]? = some (.int .i32 (t.getD j 0)) := by
  have h1 : (cur.toList.take t.length)[j]? = (nums .i32 t)[j]? := by rw [h]
  rw [List.getElem?_take_of_lt hj] at h1
  simp only [Array.getElem?_toList] at h1
  rw [h1]
  simp [nums, List.getD_eq_getElem?_getD, List.getElem?_eq_getElem hj]
theorem TextAt.ri {W : World} {A : Option Addr} {t : List Int} (h : TextAt W A t) (hm : t.length ≤ 9223372036854775807) : RI W A t := by
  refine Kd.C_of_reads (d := (0 : Int)) ⟨rfl, hm, fun hp => ?_⟩
  rcases h with rfl | ⟨g, cur, rfl, hg, ht⟩
  · exact absurd hp (Nat.lt_irrefl 0)
  · exact ⟨_, rfl, fun j hj => by rw [add_plain]; exact (blk_cell hg j).trans (reads_take ht j hj)⟩
/-- A text that lies whole in a block of runes stays. -/
theorem TextAt.stay {base g : Nat} {v : Value} {ns : List Node} {root : Int} {W : World} {A : Option Addr} {t : List Int} (h : TextAt W A t) (hR : RopeAt base W g v ns root) (hm : t.length ≤ 9223372036854775807) : Stay base g v W A t :=
  fun v' W' m => TextAt.ri (h.blk fun k cur hk => m.blk hR hk (by decide) (by decide)) hm
theorem own_text {w : World} {base n c : Nat} {A : Option Addr} {t : List Int} (h : w.ownsRow base 21 1 (.slice A n c) n (nums .i32 t)) : TextAt w A t := by
  have hl : t.length = n := by have := h.1; simp [nums] at this; exact this
  rcases h.2 with ⟨he, h0⟩ | ⟨g, cap, cur, he, _, hh, _, _, _, ht⟩
  · exact .inl (List.eq_nil_of_length_eq_zero (by omega))
  · injection he with h1 h2 h3
    exact .inr ⟨g, cur, h1, hh, by rw [hl, ← ht, Nat.mul_one]⟩
def buildA.T3 : Bool × List (List Nat × List Nat) := (true, [([], []), ([], []), ([1], [1]), ([], []), ([], []), ([4], [4]), ([], []), ([6], [6]), ([3, 5, 7], [3, 5, 7]), ([2, 8], [2, 8]), ([0, 9, 2], [0, 9]), ([10, 10, 0, 1, 2, 3, 4, 5, 6, 7, 8, 9, 10], [10])])
def buildA.B3 : List Nat := [0, 0, 2, 0, 0, 16, 0, 64, 248, 510, 1023, 2047]
theorem buildA.tab3 : rtab .any (opsOf Try.f27 3) = buildA.T3 := by kernel_rfl
theorem buildA.bits3 : waitsOk buildA.T3.2 buildA.B3 = true := by kernel_rfl

theorem add_leaf (base g : Nat) (v : Value) (ns : List Node) (root : Int) (t : List Int) (A1 : Option Addr) (W : World) (h : RopeAt base W g v ns root) (ht : TextAt W A1 t) (hl : ns.length ≤ 1000000) :
    Calls Try.prog 38 #[.pointer (some ⟨g, 0, none⟩), .agg #[.int .i64 t.length, .int .i64 (nl t), .int .i64 (ub t), .int .i64 (-1), .int .i64 (-1), .slice A1 t.length t.length]] W
      fun e w' => ∃ v', e = .returned (.int .i64 ns.length) ∧ RopeAt base w' g v' (ns ++ [⟨t.length, nl t, ub t, -1, -1, t⟩]) root ∧ Mv base g v v' W w' :=
  add_calls base g v ns root ⟨t.length, nl t, ub t, -1, -1, t⟩ A1 t.length W h ⟨A1, t.length, rfl, Nat.le_refl _, ht, fun hh => absurd rfl hh⟩ hl
/-- What build comes to. -/
def BuildR (base g : Nat) (v : Value) (ns : List Node) (root : Int) (t : List Int) (W : World) (e : Ending) (w' : World) : Prop :=
  ∃ v' m i, e = .returned (.int .i64 i) ∧ RopeAt base w' g v' (ns ++ m) root ∧ Mv base g v v' W w' ∧ (m.length ≤ 2 * t.length + 1 ∧ (0 < t.length → m.length + 1 ≤ 2 * t.length)) ∧ Tree (ns ++ m) i t
set_option maxHeartbeats 1000000 in
theorem build_leaf (base g : Nat) (v : Value) (ns : List Node) (root : Int) (t : List Int) (A : Option Addr) (c : Nat) (W : World) (h : RopeAt base W g v ns root) (hs : Stay base g v W A t) (hc : t.length ≤ c) (hl : t.length ≤ 16) (hn : ns.length ≤ 1000000) :
    Calls Try.prog 27 #[.pointer (some ⟨g, 0, none⟩), .slice A t.length c] W (BuildR base g v ns root t W) := by
  have H := Aside0.mk h
  have HS := Aside0.mk hs
  have HN := Aside0.mk hn
  have HL : Aside0 (t.length ≤ 1000000) := ⟨by omega⟩
  have HBW : Aside0 (base ≤ W.heap.size) := ⟨Nat.le_trans h.2.1 (Nat.le_of_lt h.lt)⟩
  have cb : decide ((t.length : Int) ≤ 16) = true := decide_eq_true (by omega)
  have cb' : decide (t.length ≤ 16) = true := decide_eq_true (by omega)
  clear h hs hn
  go_enter Try.func27, Try.ntmps27
  go_wp2_with ((with_reducible refine gate_builtin (b := .append) (xs := #[.tmp 10, .tmp 11]) rfl ?_); at_builtin; refine print_append_row (w0 := W) W.heap.size rfl (.tmp 10) (.tmp 11) 22 21 .i32 4 rfl Try.underlying22 info21 (by decide) (.slice (some ⟨W.heap.size, 0, none⟩) 0 0) [] t A t.length c rfl rfl ?aO ?aR ?aB ?aS ?aL ?_; (case aO => exact World.ownsRow_lit (base := W.heap.size) (e := 21) (size := 1) W #[] 0 (Nat.le_refl _) (by decide) rfl); (case aR => exact Kd.reads_of_C (d := (0 : Int)) (HS.out.now.below (below_alloc (Below.refl _ _) _))); (case aB => exact below_alloc (Below.refl _ _) _); (case aS => exact (below_alloc (Below.refl W.heap.size W) (.cells #[] 21)).size); (case aL => show (0 + t.length) * 4 ≤ _; omega); intro v1 w1 ho hb hg hat)
  simp only [List.nil_append] at ho
  obtain ⟨A1, c1, rfl⟩ := own_slice ho
  have hc1 := own_le ho
  have HT := Aside0.mk (own_text ho)
  have HRI : Aside0 (RI w1 A1 t) := ⟨HT.out.ri (by omega)⟩
  have HB1 := Aside0.mk hb
  clear ho hb hg hat
  refine start_ (n := 12) (S := fun _ => True) (ds := []) #[false, false, false, false, false, false, false, false, false, false, false, false] (by kernel_rfl) rfl rfl trivial (fun hHeld => ?_); refine with_tabW buildA.tab3 buildA.bits3 (fun HT_ HW_ => ?_)
  refine pure_ (i := 0) (N := some 13) (v := ?_) (a' := ?_) #[true, false, false, false, false, false, false, false, false, false, false, false] rfl rfl (any_of HT_.out (by kernel_rfl)) (fun _ _ _ h => h) (Or.inl ⟨by rfl, ?_⟩) ?_ ?_
  rotate_left
  · intro w'
    go_simp
    with_reducible rfl
  rotate_left
  · simp only [Act.put, List.setIfInBounds_toArray, List.set_cons_zero, List.set_cons_succ, i64_w, i32_w]
    rfl
  refine pure_ (i := 1) (N := some 14) (v := ?_) (a' := ?_) #[true, true, false, false, false, false, false, false, false, false, false, false] rfl rfl (any_of HT_.out (by kernel_rfl)) (fun _ _ _ h => h) (Or.inl ⟨by rfl, ?_⟩) ?_ ?_
  rotate_left
  · intro w'
    go_simp
    with_reducible rfl
  rotate_left
  · simp only [Act.put, List.setIfInBounds_toArray, List.set_cons_zero, List.set_cons_succ, i64_w, i32_w]
    rfl
  refine pure_ (i := 3) (N := some 16) (v := ?_) (a' := ?_) #[true, true, false, true, false, false, false, false, false, false, false, false] rfl rfl (any_of HT_.out (by kernel_rfl)) (fun _ _ _ h => h) (Or.inl ⟨by rfl, ?_⟩) ?_ ?_
  rotate_left
  · intro w'
    go_simp
    with_reducible rfl
  rotate_left
  · simp only [Act.put, List.setIfInBounds_toArray, List.set_cons_zero, List.set_cons_succ, i64_w, i32_w]
    rfl
  refine pure_ (i := 4) (N := some 17) (v := ?_) (a' := ?_) #[true, true, false, true, true, false, false, false, false, false, false, false] rfl rfl (any_of HT_.out (by kernel_rfl)) (fun _ _ _ h => h) (Or.inl ⟨by rfl, ?_⟩) ?_ ?_
  rotate_left
  · intro w'
    go_simp
    with_reducible rfl
  rotate_left
  · simp only [Act.put, List.setIfInBounds_toArray, List.set_cons_zero, List.set_cons_succ, i64_w, i32_w]
    rfl
  refine pure_ (i := 5) (N := some 18) (v := ?_) (a' := ?_) #[true, true, false, true, true, true, false, false, false, false, false, false] rfl rfl (any_of HT_.out (by kernel_rfl)) (fun _ _ _ h => h) (Or.inl ⟨by rfl, ?_⟩) ?_ ?_
  rotate_left
  · intro w'
    go_simp
    with_reducible rfl
  rotate_left
  · simp only [Act.put, List.setIfInBounds_toArray, List.set_cons_zero, List.set_cons_succ, i64_w, i32_w]
    rfl
  refine pure_ (i := 6) (N := some 19) (v := ?_) (a' := ?_) #[true, true, false, true, true, true, true, false, false, false, false, false] rfl rfl (any_of HT_.out (by kernel_rfl)) (fun _ _ _ h => h) (Or.inl ⟨by rfl, ?_⟩) ?_ ?_
  rotate_left
  · intro w'
    go_simp
    with_reducible rfl
  rotate_left
  · simp only [Act.put, List.setIfInBounds_toArray, List.set_cons_zero, List.set_cons_succ, i64_w, i32_w]
    rfl
  refine pure_ (i := 7) (N := some 20) (v := ?_) (a' := ?_) #[true, true, false, true, true, true, true, true, false, false, false, false] rfl rfl (any_of HT_.out (by kernel_rfl)) (fun _ _ _ h => h) (Or.inl ⟨by rfl, ?_⟩) ?_ ?_
  rotate_left
  · intro w'
    go_simp
    with_reducible rfl
  rotate_left
  · simp only [Act.put, List.setIfInBounds_toArray, List.set_cons_zero, List.set_cons_succ, i64_w, i32_w]
    rfl
  refine pure_ (i := 8) (N := some 21) (v := .slice A1 t.length t.length) (a' := ?pabuildA_8_1) #[true, true, false, true, true, true, true, true, true, false, false, false] rfl rfl (any_of HT_.out (by kernel_rfl)) (fun _ _ _ h => h) (Or.inl ⟨by rfl, ?pybuildA_8_1⟩) ?pebuildA_8_1 ?prbuildA_8_1
  case pebuildA_8_1 =>
    simp only [Act.put, List.setIfInBounds_toArray, List.set_cons_zero, List.set_cons_succ, i64_w, i32_w]
    rfl
  case pybuildA_8_1 =>
    intro w'
    go_simp
  refine one_ (i := 2) (N := some 15) #[true, true, true, true, true, true, true, true, true, false, false, false] rfl rfl (one_of HT_.out (by kernel_rfl)) (by decide) (fun K hK => ?_)
  refine goes_ Try.func39 (by kernel_rfl) rfl #[.slice A1 t.length c1] (by rfl) rfl rfl (by (try simp only [List.map_toArray, List.map_cons, List.map_nil]); first | done | rfl | (simp only [List.length_drop, List.length_take]; rfl)) ?_
  with_reducible refine (count_calls t A1 c1 _ (HRI.out.below (below_drew (Below.refl _ _))) HL.out).mono ?_
  rintro e w' ⟨rfl, hb⟩
  have hb' : Below w1.heap.size w1 w' := below_then (below_drew (Below.refl _ w1)) (Nat.le_refl _) hb
  refine ⟨_, rfl, ?_⟩
  refine hK.out _ _ trivial (fun hHeld => ?_)
  clear hK K
  refine norm_ (a' := ?_) ?_ ?_
  rotate_left
  · show Act.put _ (some 15) _ = _
    simp only [Act.put, List.setIfInBounds_toArray, List.set_cons_zero, List.set_cons_succ, i64_w, i32_w]
    rfl
  have HB2 := Aside0.mk hb'
  clear hb hb'
  refine pure_ (i := 9) (N := some 22) (v := .agg #[.int .i64 t.length, .int .i64 (nl t), .int .i64 (ub t), .int .i64 (-1), .int .i64 (-1), .slice A1 t.length t.length]) (a' := ?pabuildA_9_2) #[true, true, true, true, true, true, true, true, true, true, false, false] rfl rfl (any_of HT_.out (by kernel_rfl)) (fun _ _ _ h => h) (Or.inl ⟨by rfl, ?pybuildA_9_2⟩) ?pebuildA_9_2 ?prbuildA_9_2
  case pebuildA_9_2 =>
    simp only [Act.put, List.setIfInBounds_toArray, List.set_cons_zero, List.set_cons_succ, i64_w, i32_w]
    rfl
  case pybuildA_9_2 =>
    intro w'
    go_simp
  refine one_ (i := 10) (N := some 23) #[true, true, true, true, true, true, true, true, true, true, true, false] rfl rfl (one_of HT_.out (by kernel_rfl)) (by decide) (fun K hK => ?_)
  refine goes_ Try.func38 (by kernel_rfl) rfl #[.pointer (some ⟨g, 0, none⟩), .agg #[.int .i64 t.length, .int .i64 (nl t), .int .i64 (ub t), .int .i64 (-1), .int .i64 (-1), .slice A1 t.length t.length]] (by rfl) rfl rfl (by (try simp only [List.map_toArray, List.map_cons, List.map_nil]); first | done | rfl) ?_
  with_reducible refine (add_leaf base g v ns root t A1 _ ((H.out.below HB1.out).below HB2.out) (HT.out.below HB2.out) HN.out).mono ?_
  rintro e w3 ⟨v', rfl, hR, hM⟩
  refine ⟨_, rfl, ?_⟩
  refine hK.out _ _ trivial (fun hHeld => ?_)
  clear hK K
  refine norm_ (a' := ?_) ?_ ?_
  rotate_left
  · show Act.put _ (some 23) _ = _
    simp only [Act.put, List.setIfInBounds_toArray, List.set_cons_zero, List.set_cons_succ, i64_w, i32_w]
    rfl
  refine pure_ (i := 11) (N := some 4) (v := ?_) (a' := ?_) #[true, true, true, true, true, true, true, true, true, true, true, true] rfl rfl (any_of HT_.out (by kernel_rfl)) (fun _ _ _ h => h) (Or.inl ⟨by rfl, ?_⟩) ?_ ?_
  rotate_left
  · intro w'
    go_simp
    with_reducible rfl
  rotate_left
  · simp only [Act.put, List.setIfInBounds_toArray, List.set_cons_zero, List.set_cons_succ, i64_w, i32_w]
    rfl
  refine done_ (done_of HT_.out (by kernel_rfl)) ?_
  try go_wp2
  go_ret
  exact ⟨v', [⟨t.length, nl t, ub t, -1, -1, t⟩], _, rfl, hR, ((Mv.of_below HB1.out HBW.out).trans (Mv.of_below HB2.out (Nat.le_trans HBW.out HB1.out.size))).trans hM, by simp; omega, .leaf _ _ (by omega) (by simp; omega) (nd_last _ _)⟩

end Go.Proofs.Ytepcdjkpmchobaa.Rope
