/- rope.to, Line and Bytes tell what lies ahead of a place, or that it is none. -/
import Derived.Laws.Cover3
import Derived.Test.YtepcdjkpmchobaaRopeS
namespace Go.Proofs.Ytepcdjkpmchobaa.Rope
open Go.RowKit Go.Proofs.YtepcdjkpmchobaaW.PrintWords Go.Proofs.YtepcdjkpmchobaaW.PrintLast Go.Proofs.YtepcdjkpmchobaaW.PrintMore
attribute [local go_sem] max2_int min2_int max_two min_two max_three min_three max_four min_four
set_option linter.unusedVariables false
set_option linter.unusedSimpArgs false

/-- Is this a place? -/
def inText (t : List Int) (p : Int) : Bool := decide (0 ≤ p) && decide (p ≤ t.length)
/-- What `to` comes to. -/
def ToR (t : List Int) (p : Int) (W : World) (e : Ending) (w' : World) : Prop := Below W.heap.size W w' ∧
  ((inText t p = false ∧ e = .returned (.tuple #[.agg #[.int .i64 0, .int .i64 0, .int .i64 0], .bool false])) ∨
   (inText t p = true ∧ e = .returned (.tuple #[.agg #[.int .i64 (t.take p.toNat).length, .int .i64 (nl (t.take p.toNat)), .int .i64 (ub (t.take p.toNat))], .bool true])))
set_option maxHeartbeats 2000000 in
theorem to_calls (base g : Nat) (v : Value) (t : List Int) (p : Int) (W : World) (h : RopeIs base W g v t) :
    Calls Try.prog 35 #[.pointer (some ⟨g, 0, none⟩), .int .i64 p] W (ToR t p W) := by
  have H := Aside0.mk h
  have HW : Aside0 (Below W.heap.size W (W.alloc (.cells #[.int .i64 0, .int .i64 0, .int .i64 0] 64))) := ⟨below_alloc (Below.refl _ _) _⟩
  have hbx := fun (w : World) => (show (Instr.build 64 #[]).run Try.prog w = .ok (.agg #[.int .i64 0, .int .i64 0, .int .i64 0]) w from by kernel_rfl)
  obtain ⟨ns, root, hR, hT, hn, ht⟩ := h
  have HR := Aside0.mk hR
  have HT := Aside0.mk hT
  have HL := Aside0.mk ht
  clear hR hT hn ht
  by_cases c1 : p < 0
  · have c1b : decide (p < 0) = true := decide_eq_true c1
    have E : Aside0 (inText t p = false) := ⟨by unfold inText; rw [decide_eq_false (by omega)]; rfl⟩
    have B0 : Aside0 ((W.alloc (.cells #[.int .i64 0, .int .i64 0, .int .i64 0] 64)).heap[W.heap.size]? = some (.cells #[.int .i64 0, .int .i64 0, .int .i64 0] 64)) := ⟨blk_new W _⟩
    go_enter Try.func35, Try.ntmps35
    go_wp2_with fail
    refine bodyPost_ret (results_ct rfl _ _ W.heap.size 64 #[.int .i64 0, .int .i64 0, .int .i64 0] (0, 0) _ rfl ?_ Try.underlying64 rfl (by kernel_rfl)) rfl ⟨?_, .inl ⟨E.out, rfl⟩⟩
    · exact B0.out
    · exact HW.out
  have c1b : decide (p < 0) = false := decide_eq_false c1
  by_cases c2 : (t.length : Int) < p
  · have c2b : decide ((t.length : Int) < p) = true := decide_eq_true c2
    have E : Aside0 (inText t p = false) := ⟨by unfold inText; rw [decide_eq_false (show ¬ p ≤ (t.length : Int) by omega)]; simp⟩
    go_enter Try.func35, Try.ntmps35
    go_wp2_with fail
    refine (len_is (H.out.below HW.out)).mono ?_
    rintro e w1 ⟨rfl, hb1⟩
    have B1 := Aside0.mk (blk_below (blk_new W (.cells #[.int .i64 0, .int .i64 0, .int .i64 0] 64)) hb1)
    have HB1 := Aside0.mk (below_then HW.out HW.out.size hb1)
    have f0 := blk_frozen B1.out 0
    have f1 := blk_frozen B1.out 1
    have f2 := blk_frozen B1.out 2
    have x0 := (blk_cell B1.out 0).trans rfl
    have x1 := (blk_cell B1.out 1).trans rfl
    have x2 := (blk_cell B1.out 2).trans rfl
    clear hb1
    go_wp2_with fail
    refine bodyPost_ret (results_ct rfl _ _ W.heap.size 64 #[.int .i64 0, .int .i64 0, .int .i64 0] (0, 0) _ rfl ?_ Try.underlying64 rfl (by kernel_rfl)) rfl ⟨?_, .inl ⟨E.out, rfl⟩⟩
    · exact blk_put (blk_put (blk_put B1.out 0 (.int .i64 0) rfl) 1 (.int .i64 0) rfl) 2 (.int .i64 0) rfl
    · exact ((HB1.out.setCell (Nat.le_refl _) _).setCell (Nat.le_refl _) _).setCell (Nat.le_refl _) _
  have c2b : decide ((t.length : Int) < p) = false := decide_eq_false c2
  have E : Aside0 (inText t p = true) := ⟨by unfold inText; rw [decide_eq_true (show 0 ≤ p by omega), decide_eq_true (show p ≤ (t.length : Int) by omega)]; rfl⟩
  obtain ⟨n0, hn0⟩ : ∃ n : Nat, (t.take p.toNat).length = n := ⟨_, rfl⟩
  have HE := Aside0.mk hn0
  clear hn0
  go_enter Try.func35, Try.ntmps35
  go_wp2_with fail
  refine (len_is (H.out.below HW.out)).mono ?_
  rintro e w1 ⟨rfl, hb1⟩
  have B1 := Aside0.mk (blk_below (blk_new W (.cells #[.int .i64 0, .int .i64 0, .int .i64 0] 64)) hb1)
  have HB1 := Aside0.mk (below_then HW.out HW.out.size hb1)
  have hq := pw_cell_below HB1.out ((blk_cell HR.out.1 1).trans rfl)
  clear hb1
  go_wp2_with fail
  refine (ahead_calls HT.out base g v root p _ (HR.out.below HB1.out) (by omega) (by omega) HL.out).mono ?_
  rintro e w2 ⟨rfl, hb2⟩
  have B2 := Aside0.mk (blk_below B1.out hb2)
  have HB2 := Aside0.mk (below_then HB1.out HB1.out.size hb2)
  have f0 := blk_frozen B2.out 0
  have f1 := blk_frozen B2.out 1
  have f2 := blk_frozen B2.out 2
  have x0 := (blk_cell B2.out 0).trans rfl
  have x1 := (blk_cell B2.out 1).trans rfl
  have x2 := (blk_cell B2.out 2).trans rfl
  rw [HE.out]
  clear hb2 hq
  go_wp2_with fail
  refine bodyPost_ret (results_ct rfl _ _ W.heap.size 64 #[.int .i64 n0, .int .i64 (nl (t.take p.toNat)), .int .i64 (ub (t.take p.toNat))] (0, 0) _ rfl ?_ Try.underlying64 rfl (by kernel_rfl)) rfl ⟨?_, .inr ⟨E.out, by rw [HE.out]; rfl⟩⟩
  · exact blk_put (blk_put (blk_put B2.out 0 (.int .i64 n0) rfl) 1 (.int .i64 (nl (t.take p.toNat))) rfl) 2 (.int .i64 (ub (t.take p.toNat))) rfl
  · exact ((HB2.out.setCell (Nat.le_refl _) _).setCell (Nat.le_refl _) _).setCell (Nat.le_refl _) _

/-- What Line comes to. -/
def lineF (t : List Int) (p : Int) : Int × Int := if inText t p = true then ((nl (t.take p.toNat) : Int), 0) else (0, 1)
set_option maxHeartbeats 2000000 in
theorem line_calls (base g : Nat) (v : Value) (t : List Int) (p : Int) (W : World) (h : RopeIs base W g v t) :
    Calls Try.prog 15 #[.pointer (some ⟨g, 0, none⟩), .int .i64 p] W fun e w' => e = .returned (.tuple #[.int .i64 (lineF t p).1, .int .i64 (lineF t p).2]) ∧ Below W.heap.size W w' := by
  have H := Aside0.mk h
  clear h
  go_enter Try.func15, Try.ntmps15
  go_wp2_with fail
  refine (to_calls base g v t p _ H.out).mono ?_
  rintro e w1 ⟨hb1, hq⟩
  have HB1 := Aside0.mk hb1
  clear hb1
  rcases hq with ⟨hi, rfl⟩ | ⟨hi, rfl⟩
  · have E : Aside0 (lineF t p = (0, 1)) := ⟨by unfold lineF; rw [if_neg (by rw [hi]; decide)]⟩
    go_wp2_with fail
    go_ret2
    exact ⟨by rw [E.out]; rfl, HB1.out.alloc HB1.out.size _⟩
  · have E : Aside0 (lineF t p = ((nl (t.take p.toNat) : Int), 0)) := ⟨by unfold lineF; rw [if_pos hi]⟩
    obtain ⟨n0, hn0⟩ : ∃ n : Nat, (t.take p.toNat).length = n := ⟨_, rfl⟩
    rw [hn0]
    clear hn0
    go_wp2_with fail
    go_ret2
    exact ⟨by rw [E.out]; rfl, HB1.out.alloc HB1.out.size _⟩

/-- What Bytes comes to. -/
def bytesF (t : List Int) (p : Int) : Int × Int := if inText t p = true then ((ub (t.take p.toNat) : Int), 0) else (0, 1)
set_option maxHeartbeats 2000000 in
theorem bytes_calls (base g : Nat) (v : Value) (t : List Int) (p : Int) (W : World) (h : RopeIs base W g v t) :
    Calls Try.prog 21 #[.pointer (some ⟨g, 0, none⟩), .int .i64 p] W fun e w' => e = .returned (.tuple #[.int .i64 (bytesF t p).1, .int .i64 (bytesF t p).2]) ∧ Below W.heap.size W w' := by
  have H := Aside0.mk h
  clear h
  go_enter Try.func21, Try.ntmps21
  go_wp2_with fail
  refine (to_calls base g v t p _ H.out).mono ?_
  rintro e w1 ⟨hb1, hq⟩
  have HB1 := Aside0.mk hb1
  clear hb1
  rcases hq with ⟨hi, rfl⟩ | ⟨hi, rfl⟩
  · have E : Aside0 (bytesF t p = (0, 1)) := ⟨by unfold bytesF; rw [if_neg (by rw [hi]; decide)]⟩
    go_wp2_with fail
    go_ret2
    exact ⟨by rw [E.out]; rfl, HB1.out.alloc HB1.out.size _⟩
  · have E : Aside0 (bytesF t p = ((ub (t.take p.toNat) : Int), 0)) := ⟨by unfold bytesF; rw [if_pos hi]⟩
    obtain ⟨n0, hn0⟩ : ∃ n : Nat, (t.take p.toNat).length = n := ⟨_, rfl⟩
    rw [hn0]
    clear hn0
    go_wp2_with fail
    go_ret2
    exact ⟨by rw [E.out]; rfl, HB1.out.alloc HB1.out.size _⟩
end Go.Proofs.Ytepcdjkpmchobaa.Rope
