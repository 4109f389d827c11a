/- styluslaw04.knows returns true. -/
import Derived.Laws.Cover3
import Derived.Test.YtbeoillppkcpmaaMarkO
namespace Go.Proofs.Ytbeoillppkcpmaa.Mark
open Go.RowKit Go.Proofs.YtbeoillppkcpmaaW.PrintWords Go.Proofs.YtbeoillppkcpmaaW.PrintLast Go.Proofs.YtbeoillppkcpmaaW.PrintMore Go.Proofs.Ytbeoillppkcpmaa.PMarksPlay
attribute [local go_sem] max2_int min2_int max_two min_two max_three min_three max_four min_four
attribute [local go_sem high] eqA28
set_option linter.unusedVariables false
set_option linter.unusedSimpArgs false
/-! ### knows -/
theorem one_C (w : World) : Kd.C (Kd.int .i32) (w.alloc (.cells #[.int .i32 1] 21)) (some ⟨w.heap.size, 0, none⟩) [(1 : Int)].length [1] :=
  Kd.C_of_reads (d := (0 : Int)) (h1 := fun _ => rfl) (own_reads' (own_lit w w.heap.size 21 .i32 [1] (Nat.le_refl _) (by simp)))
theorem mv_a : marks_Move.f 2 4 false true 4 0 [1] = some (2, 5, false, true, 0) := by
  simp [marks_Move.f, marks_may.f, marks_fair.f, marks_moved.f, marks_place.f, mx, wrap64]
theorem mv_b : marks_Move.f 2 4 false true 2 0 [1] = some (3, 5, false, true, 0) := by
  simp [marks_Move.f, marks_may.f, marks_fair.f, marks_moved.f, marks_place.f, mx, wrap64]
set_option maxHeartbeats 1000000 in
theorem knows_calls (W : World) : Calls Try.prog 5 #[] W fun e w' => e = .returned (.bool true) ∧ Below W.heap.size W w' := by
  have hbx := fun (w : World) => (show (Instr.build 30 #[(0, .agg #[.int .i64 2, .int .i64 4]), (2, .bool true)]).run Try.prog w = .ok (.agg #[.int .i64 2, .int .i64 4, .bool false, .bool true]) w from by kernel_rfl)
  have XW : Aside0 ((W.alloc (.cells #[.int .i64 2, .int .i64 4, .bool false, .bool true] 30)).heap[W.heap.size]? = some (.cells #[.int .i64 2, .int .i64 4, .bool false, .bool true] 30)) := ⟨blk_new W _⟩
  have HW : Aside0 (Below W.heap.size W ((W.alloc (.cells #[.int .i64 2, .int .i64 4, .bool false, .bool true] 30)).alloc (.cells #[.int .i32 1] 21))) := ⟨below_alloc (below_alloc (Below.refl _ _) _) _⟩
  have HC1 := Aside0.mk (one_C (W.alloc (.cells #[.int .i64 2, .int .i64 4, .bool false, .bool true] 30)))
  go_enter Try.func5, Try.ntmps5
  go_wp2_with fail
  have hm := marks_Move.calls 2 4 false true 4 0 (some ⟨W.heap.size + 1, 0, none⟩) 1 [1] 2 5 false true 0 _ (by simpa using HC1.out) (by simp) mv_a
  refine hm.mono ?_
  rintro e w1 ⟨rfl, hb1⟩
  have HB1 := Aside0.mk (below_then HW.out HW.out.size hb1)
  have X1 := Aside0.mk (blk_alloc (blk_below (blk_alloc XW.out (.cells #[.int .i32 1] 21)) hb1) (.cells #[.int .i64 2, .int .i64 5, .bool false, .bool true] 30))
  have Y1 : Aside0 ((w1.alloc (.cells #[.int .i64 2, .int .i64 5, .bool false, .bool true] 30)).heap[w1.heap.size]? = some (.cells #[.int .i64 2, .int .i64 5, .bool false, .bool true] 30)) := ⟨blk_new w1 _⟩
  have hk0 := (blk_cell X1.out 0).trans rfl
  have hk1 := (blk_cell X1.out 1).trans rfl
  have hk2 := (blk_cell X1.out 2).trans rfl
  have hk3 := (blk_cell X1.out 3).trans rfl
  have HC2 := Aside0.mk (one_C (w1.alloc (.cells #[.int .i64 2, .int .i64 5, .bool false, .bool true] 30)))
  have HW2 : Aside0 (Below W.heap.size W ((w1.alloc (.cells #[.int .i64 2, .int .i64 5, .bool false, .bool true] 30)).alloc (.cells #[.int .i32 1] 21))) := ⟨below_alloc (below_alloc HB1.out _) _⟩
  clear hm hb1 HC1 HW
  go_wp2_with fail
  have hm := marks_Move.calls 2 4 false true 2 0 (some ⟨w1.heap.size + 1, 0, none⟩) 1 [1] 3 5 false true 0 _ (by simpa using HC2.out) (by simp) mv_b
  refine hm.mono ?_
  rintro e w2 ⟨rfl, hb2⟩
  have HB2 := Aside0.mk (below_then HW2.out HW2.out.size hb2)
  have X2 := Aside0.mk (blk_alloc (blk_below (blk_alloc X1.out (.cells #[.int .i32 1] 21)) hb2) (.cells #[.int .i64 3, .int .i64 5, .bool false, .bool true] 30))
  have Y2 := Aside0.mk (blk_alloc (blk_below (blk_alloc Y1.out (.cells #[.int .i32 1] 21)) hb2) (.cells #[.int .i64 3, .int .i64 5, .bool false, .bool true] 30))
  have Z2 : Aside0 ((w2.alloc (.cells #[.int .i64 3, .int .i64 5, .bool false, .bool true] 30)).heap[w2.heap.size]? = some (.cells #[.int .i64 3, .int .i64 5, .bool false, .bool true] 30)) := ⟨blk_new w2 _⟩
  have HW3 : Aside0 (Below W.heap.size W (w2.alloc (.cells #[.int .i64 3, .int .i64 5, .bool false, .bool true] 30))) := ⟨below_alloc HB2.out _⟩
  clear hk0 hk1 hk2 hk3 hm hb2
  have hk0 := (blk_cell X2.out 0).trans rfl
  have hk1 := (blk_cell X2.out 1).trans rfl
  have hk2 := (blk_cell X2.out 2).trans rfl
  have hk3 := (blk_cell X2.out 3).trans rfl
  go_wp2_with fail
  refine (add_nil 2 4 false true _ (by decide)).mono ?_
  rintro e w3 ⟨rfl, hb3⟩
  have HB3 := Aside0.mk (below_then HW3.out HW3.out.size hb3)
  have Y3 := Aside0.mk (blk_below Y2.out hb3)
  have Z3 := Aside0.mk (blk_below Z2.out hb3)
  clear hb3 hk0 hk1 hk2 hk3
  have hy0 := (blk_cell Y3.out 0).trans rfl
  have hy1 := (blk_cell Y3.out 1).trans rfl
  have hz0 := (blk_cell Z3.out 0).trans rfl
  have hz1 := (blk_cell Z3.out 1).trans rfl
  go_wp2_with fail
  refine (all_nil _).mono ?_
  rintro e w4 ⟨rfl, hb4⟩
  have HB4 := Aside0.mk (below_then HB3.out HB3.out.size hb4)
  clear hb4
  go_wp2_with fail
  go_ret
  exact ⟨rfl, HB4.out⟩
end Go.Proofs.Ytbeoillppkcpmaa.Mark
