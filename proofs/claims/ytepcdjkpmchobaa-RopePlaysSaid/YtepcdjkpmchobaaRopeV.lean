/- styluslaw03.knows returns true. -/
import Derived.Laws.Cover3
import Derived.Test.YtepcdjkpmchobaaRopeU
namespace Go.Proofs.Ytepcdjkpmchobaa.Rope
open Go.RowKit Go.Proofs.YtepcdjkpmchobaaW.PrintWords Go.Proofs.YtepcdjkpmchobaaW.PrintLast Go.Proofs.YtepcdjkpmchobaaW.PrintMore
attribute [local go_sem] max2_int min2_int max_two min_two max_three min_three max_four min_four
set_option linter.unusedVariables false
set_option linter.unusedSimpArgs false

theorem insert_nil (W : World) : Calls Try.prog 8 #[.pointer none, .int .i64 0, .slice none 0 0] W fun e w' => e = .returned (.int .i64 1) ∧ Below W.heap.size W w' := by
  go_enter Try.func8, Try.ntmps8
  go_wp2_with fail
  go_ret
  exact ⟨rfl, Below.refl _ _⟩
def kt : List Int := [97, 98, 10, 99]
theorem kt_ok : okt kt = true := by decide
theorem kt_nl : nl kt = 1 := by decide
theorem kt_sp : startF kt 1 = (3, 0) := by decide
set_option maxHeartbeats 2000000 in
theorem knows_calls (W : World) : Calls Try.prog 6 #[] W fun e w' => e = .returned (.bool true) ∧ Below W.heap.size W w' := by
  have HW : Aside0 (Below W.heap.size W (W.alloc (.cells #[.int .i32 97, .int .i32 98, .int .i32 10, .int .i32 99] 21))) := ⟨below_alloc (Below.refl _ _) _⟩
  have HS : Aside0 (Sty W.heap.size (W.alloc (.cells #[.int .i32 97, .int .i32 98, .int .i32 10, .int .i32 99] 21)) (some ⟨W.heap.size, 0, none⟩) kt) :=
    ⟨Sty.text (.inr ⟨_, _, rfl, blk_new W _, rfl⟩) (by decide)⟩
  go_enter Try.func6, Try.ntmps6
  go_wp2_with fail
  refine (of_calls W.heap.size kt _ _ _ HS.out (by decide) HW.out.size).mono ?_
  rintro e w1 ⟨hb1, hq⟩
  rcases hq with ⟨h1, _⟩ | ⟨_, h2, _⟩ | ⟨_, _, g, v, rfl, hR, hg⟩
  · exact absurd (kt_ok.symm.trans h1) (by decide)
  · exact absurd h2 (by decide)
  have HB1 := Aside0.mk (below_then HW.out HW.out.size hb1)
  have HR1 := Aside0.mk hR
  clear hb1 hR
  go_wp2_with fail
  refine (start_calls W.heap.size g v kt 1 _ HR1.out).mono ?_
  rintro e w2 ⟨rfl, hb2⟩
  rw [kt_sp]
  have HR2 := Aside0.mk (HR1.out.below hb2)
  have HB2 := Aside0.mk (below_then HB1.out HB1.out.size hb2)
  clear hb2
  go_wp2_with fail
  refine (slice_nil _).mono ?_
  rintro e w3 ⟨rfl, hb3⟩
  have HR3 := Aside0.mk (HR2.out.below hb3)
  have HB3 := Aside0.mk (below_then HB2.out HB2.out.size hb3)
  clear hb3
  go_wp2_with fail
  refine (lines_is HR3.out).mono ?_
  rintro e w4 ⟨rfl, hb4⟩
  rw [kt_nl]
  have HB4 := Aside0.mk (below_then HB3.out HB3.out.size hb4)
  clear hb4
  go_wp2_with fail
  refine (lines_nil _).mono ?_
  rintro e w5 ⟨rfl, hb5⟩
  have HB5 := Aside0.mk (below_then HB4.out HB4.out.size hb5)
  clear hb5
  go_wp2_with fail
  refine (insert_nil _).mono ?_
  rintro e w6 ⟨rfl, hb6⟩
  have HB6 := Aside0.mk (below_then HB5.out HB5.out.size hb6)
  clear hb6
  go_wp2_with fail
  go_ret
  exact ⟨rfl, HB6.out⟩
end Go.Proofs.Ytepcdjkpmchobaa.Rope
