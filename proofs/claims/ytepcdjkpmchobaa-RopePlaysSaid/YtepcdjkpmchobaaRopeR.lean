/- Slice answers the runes between two places, or that these are none. -/
import Derived.Laws.Cover3
import Derived.Test.YtepcdjkpmchobaaRopeQ
namespace Go.Proofs.Ytepcdjkpmchobaa.Rope
open Go.RowKit Go.Proofs.YtepcdjkpmchobaaW.PrintWords Go.Proofs.YtepcdjkpmchobaaW.PrintLast Go.Proofs.YtepcdjkpmchobaaW.PrintMore
attribute [local go_sem] max2_int min2_int max_two min_two max_three min_three max_four min_four
set_option linter.unusedVariables false
set_option linter.unusedSimpArgs false

/-- What Slice comes to. -/
def SliceR (t : List Int) (a b : Int) (W : World) (e : Ending) (w' : World) : Prop := Below W.heap.size W w' ∧
  ((btw t.length a b = false ∧ e = .returned (.tuple #[.slice none 0 0, .int .i64 1])) ∨
   (btw t.length a b = true ∧ ∃ A c, e = .returned (.tuple #[.slice A (sl a.toNat b.toNat t).length c, .int .i64 0]) ∧ (sl a.toNat b.toNat t).length ≤ c ∧ TextAt w' A (sl a.toNat b.toNat t)))
set_option maxHeartbeats 4000000 in
theorem slice_calls (base g : Nat) (v : Value) (t : List Int) (a b : Int) (W : World) (h : RopeIs base W g v t) :
    Calls Try.prog 10 #[.pointer (some ⟨g, 0, none⟩), .int .i64 a, .int .i64 b] W (SliceR t a b W) := by
  have H := Aside0.mk h
  obtain ⟨ns, root, hR, hT, hn, ht⟩ := h
  have HT := Aside0.mk hT
  have HR := Aside0.mk hR
  have hmf := fun (fn : Fn) (first cap : Array Value) (w : World) => (show (Instr.makeFunc fn first cap).run Try.prog w = .ok (.func fn first cap) w from rfl)
  have HW : Aside0 (Below W.heap.size W ((W.alloc (.cells #[.int .i64 a] 3)).alloc (.cells #[.int .i64 b] 3))) := ⟨below_alloc (below_alloc (Below.refl _ _) _) _⟩
  have B0 : Aside0 (((W.alloc (.cells #[.int .i64 a] 3)).alloc (.cells #[.int .i64 b] 3)).heap[W.heap.size]? = some (.cells #[.int .i64 a] 3 (0, 0))) := ⟨blk_alloc (blk_new W _) _⟩
  have B1 : Aside0 (((W.alloc (.cells #[.int .i64 a] 3)).alloc (.cells #[.int .i64 b] 3)).heap[W.heap.size + 1]? = some (.cells #[.int .i64 b] 3 (0, 0))) := ⟨by simpa using blk_new (W.alloc (.cells #[.int .i64 a] 3)) (.cells #[.int .i64 b] 3)⟩
  clear hR hT hn
  by_cases c1 : btw t.length a b = true
  · have C1 := Aside0.mk c1
    obtain ⟨a0, ab, bl⟩ := btw_true c1
    go_enter Try.func10, Try.ntmps10
    go_wp2_with fail
    refine (between_is a b (H.out.below HW.out)).mono ?_
    rintro e w1 ⟨rfl, hb1⟩
    have HB1 := Aside0.mk (below_then HW.out HW.out.size hb1)
    have B0' := Aside0.mk (blk_below B0.out hb1)
    have B1' := Aside0.mk (blk_below B1.out hb1)
    have hz : W.heap.size + 2 ≤ w1.heap.size := by have := hb1.size; simpa using this
    have HW2 : Aside0 (Below w1.heap.size w1 ((w1.alloc (.cells #[.slice none 0 0] 22)).alloc (.cells #[.int .i64 0] 3))) := ⟨below_alloc (below_alloc (Below.refl _ _) _) _⟩
    have hq := pw_cell_below (below_then HB1.out HB1.out.size HW2.out) ((blk_cell HR.out.1 1).trans rfl)
    have HI : Aside0 (SlG W.heap.size W.heap.size (w1.heap.size + 1) (W.heap.size + 1) w1.heap.size a b ((w1.alloc (.cells #[.slice none 0 0] 22)).alloc (.cells #[.int .i64 0] 3)) (.slice none 0 0) (([] : List Int).length : Int) (sl a.toNat b.toNat [])) :=
      ⟨blk_below B0'.out HW2.out, by simpa using blk_new (w1.alloc (.cells #[.slice none 0 0] 22)) (.cells #[.int .i64 0] 3), blk_below B1'.out HW2.out, blk_alloc (blk_new w1 _) _, by simpa [sl, nums] using own_nil _ _ _ _, Nat.le_refl _, by omega, by omega, by omega, by omega, by omega⟩
    clear hb1
    go_wp2_with fail
    refine (all33 HT.out (accSlice W.heap.size W.heap.size (w1.heap.size + 1) (W.heap.size + 1) w1.heap.size a b) _ _ _ _ (tell33 _ _ _ _ _ a b a0 ab (by omega)) base g v root W _ (.slice none 0 0) [] HR.out (below_then HB1.out HB1.out.size HW2.out) rfl HI.out (by simp; omega)).mono ?_
    rintro e w2 ⟨v2, rfl, hI2, hM2⟩
    have HI2 : Aside0 (SlG W.heap.size W.heap.size (w1.heap.size + 1) (W.heap.size + 1) w1.heap.size a b w2 v2 (t.length : Int) (sl a.toNat b.toNat t)) := ⟨hI2⟩
    have HM2 := Aside0.mk hM2.below
    clear hI2 hM2
    obtain ⟨A2, c2, rfl⟩ := own_slice HI2.out.own
    have hq2 := (blk_cell HI2.out.ho 0).trans rfl
    go_wp2_with fail
    go_ret2
    exact ⟨(below_then HB1.out HB1.out.size HW2.out).trans HM2.out, .inr ⟨C1.out, A2, c2, rfl, own_le HI2.out.own, own_text HI2.out.own⟩⟩
  · have c1b : btw t.length a b = false := by simpa using c1
    have C1 := Aside0.mk c1b
    go_enter Try.func10, Try.ntmps10
    go_wp2_with fail
    refine (between_is a b (H.out.below HW.out)).mono ?_
    rintro e w1 ⟨rfl, hb1⟩
    go_wp2_with fail
    go_ret2
    exact ⟨below_then HW.out HW.out.size hb1, .inl ⟨C1.out, rfl⟩⟩
theorem slice_nil (W : World) : Calls Try.prog 10 #[.pointer none, .int .i64 0, .int .i64 0] W fun e w' => e = .returned (.tuple #[.slice none 0 0, .int .i64 0]) ∧ Below W.heap.size W w' := by
  have HW : Aside0 (Below W.heap.size W ((W.alloc (.cells #[.int .i64 0] 3)).alloc (.cells #[.int .i64 0] 3))) := ⟨below_alloc (below_alloc (Below.refl _ _) _) _⟩
  have hb : btw 0 0 0 = true := by decide
  go_enter Try.func10, Try.ntmps10
  go_wp2_with fail
  refine (between_nil 0 0 _).mono ?_
  rintro e w1 ⟨rfl, hb1⟩
  go_wp2_with fail
  go_ret2
  exact ⟨rfl, below_then HW.out HW.out.size hb1⟩
end Go.Proofs.Ytepcdjkpmchobaa.Rope
