/- What marks hold in memory, what of it lasts when other memory is written; rows, cmp.Compare and find's function value answer. -/
import Derived.Laws.Cover3
import Derived.Test.YtbeoillppkcpmaaPMarksPlayx1
import Derived.Test.YtbeoillppkcpmaaPMarksPlayx2
import Derived.Test.YtbeoillppkcpmaaPMarksPlayx3
namespace Go.Proofs.Ytbeoillppkcpmaa.Mark
open Go.RowKit Go.Proofs.YtbeoillppkcpmaaW.PrintWords Go.Proofs.YtbeoillppkcpmaaW.PrintLast Go.Proofs.YtbeoillppkcpmaaW.PrintMore Go.Proofs.Ytbeoillppkcpmaa.PMarksPlay
attribute [local go_sem] max2_int min2_int max_two min_two max_three min_three max_four min_four
set_option linter.unusedVariables false
set_option linter.unusedSimpArgs false
theorem below_lower {b b' : Nat} {w w1 : World} (h : Below b w w1) (hb : b' ≤ b) : Below b' w w1 := ⟨h.os, h.tape, h.output, h.size, fun i hi => h.block i (Nat.lt_of_lt_of_le hi hb)⟩
/-! ### What marks hold: a block with the items' slice and the last number -/
abbrev Ow (W : World) (base : Nat) (v : Value) (ms : List S64) : Prop := Kd.R k64 64 W base (fun _ => True) v ms
def MarksAt (base : Nat) (W : World) (g : Nat) (v : Value) (ms : List S64) (last : Int) : Prop :=
  W.heap[g]? = some (.cells #[v, .int .i64 last] 60 (0, 0)) ∧ base ≤ g ∧ Ow W base v ms
/-- What a call that writes the marks leaves: all but the block g and the items' row is as it was. -/
structure Mv (base g : Nat) (v v' : Value) (W W' : World) : Prop where
  below : Below base W W'
  keep : KeepBut W W' g v.ownBlock
  mv : ∀ k, v'.ownBlock = some k → v.ownBlock = some k ∨ W.heap.size ≤ k
theorem Mv.refl (base g : Nat) (v : Value) (W : World) : Mv base g v v W W := ⟨Below.refl _ _, KeepBut.refl _ _ _, fun _ hk => .inl hk⟩
theorem Mv.trans {base g : Nat} {v v1 v2 : Value} {W W1 W2 : World} (h : Mv base g v v1 W W1) (k : Mv base g v1 v2 W1 W2) : Mv base g v v2 W W2 := by
  refine ⟨h.below.trans k.below, ⟨Nat.le_trans h.keep.1 k.keep.1, fun i hi hg hr => (k.keep.2 i (Nat.lt_of_lt_of_le hi h.keep.1) hg fun he => ?_).trans (h.keep.2 i hi hg hr)⟩, fun i hi => ?_⟩
  · rcases h.mv i he.symm with hm | hm
    · exact hr hm.symm
    · omega
  · rcases k.mv i hi with hm | hm
    · exact h.mv i hm
    · exact .inr (Nat.le_trans h.keep.1 hm)
theorem Mv.of_below {base g : Nat} {v : Value} {W W' : World} (h : Below W.heap.size W W') (hb : base ≤ W.heap.size) : Mv base g v v W W' :=
  ⟨below_lower h hb, KeepBut.of_below h _ _, fun _ hk => .inl hk⟩
theorem MarksAt.lt {base : Nat} {W : World} {g : Nat} {v : Value} {ms : List S64} {last : Int} (h : MarksAt base W g v ms last) : g < W.heap.size := blk_lt h.1
theorem MarksAt.hb {base : Nat} {W : World} {g : Nat} {v : Value} {ms : List S64} {last : Int} (h : MarksAt base W g v ms last) : base ≤ W.heap.size := Nat.le_trans h.2.1 (Nat.le_of_lt h.lt)
/-- A block of another type is none of the marks'. -/
theorem MarksAt.apart {base : Nat} {W : World} {g : Nat} {v : Value} {ms : List S64} {last : Int} (h : MarksAt base W g v ms last) {k : Nat} {cur : Array Value} {t : TypeId} (hk : W.heap[k]? = some (.cells cur t (0, 0))) (h1 : t ≠ 60) (h2 : t ≠ 64) : k ≠ g ∧ some k ≠ v.ownBlock := by
  refine ⟨blk_ne hk h.1 h1, fun he => ?_⟩
  obtain ⟨cells, hc⟩ := Kd.R_typed h.2.2 k he.symm
  rw [hk] at hc
  injection hc with hc
  injection hc with _ hc
  exact h2 hc
theorem Mv.blk {base g : Nat} {v v' : Value} {W W' : World} {ms : List S64} {last : Int} (m : Mv base g v v' W W') (h : MarksAt base W g v ms last) {k : Nat} {cur : Array Value} {t : TypeId} (hk : W.heap[k]? = some (.cells cur t (0, 0))) (h1 : t ≠ 60) (h2 : t ≠ 64) : W'.heap[k]? = some (.cells cur t (0, 0)) :=
  m.keep.blk hk (h.apart hk h1 h2).1 (h.apart hk h1 h2).2
theorem MarksAt.below {base : Nat} {W W' : World} {g : Nat} {v : Value} {ms : List S64} {last : Int} (h : MarksAt base W g v ms last) (hb : Below W.heap.size W W') : MarksAt base W' g v ms last :=
  ⟨blk_below h.1 hb, h.2.1, Kd.R_below h.2.2 hb⟩
/-- The cells, and the items as they are read. -/
theorem MarksAt.open_ {base : Nat} {W : World} {g : Nat} {v : Value} {ms : List S64} {last : Int} (h : MarksAt base W g v ms last) : ∃ A c, v = .slice A ms.length c ∧ ms.length ≤ c ∧ W.cell? ⟨g, 0, none⟩ = some (.slice A ms.length c) ∧ W.cell? ⟨g, 1, none⟩ = some (.int .i64 last) ∧ W.frozen? ⟨g, 0, none⟩ = false ∧ W.frozen? ⟨g, 1, none⟩ = false ∧ Kd.C k64 W A ms.length ms := by
  obtain ⟨A, c, rfl, hc, hr⟩ := Kd.R_reads h.2.2
  exact ⟨A, c, rfl, hc, (blk_cell h.1 0).trans rfl, (blk_cell h.1 1).trans rfl, blk_frozen h.1 0, blk_frozen h.1 1, hr⟩
/-! ### rows -/
theorem rows_calls (base g : Nat) (v : Value) (ms : List S64) (last : Int) (W : World) (h : MarksAt base W g v ms last) : Calls Try.prog 40 #[.pointer (some ⟨g, 0, none⟩)] W fun e w' => e = .returned v ∧ Below W.heap.size W w' := by
  obtain ⟨A, c, rfl, hc, hc0, hc1, hf0, hf1, hr⟩ := h.open_
  clear h hr
  go_enter Try.func40, Try.ntmps40
  go_wp2_with fail
  go_ret
  exact ⟨rfl, Below.refl _ _⟩
theorem rows_nil (W : World) : Calls Try.prog 40 #[.pointer none] W fun e w' => e = .returned (.slice none 0 0) ∧ Below W.heap.size W w' := by
  go_enter Try.func40, Try.ntmps40
  go_wp2_with fail
  go_ret
  exact ⟨rfl, Below.refl _ _⟩
/-! ### cmp.Compare -/
theorem nan_calls (x : Int) (W : World) : Calls Try.prog 43 #[.int .i64 x] W fun e w' => e = .returned (.bool false) ∧ Below W.heap.size W w' := by
  go_enter Try.func43, Try.ntmps43
  go_wp2_with fail
  go_ret
  exact ⟨rfl, Below.refl _ _⟩
def cmpI (x y : Int) : Int := if x < y then -1 else if y < x then 1 else 0
theorem cmp_calls (x y : Int) (W : World) : Calls Try.prog 36 #[.int .i64 x, .int .i64 y] W fun e w' => e = .returned (.int .i64 (cmpI x y)) ∧ Below W.heap.size W w' := by
  by_cases h1 : x < y
  · have h1b : decide (x < y) = true := decide_eq_true h1
    have E : Aside0 (cmpI x y = -1) := ⟨by unfold cmpI; rw [if_pos h1]⟩
    go_enter Try.func36, Try.ntmps36
    go_wp2_with fail
    refine (nan_calls x _).mono ?_
    rintro e w1 ⟨rfl, hb1⟩
    have HB1 := Aside0.mk hb1
    clear hb1
    go_wp2_with fail
    refine (nan_calls y _).mono ?_
    rintro e w2 ⟨rfl, hb2⟩
    have HB2 := Aside0.mk (below_then HB1.out HB1.out.size hb2)
    clear hb2
    go_wp2_with fail
    go_ret
    exact ⟨by rw [E.out]; rfl, HB2.out⟩
  have h1b : decide (x < y) = false := decide_eq_false h1
  by_cases h2 : y < x
  · have h2b : decide (y < x) = true := decide_eq_true h2
    have E : Aside0 (cmpI x y = 1) := ⟨by unfold cmpI; rw [if_neg h1, if_pos h2]⟩
    go_enter Try.func36, Try.ntmps36
    go_wp2_with fail
    refine (nan_calls x _).mono ?_
    rintro e w1 ⟨rfl, hb1⟩
    have HB1 := Aside0.mk hb1
    clear hb1
    go_wp2_with fail
    refine (nan_calls y _).mono ?_
    rintro e w2 ⟨rfl, hb2⟩
    have HB2 := Aside0.mk (below_then HB1.out HB1.out.size hb2)
    clear hb2
    go_wp2_with fail
    go_ret
    exact ⟨by rw [E.out]; rfl, HB2.out⟩
  · have h2b : decide (y < x) = false := decide_eq_false h2
    have E : Aside0 (cmpI x y = 0) := ⟨by unfold cmpI; rw [if_neg h1, if_neg h2]⟩
    go_enter Try.func36, Try.ntmps36
    go_wp2_with fail
    refine (nan_calls x _).mono ?_
    rintro e w1 ⟨rfl, hb1⟩
    have HB1 := Aside0.mk hb1
    clear hb1
    go_wp2_with fail
    refine (nan_calls y _).mono ?_
    rintro e w2 ⟨rfl, hb2⟩
    have HB2 := Aside0.mk (below_then HB1.out HB1.out.size hb2)
    clear hb2
    go_wp2_with fail
    go_ret
    exact ⟨by rw [E.out]; rfl, HB2.out⟩
/-! ### find's function value -/
def cells64 (x : S64) : Array Value := #[.int .i64 x.f0.f0.f0, .int .i64 x.f0.f0.f1, .bool x.f0.f1, .bool x.f0.f2, .int .i64 x.f1]
theorem find1_calls (a b : Int) (c d : Bool) (i n : Int) (W : World) : Calls Try.prog 41 #[.agg #[.int .i64 a, .int .i64 b, .bool c, .bool d, .int .i64 i], .int .i64 n] W fun e w' => e = .returned (.int .i64 (cmpI i n)) ∧ Below W.heap.size W w' := by
  go_enter Try.func41, Try.ntmps41
  go_wp2_with fail
  refine (cmp_calls i n _).mono ?_
  rintro e w1 ⟨rfl, hb1⟩
  have HB1 := Aside0.mk (below_then (below_alloc (Below.refl W.heap.size W) _) (by simp) hb1)
  clear hb1
  go_wp2_with fail
  go_ret
  exact ⟨rfl, HB1.out⟩
end Go.Proofs.Ytbeoillppkcpmaa.Mark
