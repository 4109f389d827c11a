/- rope.Of makes a rope that holds the runes, or tells why not. -/
import Derived.Laws.Cover3
import Derived.Test.YtepcdjkpmchobaaRopeN
namespace Go.Proofs.Ytepcdjkpmchobaa.Rope
open Go.RowKit Go.Proofs.YtepcdjkpmchobaaW.PrintWords Go.Proofs.YtepcdjkpmchobaaW.PrintLast Go.Proofs.YtepcdjkpmchobaaW.PrintMore
attribute [local go_sem] max2_int min2_int max_two min_two max_three min_three max_four min_four
set_option linter.unusedVariables false
set_option linter.unusedSimpArgs false

/-! ### Runes that are read as long as nothing but ropes is written -/
def Sty (base : Nat) (W : World) (A : Option Addr) (t : List Int) : Prop :=
  ∀ W', Below base W W' → (∀ (k : Nat) (cur : Array Value), W.heap[k]? = some (.cells cur 21 (0, 0)) → W'.heap[k]? = some (.cells cur 21 (0, 0))) → RI W' A t
theorem Sty.now {base : Nat} {W : World} {A : Option Addr} {t : List Int} (h : Sty base W A t) : RI W A t := h W (Below.refl _ _) fun _ _ hk => hk
theorem Sty.step {base : Nat} {W W1 : World} {A : Option Addr} {t : List Int} (h : Sty base W A t) (hb : Below base W W1) (hk : ∀ (k : Nat) (cur : Array Value), W.heap[k]? = some (.cells cur 21 (0, 0)) → W1.heap[k]? = some (.cells cur 21 (0, 0))) : Sty base W1 A t :=
  fun W' hb' hk' => h W' (hb.trans hb') fun k cur hc => hk' k cur (hk k cur hc)
theorem Sty.below {base : Nat} {W W1 : World} {A : Option Addr} {t : List Int} (h : Sty base W A t) (hb : Below W.heap.size W W1) (hB : base ≤ W.heap.size) : Sty base W1 A t :=
  h.step (below_lower hb hB) fun _ _ hk => blk_below hk hb
theorem Sty.mv {base g : Nat} {v v' : Value} {ns : List Node} {root : Int} {W W1 : World} {A : Option Addr} {t : List Int} (h : Sty base W A t) (hR : RopeAt base W g v ns root) (m : Mv base g v v' W W1) : Sty base W1 A t :=
  h.step m.below fun _ _ hk => m.blk hR hk (by decide) (by decide)
theorem Sty.stay {base g : Nat} {v : Value} {ns : List Node} {root : Int} {W : World} {A : Option Addr} {t : List Int} (h : Sty base W A t) (hR : RopeAt base W g v ns root) : Stay base g v W A t :=
  fun v' W' m => (h.mv hR m).now
theorem Sty.text {base : Nat} {W : World} {A : Option Addr} {t : List Int} (h : TextAt W A t) (hm : t.length ≤ 9223372036854775807) : Sty base W A t :=
  fun W' _ hk => TextAt.ri (h.blk hk) hm
theorem Sty.came {W0 W : World} {A : Option Addr} {t : List Int} (h : RI W0 A t) (hb : Below W0.heap.size W0 W) : Sty W0.heap.size W A t :=
  fun W' hb' _ => Kd.C_F (Kd.heap_int _) h W' fun k hk _ => (hb.trans hb').block k hk

def RopeIs (base : Nat) (W : World) (g : Nat) (v : Value) (t : List Int) : Prop := ∃ ns root, RopeAt base W g v ns root ∧ Tree ns root t ∧ ns.length ≤ 8000 ∧ t.length ≤ 2000
theorem RopeIs.below {base : Nat} {W W' : World} {g : Nat} {v : Value} {t : List Int} (h : RopeIs base W g v t) (hb : Below W.heap.size W W') : RopeIs base W' g v t := by
  obtain ⟨ns, root, h1, h2, h3⟩ := h
  exact ⟨ns, root, h1.below hb, h2, h3⟩

/-- What Of comes to. -/
def OfR (base : Nat) (t : List Int) (W : World) (e : Ending) (w' : World) : Prop := Below W.heap.size W w' ∧
  ((okt t = false ∧ e = .returned (.tuple #[.pointer none, .int .i64 1])) ∨ (okt t = true ∧ 2000 < t.length ∧ e = .returned (.tuple #[.pointer none, .int .i64 3])) ∨
    (okt t = true ∧ t.length ≤ 2000 ∧ ∃ g v, e = .returned (.tuple #[.pointer (some ⟨g, 0, none⟩), .int .i64 0]) ∧ RopeIs base w' g v t ∧ W.heap.size ≤ g))
set_option maxHeartbeats 2000000 in
theorem of_calls (base : Nat) (t : List Int) (A : Option Addr) (c : Nat) (W : World) (hs : Sty base W A t) (hc : t.length ≤ c) (hB : base ≤ W.heap.size) : Calls Try.prog 7 #[.slice A t.length c] W (OfR base t W) := by
  have HS := Aside0.mk hs
  have HC := Aside0.mk hc
  have HB := Aside0.mk hB
  have hmax := Kd.C_max hs.now
  clear hs hc hB
  by_cases h1 : okt t = true
  · have H1 := Aside0.mk h1
    by_cases h2 : t.length ≤ 2000
    · have H2 := Aside0.mk h2
      have h2b : decide ((2000 : Int) < t.length) = false := decide_eq_false (by omega)
      have h2c : decide (2000 < t.length) = false := decide_eq_false (by omega)
      have hbx := fun (w : World) => (show (Instr.build 55 #[]).run Try.prog w = .ok (.agg #[.slice none 0 0, .int .i64 0]) w from by kernel_rfl)
      go_enter Try.func7, Try.ntmps7
      go_wp2_with fail
      refine (fits_calls t A c _ HS.out.now HC.out).mono ?_
      rintro e w1 ⟨rfl, hb1⟩
      have HB1 := Aside0.mk hb1
      clear hb1
      go_wp2_with fail
      have HG : Aside0 (RopeAt base (w1.alloc (.cells #[.slice none 0 0, .int .i64 0] 55)) w1.heap.size (.slice none 0 0) [] 0) := ⟨blk_new w1 _, Nat.le_trans HB.out HB1.out.size, OwnRow.none_ _ _ _ _ _⟩
      have HW1 : Aside0 (Below w1.heap.size w1 (w1.alloc (.cells #[.slice none 0 0, .int .i64 0] 55))) := ⟨below_alloc (Below.refl _ _) _⟩
      have HS1 := Aside0.mk ((HS.out.below HB1.out HB.out).below HW1.out (Nat.le_trans HB.out HB1.out.size))
      refine (build_calls t.length t A c base w1.heap.size (.slice none 0 0) [] 0 _ (Nat.le_refl _) HG.out (HS1.out.stay HG.out) HC.out (by omega) (by simp; omega)).mono ?_
      rintro e w2 ⟨v2, m2, i2, rfl, hR2, hM2, hl2, hT2⟩
      simp only [List.nil_append] at hR2 hT2
      have HR2 := Aside0.mk hR2
      have HT2 := Aside0.mk hT2
      have HL2 := Aside0.mk hl2
      have HM2 := Aside0.mk hM2
      have hq1 : w2.cell? ⟨w1.heap.size, 1, none⟩ = some (.int .i64 0) := (blk_cell hR2.1 1).trans rfl
      have hf1 := blk_frozen hR2.1 1
      clear hR2 hT2 hl2 hM2
      go_wp2_with fail
      go_ret2
      refine ⟨?_, .inr (.inr ⟨H1.out, H2.out, w1.heap.size, v2, rfl, ⟨m2, i2, HR2.out.setRoot i2, HT2.out, by have := HL2.out.1; have := H2.out; omega, H2.out⟩, HB1.out.size⟩)⟩
      refine below_then HB1.out HB1.out.size ⟨HM2.out.below.os, HM2.out.below.tape, HM2.out.below.output, ?_, fun k hk => ?_⟩
      · have := HM2.out.keep.1
        simp [World.setCell] at this ⊢
        omega
      · refine (Below.heap_setCell w2 ⟨w1.heap.size, 1, none⟩ _ k (by show k ≠ w1.heap.size; omega)).trans ((HM2.out.keep.2 k (by simp; omega) (by omega) (by simp [Value.ownBlock])).trans (HW1.out.block k hk))
    · have H2 := Aside0.mk h2
      have h2b : decide ((2000 : Int) < t.length) = true := decide_eq_true (by omega)
      have h2c : decide (2000 < t.length) = true := decide_eq_true (by omega)
      go_enter Try.func7, Try.ntmps7
      go_wp2_with fail
      refine (fits_calls t A c _ HS.out.now HC.out).mono ?_
      rintro e w1 ⟨rfl, hb1⟩
      go_wp2_with fail
      go_ret2
      exact ⟨hb1, .inr (.inl ⟨H1.out, by have := H2.out; omega, rfl⟩)⟩
  · have h1' : okt t = false := by simpa using h1
    have H1 := Aside0.mk h1'
    go_enter Try.func7, Try.ntmps7
    go_wp2_with fail
    refine (fits_calls t A c _ HS.out.now HC.out).mono ?_
    rintro e w1 ⟨rfl, hb1⟩
    go_wp2_with fail
    go_ret2
    exact ⟨hb1, .inl ⟨H1.out, rfl⟩⟩
end Go.Proofs.Ytepcdjkpmchobaa.Rope
