/- rope.settle sets the root, and builds the tree anew where it is too deep: the text stays. -/
import Derived.Laws.Cover3
import Derived.Test.YtepcdjkpmchobaaRopeL
namespace Go.Proofs.Ytepcdjkpmchobaa.Rope
open Go.RowKit Go.Proofs.YtepcdjkpmchobaaW.PrintWords Go.Proofs.YtepcdjkpmchobaaW.PrintLast Go.Proofs.YtepcdjkpmchobaaW.PrintMore
attribute [local go_sem] max2_int min2_int max_two min_two max_three min_three max_four min_four
set_option linter.unusedVariables false
set_option linter.unusedSimpArgs false

theorem TextAt.far {W : World} {A : Option Addr} {t : List Int} (h : TextAt W A t) {g : Nat} {cs : Array Value} {ty : TypeId} (hg : W.heap[g]? = some (.cells cs ty (0, 0))) (hne : ty ≠ 21) (j : Nat) (u : Value) : TextAt (W.setCell ⟨g, j, none⟩ u) A t :=
  h.blk fun k cur hk => blk_far hk (p := ⟨g, j, none⟩) (blk_ne hk hg (Ne.symm hne)) u
theorem RopeAt.setRoot {base g : Nat} {v : Value} {ns : List Node} {root : Int} {W : World} (h : RopeAt base W g v ns root) (r : Int) : RopeAt base (W.setCell ⟨g, 1, none⟩ (.int .i64 r)) g v ns r := by
  refine ⟨by simpa using blk_set h.1 1 (.int .i64 r), h.2.1, (h.2.2.set_ h.1 (by decide) 1 _).imp_ fun _ _ hp => ?_⟩
  exact hp.blk fun k cur hk => blk_far hk (p := ⟨g, 1, none⟩) (blk_ne hk h.1 (by decide)) _
theorem RopeAt.setNil {base g : Nat} {v : Value} {ns : List Node} {root : Int} {W : World} (h : RopeAt base W g v ns root) : RopeAt base (W.setCell ⟨g, 0, none⟩ (.slice none 0 0)) g (.slice none 0 0) [] root :=
  ⟨by simpa using blk_set h.1 0 (.slice none 0 0), h.2.1, OwnRow.none_ _ _ _ _ _⟩
theorem Mv.set {base g : Nat} {v v' : Value} {W : World} (hb : base ≤ g) (j : Nat) (u : Value) (hv : ∀ k, v'.ownBlock = some k → v.ownBlock = some k) : Mv base g v v' W (W.setCell ⟨g, j, none⟩ u) :=
  ⟨(Below.refl _ _).setCell hb _, (KeepBut.refl _ _ _).set_ j u, fun k hk => .inl (hv k hk)⟩
/-- What settle comes to. -/
def SettleR (base g : Nat) (v : Value) (t : List Int) (W : World) (e : Ending) (w' : World) : Prop :=
  ∃ v' ns' r, e = .returned (.tuple #[]) ∧ RopeAt base w' g v' ns' r ∧ Mv base g v v' W w' ∧ Tree ns' r t ∧ ns'.length ≤ 8000

set_option maxHeartbeats 4000000 in
theorem settle_calls {ns : List Node} {i : Int} {t : List Int} (T' : Tree ns i t) (base g : Nat) (v : Value) (root : Int) (W : World) (h : RopeAt base W g v ns root) (hl : t.length ≤ 2000) :
    Calls Try.prog 29 #[.pointer (some ⟨g, 0, none⟩), .int .i64 i] W (SettleR base g v t W) := by
  obtain ⟨A, c, hv, hc, hc0, hc1, hf0, hf1, hrd⟩ := h.open_
  have T := Aside0.mk T'
  have HL2 := Aside0.mk hl
  have HL : Aside0 (t.length ≤ 1000000) := ⟨by omega⟩
  have HV := Aside0.mk hv
  have HBW : Aside0 (base ≤ W.heap.size) := ⟨Nat.le_trans h.2.1 (Nat.le_of_lt h.lt)⟩
  have HR1 := Aside0.mk (h.setRoot i)
  have HM1 : Aside0 (Mv base g v v W (W.setCell ⟨g, 1, none⟩ (.int .i64 i))) := ⟨Mv.set h.2.1 1 _ (fun _ hk => hk)⟩
  have hq : (W.setCell ⟨g, 1, none⟩ (.int .i64 i)).cell? ⟨g, 0, none⟩ = some (.slice A ns.length c) := by rw [← hv]; exact (blk_cell HR1.out.1 0).trans rfl
  clear h hrd hv T' hl
  by_cases h8 : 8000 < ns.length
  · have h8b : decide ((8000 : Int) < ns.length) = true := decide_eq_true (by omega)
    have h8c : decide (8000 < ns.length) = true := decide_eq_true h8
    go_enter Try.func29, Try.ntmps29
    go_wp2_with fail
    refine (text_calls T.out base g v _ HR1.out HL.out).mono ?_
    rintro e w2 ⟨A2, c2, rfl, hc2, ht2, hb2⟩
    have HR2 := Aside0.mk (RopeAt.below HR1.out hb2)
    have HM2 := Aside0.mk (HM1.out.trans (Mv.of_below hb2 (Nat.le_trans HBW.out HM1.out.keep.1)))
    have HT2 := Aside0.mk ht2
    have HC2 := Aside0.mk hc2
    have hg0 := blk_frozen HR2.out.1 0
    have hg1 := blk_frozen HR2.out.1 1
    have hq0 : w2.cell? ⟨g, 0, none⟩ = some v := (blk_cell HR2.out.1 0).trans rfl
    rw [HV.out] at hq0
    clear hb2 ht2 hc2
    go_wp2_with fail
    have HR3 := Aside0.mk (HR2.out.setNil)
    have HM3 := Aside0.mk (HM2.out.trans (Mv.set (v' := .slice none 0 0) HR2.out.2.1 0 (.slice none 0 0) (fun k hk => by simp [Value.ownBlock] at hk)))
    have HT3 := Aside0.mk (HT2.out.far HR2.out.1 (by decide) 0 (.slice none 0 0))
    refine (build_calls t.length t A2 c2 base g (.slice none 0 0) [] i _ (Nat.le_refl _) HR3.out (HT3.out.stay HR3.out (by have := HL.out; omega)) HC2.out (by have := HL2.out; omega) (by have := HL2.out; simp; omega)).mono ?_
    rintro e w4 ⟨v4, m4, i4, rfl, hR4, hM4, hl4, hT4⟩
    simp only [List.nil_append] at hR4 hT4
    have HR4 := Aside0.mk hR4
    have HM4 := Aside0.mk (HM3.out.trans hM4)
    have HT4 := Aside0.mk hT4
    have HL4 := Aside0.mk hl4
    have hg4 := blk_frozen hR4.1 1
    have hq4 : w4.cell? ⟨g, 1, none⟩ = some (.int .i64 i) := (blk_cell hR4.1 1).trans rfl
    clear hR4 hM4 hT4 hl4
    go_wp2_with fail
    go_end0
    exact ⟨v4, m4, i4, rfl, HR4.out.setRoot i4, HM4.out.trans (Mv.set HR4.out.2.1 1 _ (fun _ hk => hk)), HT4.out, by have := HL4.out.1; have := HL2.out; omega⟩
  · have h8b : decide ((8000 : Int) < ns.length) = false := decide_eq_false (by omega)
    have h8c : decide (8000 < ns.length) = false := decide_eq_false h8
    go_enter Try.func29, Try.ntmps29
    go_wp2_with fail
    refine (depth_calls T.out base g v i _ HR1.out).mono ?_
    rintro e w1 ⟨d, rfl, hb1⟩
    have HRD := Aside0.mk (HR1.out.below hb1)
    have HMD := Aside0.mk (HM1.out.trans (Mv.of_below hb1 (Nat.le_trans HBW.out HM1.out.keep.1)))
    clear hb1
    by_cases hd : (24 : Int) < d
    · have hdb : decide ((24 : Int) < d) = true := decide_eq_true hd
      go_wp2_with fail
      refine (text_calls T.out base g v _ HRD.out HL.out).mono ?_
      rintro e w2 ⟨A2, c2, rfl, hc2, ht2, hb2⟩
      have HR2 := Aside0.mk (RopeAt.below HRD.out hb2)
      have HM2 := Aside0.mk (HMD.out.trans (Mv.of_below hb2 (Nat.le_trans HBW.out HMD.out.keep.1)))
      have HT2 := Aside0.mk ht2
      have HC2 := Aside0.mk hc2
      have hg0 := blk_frozen HR2.out.1 0
      have hg1 := blk_frozen HR2.out.1 1
      have hq0 : w2.cell? ⟨g, 0, none⟩ = some v := (blk_cell HR2.out.1 0).trans rfl
      rw [HV.out] at hq0
      clear hb2 ht2 hc2
      go_wp2_with fail
      have HR3 := Aside0.mk (HR2.out.setNil)
      have HM3 := Aside0.mk (HM2.out.trans (Mv.set (v' := .slice none 0 0) HR2.out.2.1 0 (.slice none 0 0) (fun k hk => by simp [Value.ownBlock] at hk)))
      have HT3 := Aside0.mk (HT2.out.far HR2.out.1 (by decide) 0 (.slice none 0 0))
      refine (build_calls t.length t A2 c2 base g (.slice none 0 0) [] i _ (Nat.le_refl _) HR3.out (HT3.out.stay HR3.out (by have := HL.out; omega)) HC2.out (by have := HL2.out; omega) (by have := HL2.out; simp; omega)).mono ?_
      rintro e w4 ⟨v4, m4, i4, rfl, hR4, hM4, hl4, hT4⟩
      simp only [List.nil_append] at hR4 hT4
      have HR4 := Aside0.mk hR4
      have HM4 := Aside0.mk (HM3.out.trans hM4)
      have HT4 := Aside0.mk hT4
      have HL4 := Aside0.mk hl4
      have hg4 := blk_frozen hR4.1 1
      have hq4 : w4.cell? ⟨g, 1, none⟩ = some (.int .i64 i) := (blk_cell hR4.1 1).trans rfl
      clear hR4 hM4 hT4 hl4
      go_wp2_with fail
      go_end0
      exact ⟨v4, m4, i4, rfl, HR4.out.setRoot i4, HM4.out.trans (Mv.set HR4.out.2.1 1 _ (fun _ hk => hk)), HT4.out, by have := HL4.out.1; have := HL2.out; omega⟩
    · have hdb : decide ((24 : Int) < d) = false := decide_eq_false hd
      go_wp2_with fail
      go_end0
      exact ⟨v, ns, i, rfl, HRD.out, HMD.out, T.out, by omega⟩
end Go.Proofs.Ytepcdjkpmchobaa.Rope
