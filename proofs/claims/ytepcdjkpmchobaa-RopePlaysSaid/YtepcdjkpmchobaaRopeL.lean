/- rope.text gathers all of a tree's text. -/
import Derived.Laws.Cover3
import Derived.Test.YtepcdjkpmchobaaRopeK
namespace Go.Proofs.Ytepcdjkpmchobaa.Rope
open Go.RowKit Go.Proofs.YtepcdjkpmchobaaW.PrintWords Go.Proofs.YtepcdjkpmchobaaW.PrintLast Go.Proofs.YtepcdjkpmchobaaW.PrintMore
attribute [local go_sem] max2_int min2_int max_two min_two max_three min_three max_four min_four
set_option linter.unusedVariables false
set_option linter.unusedSimpArgs false

def accText (b p : Nat) : Acc where
  b0 := b
  G := fun k => k = p
  I := fun w v acc => w.heap[p]? = some (.cells #[v] 22 (0, 0)) ∧ b ≤ p ∧ w.ownsRow b 21 1 v acc.length (nums .i32 acc)
  lt := by
    rintro w v acc k ⟨h1, h2, h3⟩ (rfl | hk)
    · exact ⟨h2, blk_lt h1⟩
    · exact ⟨own_base h3 k hk.symm, own_lt h3 k hk.symm⟩
  bel := by
    rintro w w' v acc ⟨h1, h2, h3⟩ hb
    exact ⟨blk_below h1 hb, h2, pw_own_below h3 hb⟩
/-- What an append into the gathered row, stored back, leaves. -/
theorem acc_step {b p : Nat} {v v1 : Value} {acc t : List Int} {w w1 : World} (h1 : w.heap[p]? = some (.cells #[v] 22 (0, 0))) (h2 : b ≤ p) (h3 : w.ownsRow b 21 1 v acc.length (nums .i32 acc))
    (ho : w1.ownsRow b 21 1 v1 (acc ++ t).length (nums .i32 (acc ++ t))) (hb : Below b w w1) (hg : w.grownBy w1 v.ownBlock) (hat : v1.ownBlock = v.ownBlock ∨ ∃ k, v1.ownBlock = some k ∧ w.heap.size ≤ k) :
    w1.heap[p]? = some (.cells #[v] 22 (0, 0)) ∧ (w1.setCell ⟨p, 0, none⟩ v1).heap[p]? = some (.cells #[v1] 22 (0, 0)) ∧ (w1.setCell ⟨p, 0, none⟩ v1).ownsRow b 21 1 v1 (acc ++ t).length (nums .i32 (acc ++ t)) ∧
      (∀ G : Nat → Prop, G p → Mg b G v v1 w (w1.setCell ⟨p, 0, none⟩ v1)) := by
  have hp1 : w1.heap[p]? = some (.cells #[v] 22 (0, 0)) := blk_grown h1 hg (own_ne h3 h1 (by decide))
  refine ⟨hp1, by simpa using blk_set hp1 0 v1, own_setCell ho (own_ne ho hp1 (by decide)) v1, fun G hG => ⟨hb.setCell h2 _, by simpa [World.setCell] using hg.size, fun k hk hGk hr => ?_, hat⟩⟩
  exact (Below.heap_setCell w1 ⟨p, 0, none⟩ v1 k (fun he => hGk (he ▸ hG))).trans (hg.block k hk hr)
set_option maxHeartbeats 1000000 in
theorem tell46 (b p : Nat) (w : World) (v : Value) (acc : List Int) (A : Option Addr) (t : List Int) (c : Nat) (hI : (accText b p).I w v acc) (hr : RI w A t) (hc : t.length ≤ c) (hl : acc.length + t.length ≤ 1000000) :
    Calls Try.prog 46 #[.slice A t.length c, .pointer (some ⟨p, 0, none⟩)] w (TellR (accText b p) v acc t w) := by
  obtain ⟨h1, h2, h3⟩ := hI
  obtain ⟨A1, c1, rfl⟩ := own_slice h3
  have HI : Aside0 (w.heap[p]? = some (.cells #[.slice A1 acc.length c1] 22 (0, 0)) ∧ b ≤ p ∧ w.ownsRow b 21 1 (.slice A1 acc.length c1) acc.length (nums .i32 acc)) := ⟨h1, h2, h3⟩
  have HR := Aside0.mk hr
  have hq : w.cell? ⟨p, 0, none⟩ = some (.slice A1 acc.length c1) := (blk_cell h1 0).trans rfl
  have HL := Aside0.mk hl
  have HP : Aside0 (b ≤ w.heap.size) := ⟨Nat.le_trans h2 (Nat.le_of_lt (blk_lt h1))⟩
  clear h1 h2 h3 hr
  go_enter Try.func46, Try.ntmps46
  go_wp2_with ((with_reducible refine gate_builtin (b := .append) (xs := #[.tmp 3, .tmp 4]) rfl ?_); at_builtin; refine print_append_row (w0 := w) b rfl (.tmp 3) (.tmp 4) 22 21 .i32 4 rfl Try.underlying22 info21 (by decide) (.slice A1 acc.length c1) acc t A t.length c rfl rfl ?aO ?aR ?aB ?aS ?aL ?_; (case aO => exact HI.out.2.2); (case aR => exact Kd.reads_of_C (d := (0 : Int)) HR.out); (case aB => exact Below.refl _ _); (case aS => exact HP.out); (case aL => have := HL.out; omega); intro v1 w1 ho hb hg hat; have HS := Aside0.mk (acc_step HI.out.1 HI.out.2.1 HI.out.2.2 ho hb hg hat); obtain ⟨A2, c2, rfl⟩ := own_slice ho; clear ho hb hg hat; have hq1 : w1.cell? ⟨p, 0, none⟩ = some (.slice A1 acc.length c1) := (blk_cell HS.out.1 0).trans rfl; have hf1 : w1.frozen? ⟨p, 0, none⟩ = false := blk_frozen HS.out.1 0)
  go_end0
  rw [show acc.length + t.length = (acc ++ t).length from List.length_append.symm]
  exact ⟨_, rfl, ⟨HS.out.2.1, HI.out.2.1, HS.out.2.2.1⟩, HS.out.2.2.2 _ rfl⟩
/-- What telling all comes to: the text, in new memory. -/
def TextR (t : List Int) (W : World) (e : Ending) (w' : World) : Prop := ∃ A c, e = .returned (.slice A t.length c) ∧ t.length ≤ c ∧ TextAt w' A t ∧ Below W.heap.size W w'
set_option maxHeartbeats 1000000 in
theorem text_calls {ns : List Node} {root : Int} {t : List Int} (T : Tree ns root t) (base g : Nat) (v : Value) (W : World) (h : RopeAt base W g v ns root) (hl : t.length ≤ 1000000) :
    Calls Try.prog 41 #[.pointer (some ⟨g, 0, none⟩)] W (TextR t W) := by
  obtain ⟨A, c, hv, hc, hc0, hc1, hf0, hf1, hrd⟩ := (h.alloc (.cells #[.slice none 0 0] 22)).open_
  have hmf := fun (fn : Fn) (first cap : Array Value) (w : World) => (show (Instr.makeFunc fn first cap).run Try.prog w = .ok (.func fn first cap) w from rfl)
  have H := Aside0.mk h
  have HT := Aside0.mk T
  clear h hrd hv T
  go_enter Try.func41, Try.ntmps41
  go_wp2_with (go_at_call 32; refine (all46 HT.out (accText W.heap.size W.heap.size) W.heap.size (tell46 _ _) base g v root W _ (.slice none 0 0) [] H.out (below_alloc (Below.refl _ _) _) rfl ⟨blk_new W _, Nat.le_refl _, own_nil _ _ _ _⟩ (by simpa using hl)).mono ?_; rintro e w1 ⟨v1, rfl, ⟨i1, i2, i3⟩, hM⟩; simp only [List.nil_append] at i1 i3; obtain ⟨A1, c1, rfl⟩ := own_slice i3; have HO := Aside0.mk i3; have HM := Aside0.mk hM; have hq := (blk_cell i1 0).trans rfl; clear i1 i2 i3 hM)
  go_ret
  exact ⟨A1, c1, rfl, own_le HO.out, own_text HO.out, (below_alloc (Below.refl _ _) _).trans HM.out.below⟩
end Go.Proofs.Ytepcdjkpmchobaa.Rope
