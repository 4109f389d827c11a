/- slices.Clone makes a row of its own that holds the same ranges. For at most 1000000 ranges. -/
import Derived.Laws.Cover3
import Derived.Test.YtbeoillppkcpmaaMarkG
namespace Go.Proofs.Ytbeoillppkcpmaa.Mark
open Go.RowKit Go.Proofs.YtbeoillppkcpmaaW.PrintWords Go.Proofs.YtbeoillppkcpmaaW.PrintLast Go.Proofs.YtbeoillppkcpmaaW.PrintMore Go.Proofs.Ytbeoillppkcpmaa.PMarksPlay
attribute [local go_sem] max2_int min2_int max_two min_two max_three min_three max_four min_four
set_option linter.unusedVariables false
set_option linter.unusedSimpArgs false
theorem ow_new (W : World) : Ow (W.alloc (.cells #[] 64)) W.heap.size (.slice (some ⟨W.heap.size, 0, none⟩) 0 0) [] :=
  flat_ow ⟨rfl, .inr ⟨W.heap.size, 0, #[], rfl, Nat.le_refl _, blk_new W _, Nat.le_refl _, by simp [maxLen], rfl, rfl⟩⟩
theorem eql_nil (a : Option Addr) (l c : Nat) (w : World) : (binOp .eql 58 (.slice a l c) (.slice none 0 0)).run Try.prog w = .ok (.bool a.isNone) w := by
  simp only [binOp]
  simp [run_equal_slice_nil w 58 64 a l c Try.underlying58]
/-! ### slices.Clone -/
set_option maxHeartbeats 1000000 in
theorem clone_calls (ms : List S64) (v : Value) (base : Nat) (W : World) (h : Ow W base v ms) (hl : ms.length ≤ 1000000) :
    Calls Try.prog 26 #[v] W fun e w' => ∃ v', e = .returned v' ∧ Ow w' W.heap.size v' ms ∧ Below W.heap.size W w' := by
  obtain ⟨A, c, rfl, hc, hr⟩ := Kd.R_reads h
  have HR := Aside0.mk hr
  have hmx := h
  have hen := eql_nil
  clear h hr
  rcases A with _ | ad
  · have h0 : ms = [] := by
      rcases Nat.eq_zero_or_pos ms.length with h0 | h0
      · exact List.eq_nil_of_length_eq_zero h0
      · obtain ⟨ad, he, _⟩ := HR.out.2.2 h0
        cases he
    subst h0
    obtain ⟨_, hcase⟩ := ow_flat hmx
    have hc0 : c = 0 := by
      rcases hcase with ⟨e, _⟩ | ⟨gb, cap, cur, e, _⟩
      · injection e
      · injection e with e; cases e
    subst hc0
    clear hmx hcase
    go_enter Try.func26, Try.ntmps26
    go_wp2_with fail
    go_ret
    exact ⟨_, rfl, Kd.R_nil _ _ _ _ _, Below.refl _ _⟩
  · clear hmx
    have HW : Aside0 (Below W.heap.size W (W.alloc (.cells #[] 64))) := ⟨below_alloc (Below.refl _ _) _⟩
    go_enter Try.func26, Try.ntmps26
    go_wp2_with ((with_reducible refine gate_builtin (b := .append) (xs := #[.tmp 5, .tmp 6]) rfl ?_); at_builtin; refine Kd.R_append_rows k64 (Rr := k64.K W) (w0 := W.alloc (.cells #[] 64)) W.heap.size rfl (.tmp 5) (.tmp 6) 58 64 _ 32 rfl Try.underlying58 info64 (by rfl) (by decide) (by decide) (.slice (some ⟨W.heap.size, 0, none⟩) 0 0) [] ms (some ad) ms.length c (fun _ => True) (fun _ => False) rfl rfl ?aO ?aR ?aK (fun _ hk => hk.elim) (fun _ _ => trivial) ?aB ?aS ?aL ?_; (case aO => exact ow_new W); (case aR => exact (Kd.C_below HR.out HW.out).imp_ (Below.refl _ _) (fun x cs hk => by obtain rfl := k64_open hk; exact k64_mk W x)); (case aK => exact fun x cs hk => by obtain rfl := k64_open hk; exact k64_mkM _ _ _ x); (case aB => exact Below.refl _ _); (case aS => exact HW.out.size); (case aL => simp only [List.length_nil]; omega); intro v1 w1 ho hb hg hat; have HO := Aside0.mk ho; have HB := Aside0.mk (HW.out.trans hb); clear ho hb hg hat)
    go_ret
    exact ⟨_, rfl, HO.out, HB.out⟩
end Go.Proofs.Ytbeoillppkcpmaa.Mark
