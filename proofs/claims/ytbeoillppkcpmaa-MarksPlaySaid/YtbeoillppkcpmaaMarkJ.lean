/- Edit moves all ranges, or tells that it can't, and then leaves them. For ranges that may be, at most 100000. -/
import Derived.Laws.Cover3
import Derived.Test.YtbeoillppkcpmaaMarkI
namespace Go.Proofs.Ytbeoillppkcpmaa.Mark
open Go.RowKit Go.Proofs.YtbeoillppkcpmaaW.PrintWords Go.Proofs.YtbeoillppkcpmaaW.PrintLast Go.Proofs.YtbeoillppkcpmaaW.PrintMore Go.Proofs.Ytbeoillppkcpmaa.PMarksPlay
attribute [local go_sem] max2_int min2_int max_two min_two max_three min_three max_four min_four
set_option linter.unusedVariables false
set_option linter.unusedSimpArgs false
def editM.T7 : Bool × List (List Nat × List Nat) := (true, [([], []), ([], []), ([], []), ([], []), ([2, 3], [2, 3]), ([4], [4]), ([5], [5]), ([], []), ([6, 7], [6, 7]), ([0, 1, 0, 1, 2, 3, 4, 5, 6, 7, 8], [0, 1]), ([9, 0, 1, 2, 3, 4, 5, 6, 7, 8], [9]), ([10, 8, 8, 0, 1, 2, 3, 4, 5, 6, 7, 8], [8, 10])])
def editM.B7 : List Nat := [0, 0, 0, 0, 12, 28, 60, 0, 252, 511, 1023, 2047]
theorem editM.tab7 : rtab .any (opsOf Try.f11 7) = editM.T7 := by kernel_rfl
theorem editM.bits7 : waitsOk editM.T7.2 editM.B7 = true := by kernel_rfl

theorem add_lit0 (b i : Nat) : (⟨b, 0, none⟩ : Addr).add i = ⟨b, i, none⟩ := by unfold Addr.add; split <;> simp_all
theorem sm_of {a b at_ del : Int} {n : Nat} (hm : mayB a b = true) (hf : fairB at_ del = true) (hn : n ≤ 100000) : Sm a at_ del n ∧ Sm b at_ del n := by
  have h1 := of_decide_eq_true hm
  have h2 := of_decide_eq_true hf
  exact ⟨⟨h1.1, by omega, h2.1, h2.2.1, h2.2.2.2, hn⟩, ⟨by omega, h1.2.2, h2.1, h2.2.1, h2.2.2.2, hn⟩⟩
theorem mid_get (f : S64 → S64) (ms : List S64) (j : Nat) (hj : j < ms.length) : ((ms.map f).take j ++ ms.drop j).getD j z64 = ms[j] ∧ ((ms.map f).take j ++ ms.drop j).length = ms.length := by
  have hl : ((ms.map f).take j).length = j := by rw [List.length_take, List.length_map]; omega
  refine ⟨?_, by rw [List.length_append, hl, List.length_drop]; omega⟩
  rw [List.getD_eq_getElem?_getD, List.getElem?_append_right (by omega), hl, Nat.sub_self, List.getElem?_drop, Nat.add_zero, List.getElem?_eq_getElem hj]
  rfl
theorem mid_set (f : S64 → S64) (ms : List S64) (j : Nat) (hj : j < ms.length) : ((ms.map f).take j ++ ms.drop j).set j (f ms[j]) = (ms.map f).take (j + 1) ++ ms.drop (j + 1) := by
  have hl : ((ms.map f).take j).length = j := by rw [List.length_take, List.length_map]; omega
  rw [List.set_append_right _ _ (by omega), hl, Nat.sub_self, List.drop_eq_getElem_cons hj, List.set_cons_zero, List.take_succ_eq_append_getElem (by rw [List.length_map]; exact hj), List.getElem_map, List.append_assoc]
  rfl
set_option maxHeartbeats 4000000 in
set_option maxRecDepth 10000 in
theorem edit_bad (base g : Nat) (v : Value) (ms : List S64) (last at_ del : Int) (B : Option Addr) (cb : Nat) (l : List Int) (W : World) (h : MarksAt base W g v ms last) (hr : Kd.C (Kd.int .i32) W B l.length l) (hc : l.length ≤ cb) (hf : fairB at_ del = false) :
    Calls Try.prog 11 #[.pointer (some ⟨g, 0, none⟩), .agg #[.int .i64 at_, .int .i64 del, .slice B l.length cb]] W fun e w' => e = .returned (.int .i64 1) ∧ Below W.heap.size W w' := by
  have HR := Aside0.mk hr
  have HC := Aside0.mk hc
  have HW : Aside0 (Below W.heap.size W (W.alloc (.cells #[.int .i64 at_, .int .i64 del, .slice B l.length cb] 33))) := ⟨below_alloc (Below.refl _ _) _⟩
  clear h hr hc
  go_enter Try.func11, Try.ntmps11
  go_wp2_with fail
  refine (fair_calls at_ del B cb l _ (Kd.C_below HR.out HW.out) HC.out).mono ?_
  rintro e w1 ⟨rfl, hb1⟩
  have HB1 := Aside0.mk (below_then HW.out HW.out.size hb1)
  clear hb1
  go_wp2_with fail
  go_ret
  exact ⟨rfl, HB1.out⟩
/-- What Edit of a fair edit comes to. -/
def EditR (base g : Nat) (v : Value) (ms' : List S64) (last : Int) (W : World) (e : Ending) (w' : World) : Prop :=
  (ms'.all mayX = false ∧ e = .returned (.int .i64 1) ∧ Below W.heap.size W w') ∨ (ms'.all mayX = true ∧ e = .returned (.int .i64 0) ∧ ∃ v', MarksAt base w' g v' ms' last ∧ Mv base g v v' W w')
set_option maxHeartbeats 4000000 in
set_option maxRecDepth 10000 in
theorem edit_fair (base g : Nat) (v : Value) (ms : List S64) (last at_ del : Int) (B : Option Addr) (cb : Nat) (l : List Int) (W : World) (h : MarksAt base W g v ms last) (hr : Kd.C (Kd.int .i32) W B l.length l) (hc : l.length ≤ cb) (hf : fairB at_ del = true) (hl : l.length ≤ 100000) (hms : ms.length ≤ 100000) (hmay : ms.all mayX = true) :
    Calls Try.prog 11 #[.pointer (some ⟨g, 0, none⟩), .agg #[.int .i64 at_, .int .i64 del, .slice B l.length cb]] W (EditR base g v (ms.map (mv1 at_ del l.length)) last W) := by
  have H := Aside0.mk h
  have HR := Aside0.mk hr
  have HC := Aside0.mk hc
  have HF := Aside0.mk hf
  have HL := Aside0.mk hl
  have HMAY := Aside0.mk hmay
  have HW : Aside0 (Below W.heap.size W (W.alloc (.cells #[.int .i64 at_, .int .i64 del, .slice B l.length cb] 33))) := ⟨below_alloc (Below.refl _ _) _⟩
  have XE : Aside0 ((W.alloc (.cells #[.int .i64 at_, .int .i64 del, .slice B l.length cb] 33)).heap[W.heap.size]? = some (.cells #[.int .i64 at_, .int .i64 del, .slice B l.length cb] 33)) := ⟨blk_new W _⟩
  clear h hr hc hl hmay
  go_enter Try.func11, Try.ntmps11
  go_wp2_with fail
  refine (fair_calls at_ del B cb l _ (Kd.C_below HR.out HW.out) HC.out).mono ?_
  rintro e w1 ⟨rfl, hb1⟩
  have HB1 := Aside0.mk (below_then HW.out HW.out.size hb1)
  have X1 := Aside0.mk (blk_below XE.out hb1)
  have H1 := Aside0.mk (H.out.below HB1.out)
  have hq := (blk_cell H1.out.1 0).trans rfl
  clear hb1
  go_wp2_with fail
  refine (clone_calls ms v base _ H1.out.2.2 (by omega)).mono ?_
  rintro e w2 ⟨v5, rfl, ho2, hb2⟩
  have HB2 := Aside0.mk (below_then HB1.out HB1.out.size hb2)
  have X2 := Aside0.mk (blk_below X1.out hb2)
  have HB21 := Aside0.mk hb2
  have HO2 : Aside0 (Ow w2 W.heap.size v5 ms) := ⟨Kd.R_lower ho2 HB1.out.size⟩
  have HNB : Aside0 (∀ k, v5.ownBlock = some k → w1.heap.size ≤ k) := ⟨fun k hk => Kd.R_base ho2 k hk⟩
  obtain ⟨A5, c5, rfl, hc5, _⟩ := Kd.R_reads ho2
  clear ho2 hb2 hq
  go_wp2_with fail
  go_loopg [6, 21] (ms.length + 1) (fun kq v6 v21 wr => ∃ j : Nat, v21 = .int .i64 (j : Int) ∧ j ≤ ms.length ∧ kq + j = ms.length + 1 ∧ Aside0 (Ow wr W.heap.size (.slice A5 ms.length c5) ((ms.map (mv1 at_ del l.length)).take j ++ ms.drop j)) ∧ Aside0 (((ms.map (mv1 at_ del l.length)).take j).all mayX = true) ∧ Aside0 (wr.heap[W.heap.size]? = some (.cells #[.int .i64 at_, .int .i64 del, .slice B l.length cb] 33)) ∧ Aside0 (Below w1.heap.size w1 wr))
  case atStart => exact ⟨0, rfl, by omega, by omega, ⟨by simpa using HO2.out⟩, ⟨by simp⟩, X2, HB21⟩
  case round =>
    obtain ⟨j, rfl, hj, hk, HO, HA, HX, HB⟩ := hrel
    have HK := Aside0.mk hk
    clear hk
    by_cases hlt : j < ms.length
    · obtain ⟨hg1, hg2⟩ := mid_get (mv1 at_ del l.length) ms j hlt
      obtain ⟨xs, hxs⟩ : ∃ xs, (ms.map (mv1 at_ del l.length)).take j ++ ms.drop j = xs := ⟨_, rfl⟩
      have HXS := Aside0.mk hxs
      rw [hxs] at hg1 hg2 HO
      have hjx : j < xs.length := by omega
      obtain ⟨gb, cap, hv, hgb, hgl, _⟩ := Kd.R_form HO.out (by omega)
      rw [hg2] at hv
      injection hv with hv1 hv2 hv3
      subst hv1
      subst hv3
      have hrd := (Kd.R_reads' HO.out).2.2
      obtain ⟨ad, a, b, c, d, he, hx, y0, y1, y2, y3, y4⟩ := at_item hrd j hjx
      injection he with he
      subst he
      have hmj : mayB a b = true := by
        have h1 : mayX (ms[j]) = true := List.all_eq_true.1 HMAY.out _ (List.getElem_mem hlt)
        have h2 : ms[j] = ⟨⟨⟨a, b⟩, c, d⟩, idAt xs j⟩ := by rw [← hg1, hx]
        rw [h2] at h1
        exact h1
      have hel : xs[j] = ms[j] := by rw [← hg1, List.getD_eq_getElem?_getD, List.getElem?_eq_getElem hjx]; rfl
      have hsm := Aside0.mk (sm_of hmj HF.out HL.out)
      have HXJ : Aside0 (ms[j] = ⟨⟨⟨a, b⟩, c, d⟩, idAt xs j⟩) := ⟨by rw [← hg1, hx]⟩
      rw [add_lit0] at y0 y1 y2 y3
      have Y := Aside0.mk (And.intro y0 (And.intro y1 (And.intro y2 y3)))
      have hib : (j : Int) ≤ 1000000 := by omega
      have HG2 := Aside0.mk hg2
      have HEL : Aside0 (∃ hj : j < xs.length, xs[j] = ms[j]) := ⟨⟨hjx, hel⟩⟩
      clear y0 y1 y2 y3 y4 hx hrd hel hjx hg1 hg2 hv2 hxs hmj
      cases gk with
      | zero => exact absurd HK.out (by omega)
      | succ k1 =>
        go_wp2_with fail
        refine start_ (n := 12) (S := fun w' => w'.cell? ⟨gb, j * 5, none⟩ = some (.int .i64 a) ∧ w'.cell? ⟨gb, j * 5 + 1, none⟩ = some (.int .i64 b) ∧ w'.cell? ⟨gb, j * 5 + 2, none⟩ = some (.bool c) ∧ w'.cell? ⟨gb, j * 5 + 3, none⟩ = some (.bool d) ∧ w'.cell? ⟨W.heap.size, 0, none⟩ = some (.int .i64 at_) ∧ w'.cell? ⟨W.heap.size, 1, none⟩ = some (.int .i64 del) ∧ w'.cell? ⟨W.heap.size, 2, none⟩ = some (.slice B l.length cb)) (ds := [8, 11]) #[false, false, false, false, false, false, false, false, false, false, false, false] (by kernel_rfl) rfl rfl ⟨Y.out.1, Y.out.2.1, Y.out.2.2.1, Y.out.2.2.2, (blk_cell (blk_drew HX.out) 0).trans rfl, (blk_cell (blk_drew HX.out) 1).trans rfl, (blk_cell (blk_drew HX.out) 2).trans rfl⟩ (fun hHeld => ?_); refine with_tabW editM.tab7 editM.bits7 (fun HT_ HW_ => ?_)
        refine pure_ (i := 0) (N := some 24) (v := ?_) (a' := ?_) #[true, false, false, false, false, false, false, false, false, false, false, false] rfl rfl (any_of HT_.out (by kernel_rfl)) (fun _ _ _ h => h) (Or.inl ⟨by rfl, ?_⟩) ?_ ?_
        rotate_left
        · intro w'
          go_simp
          with_reducible rfl
        rotate_left
        · simp only [Act.put, List.setIfInBounds_toArray, List.set_cons_zero, List.set_cons_succ, i64_w, i32_w]
          rfl
        refine pure_ (i := 1) (N := some 25) (v := ?_) (a' := ?_) #[true, true, false, false, false, false, false, false, false, false, false, false] rfl rfl (any_of HT_.out (by kernel_rfl)) (fun _ _ _ h => h) (Or.inl ⟨by rfl, ?_⟩) ?_ ?_
        rotate_left
        · intro w'
          go_simp
          with_reducible rfl
        rotate_left
        · simp only [Act.put, List.setIfInBounds_toArray, List.set_cons_zero, List.set_cons_succ, i64_w, i32_w]
          rfl
        refine pure_ (i := 2) (N := some 26) (v := ?_) (a' := ?_) #[true, true, true, false, false, false, false, false, false, false, false, false] rfl rfl (any_of HT_.out (by kernel_rfl)) (fun _ _ _ h => h) (Or.inl ⟨by rfl, ?_⟩) ?_ ?_
        rotate_left
        · intro w'
          go_simp
          with_reducible rfl
        rotate_left
        · simp only [Act.put, List.setIfInBounds_toArray, List.set_cons_zero, List.set_cons_succ, i64_w, i32_w]
          rfl
        refine pure_ (i := 3) (N := some 27) (v := ?_) (a' := ?_) #[true, true, true, true, false, false, false, false, false, false, false, false] rfl rfl (any_of HT_.out (by kernel_rfl)) (fun _ _ _ h => h) (Or.inl ⟨by rfl, ?_⟩) ?_ ?_
        rotate_left
        · intro w'
          go_simp
          with_reducible rfl
        rotate_left
        · simp only [Act.put, List.setIfInBounds_toArray, List.set_cons_zero, List.set_cons_succ, i64_w, i32_w]
          rfl
        refine pure_ (i := 4) (N := some 28) (v := ?_) (a' := ?_) #[true, true, true, true, true, false, false, false, false, false, false, false] rfl rfl (any_of HT_.out (by kernel_rfl)) (fun _ _ _ h => h) (Or.inl ⟨by rfl, ?_⟩) ?_ ?_
        rotate_left
        · intro w'
          go_simp
          with_reducible rfl
        rotate_left
        · simp only [Act.put, List.setIfInBounds_toArray, List.set_cons_zero, List.set_cons_succ, i64_w, i32_w]
          rfl
        refine pure_ (i := 5) (N := some 29) (v := ?_) (a' := ?_) #[true, true, true, true, true, true, false, false, false, false, false, false] rfl rfl (any_of HT_.out (by kernel_rfl)) (fun _ _ _ h => h) (Or.inl ⟨by rfl, ?_⟩) ?_ ?_
        rotate_left
        · intro w'
          go_simp
          with_reducible rfl
        rotate_left
        · simp only [Act.put, List.setIfInBounds_toArray, List.set_cons_zero, List.set_cons_succ, i64_w, i32_w]
          rfl
        refine take_ (i := 6) (N := some 30) (v := ?_) (a' := ?_) #[true, true, true, true, true, true, true, false, false, false, false, false] rfl rfl (take_ofW HT_.out HW_.out (by kernel_rfl)) (fun _ _ _ h => h) (Or.inl ⟨by rfl, ?_⟩) hHeld ?_ ?_
        rotate_left
        · rintro w' ⟨s0, s1, s2, s3, s4, s5, s6⟩
          go_simp
          with_reducible rfl
        rotate_left
        · simp only [Act.put, List.setIfInBounds_toArray, List.set_cons_zero, List.set_cons_succ, i64_w, i32_w]
          rfl
        refine take_ (i := 7) (N := some 31) (v := ?_) (a' := ?_) #[true, true, true, true, true, true, true, true, false, false, false, false] rfl rfl (take_ofW HT_.out HW_.out (by kernel_rfl)) (fun _ _ _ h => h) (Or.inl ⟨by rfl, ?_⟩) hHeld ?_ ?_
        rotate_left
        · rintro w' ⟨s0, s1, s2, s3, s4, s5, s6⟩
          go_simp
          with_reducible rfl
        rotate_left
        · simp only [Act.put, List.setIfInBounds_toArray, List.set_cons_zero, List.set_cons_succ, i64_w, i32_w]
          rfl
        refine last_ (i := 8) (N := some 32) #[true, true, true, true, true, true, true, true, true, false, false, false] rfl rfl (one_of HT_.out (by kernel_rfl)) (by decide) (fun K hK => ?_)
        refine goes_ Try.func27 (by kernel_rfl) rfl #[.agg #[.int .i64 a, .int .i64 b, .bool c, .bool d], .agg #[.int .i64 at_, .int .i64 del, .slice B l.length cb]] (by rfl) rfl rfl (by (try simp only [List.map_toArray, List.map_cons, List.map_nil]); first | done | rfl) ?_
        refine (moved_calls a b c d at_ del B cb l _ (Kd.C_below HR.out (below_then HB1.out HB1.out.size HB.out).drew) HC.out hsm.out.1 hsm.out.2).mono ?_
        rintro e w4 ⟨rfl, hb4⟩
        have HB4 := Aside0.mk (below_then HB.out.drew HB.out.size hb4)
        have HO4 : Aside0 (Ow w4 W.heap.size (.slice (some ⟨gb, 0, none⟩) ms.length c5) xs) := ⟨Kd.R_below (Kd.R_drew HO.out) hb4⟩
        have X4 : Aside0 (w4.heap[W.heap.size]? = some (.cells #[.int .i64 at_, .int .i64 del, .slice B l.length cb] 33)) := ⟨blk_below (blk_drew HX.out) hb4⟩
        have YY := Aside0.mk (And.intro (pw_cell_below hb4 (show wr.drew.cell? _ = _ from Y.out.1)) (And.intro (pw_cell_below hb4 (show wr.drew.cell? _ = _ from Y.out.2.1)) (And.intro (pw_cell_below hb4 (show wr.drew.cell? _ = _ from Y.out.2.2.1)) (pw_cell_below hb4 (show wr.drew.cell? _ = _ from Y.out.2.2.2)))))
        clear hb4
        refine ⟨_, rfl, ?_⟩
        refine hK.out _ _ ?_
        clear hK K
        refine norm_ (a' := ?_) ?_ ?_
        rotate_left
        · show Act.put _ (some 32) _ = _
          simp only [Act.put, List.setIfInBounds_toArray, List.set_cons_zero, List.set_cons_succ, i64_w, i32_w]
          rfl
        refine pure_ (i := 9) (N := some 33) (v := ?_) (a' := ?_) #[true, true, true, true, true, true, true, true, true, true, false, false] rfl rfl (any_of HT_.out (by kernel_rfl)) (fun _ _ _ h => h) (Or.inl ⟨by rfl, ?_⟩) ?_ ?_
        rotate_left
        · intro w'
          go_simp
          with_reducible rfl
        rotate_left
        · simp only [Act.put, List.setIfInBounds_toArray, List.set_cons_zero, List.set_cons_succ, i64_w, i32_w]
          rfl
        refine pure_ (i := 10) (N := some 34) (v := ?_) (a' := ?_) #[true, true, true, true, true, true, true, true, true, true, true, false] rfl rfl (any_of HT_.out (by kernel_rfl)) (fun _ _ _ h => h) (Or.inl ⟨by rfl, ?_⟩) ?_ ?_
        rotate_left
        · intro w'
          go_simp
          with_reducible rfl
        rotate_left
        · simp only [Act.put, List.setIfInBounds_toArray, List.set_cons_zero, List.set_cons_succ, i64_w, i32_w]
          rfl
        refine last_ (i := 11) (N := none) #[true, true, true, true, true, true, true, true, true, true, true, true] rfl rfl (one_of HT_.out (by kernel_rfl)) (by decide) (fun K hK => ?_)
        obtain ⟨hz0, hz1, hz2, hz3⟩ := YY.out
        obtain ⟨cells4, hc4⟩ := Kd.R_typed HO4.out gb rfl
        have fz0 := blk_frozen hc4 (j * 5)
        have fz1 := blk_frozen hc4 (j * 5 + 1)
        have fz2 := blk_frozen hc4 (j * 5 + 2)
        have fz3 := blk_frozen hc4 (j * 5 + 3)
        refine skip_ (by rfl) rfl (w1 := w4.setCells gb (j * 5) [.int .i64 (mvFrom a b c d at_ del l.length), .int .i64 (mvTo a b c d at_ del l.length), .bool c, .bool d]) ?hr ?_
        case hr =>
          simp only [World.setCells]
          go_simp
        refine hK.out _ _ ?_
        clear hK K
        refine done_ (done_of HT_.out (by kernel_rfl)) ?_
        skip
        obtain ⟨w5, hw5⟩ : ∃ w5, w4.setCells gb (j * 5) [.int .i64 (mvFrom a b c d at_ del l.length), .int .i64 (mvTo a b c d at_ del l.length), .bool c, .bool d] = w5 := ⟨_, rfl⟩
        obtain ⟨hjx, hel⟩ := HEL.out
        have HO5 : Aside0 (Ow w5 W.heap.size (.slice (some ⟨gb, 0, none⟩) ms.length c5) ((ms.map (mv1 at_ del l.length)).take (j + 1) ++ ms.drop (j + 1))) := ⟨by
          have h5 := ow_set HO4.out j hjx (mvFrom a b c d at_ del l.length) (mvTo a b c d at_ del l.length) c d
          rw [hw5, hel] at h5
          rw [← mid_set (mv1 at_ del l.length) ms j hlt, HXS.out]
          rw [HXJ.out] at h5 ⊢
          exact h5⟩
        have hin := fun k hk => World.cell?_setCells_in gb [.int .i64 (mvFrom a b c d at_ del l.length), .int .i64 (mvTo a b c d at_ del l.length), .bool c, .bool d] (j * 5) w4 (fun i hi => by
          have := YY.out
          match i, hi with
          | 0, _ => rw [show j * 5 + 0 = j * 5 from rfl, this.1]; rfl
          | 1, _ => rw [this.2.1]; rfl
          | 2, _ => rw [this.2.2.1]; rfl
          | 3, _ => rw [this.2.2.2]; rfl) k hk
        rw [hw5] at hin
        have n0 : w5.cell? ⟨gb, j * 5, none⟩ = some (.int .i64 (mvFrom a b c d at_ del l.length)) := hin 0 (by simp)
        have n1 : w5.cell? ⟨gb, j * 5 + 1, none⟩ = some (.int .i64 (mvTo a b c d at_ del l.length)) := hin 1 (by simp)
        have n2 : w5.cell? ⟨gb, j * 5 + 2, none⟩ = some (.bool c) := hin 2 (by simp)
        have n3 : w5.cell? ⟨gb, j * 5 + 3, none⟩ = some (.bool d) := hin 3 (by simp)
        have hgw1 : w1.heap.size ≤ gb := HNB.out gb rfl
        have HB5 : Aside0 (Below w1.heap.size w1 w5) := ⟨by rw [← hw5]; exact below_setCells gb _ _ HB4.out hgw1⟩
        have X5 : Aside0 (w5.heap[W.heap.size]? = some (.cells #[.int .i64 at_, .int .i64 del, .slice B l.length cb] 33)) := ⟨by rw [← hw5, far_setCells gb _ _ _ _ (by have := blk_lt X1.out; omega)]; exact X4.out⟩
        rw [hw5]
        clear hin hw5 hel hjx
        go_wp2_with fail
        refine (may_calls _ _ c d _).mono ?_
        rintro e w6 ⟨rfl, hb6⟩
        have HB6 := Aside0.mk (below_then HB5.out HB5.out.size hb6)
        have HO6 := Aside0.mk (Kd.R_below HO5.out hb6)
        have X6 := Aside0.mk (blk_below X5.out hb6)
        have HMX : Aside0 (mayX (mv1 at_ del l.length ms[j]) = mayB (mvFrom a b c d at_ del l.length) (mvTo a b c d at_ del l.length)) := ⟨by rw [HXJ.out]; rfl⟩
        clear hb6 n0 n1 n2 n3
        cases hm6 : mayB (mvFrom a b c d at_ del l.length) (mvTo a b c d at_ del l.length) with
        | false =>
          have HF6 := Aside0.mk (HMX.out.trans hm6)
          clear hm6
          go_wp2_with fail
          go_ret
          refine .inl ⟨List.all_eq_false.mpr ⟨mv1 at_ del l.length ms[j], List.mem_map.mpr ⟨ms[j], List.getElem_mem hlt, rfl⟩, by rw [HF6.out]; decide⟩, rfl, below_then HB1.out HB1.out.size HB6.out⟩
        | true =>
          have HF6 := Aside0.mk (HMX.out.trans hm6)
          clear hm6
          go_wp2_with fail
          go_roundg k1
          case measure => omega
          case rel => exact ⟨j + 1, by go_num, by omega, by have := HK.out; omega, HO6, ⟨by rw [List.take_succ_eq_append_getElem (by rw [List.length_map]; exact hlt), List.getElem_map, List.all_append, HA.out]; simp [HF6.out]⟩, X6, HB6⟩
    · obtain rfl : j = ms.length := by omega
      have HALL : Aside0 ((ms.map (mv1 at_ del l.length)).all mayX = true) := ⟨by have := HA.out; rwa [List.take_of_length_le (by simp)] at this⟩
      have HOE : Aside0 (Ow wr W.heap.size (.slice A5 ms.length c5) (ms.map (mv1 at_ del l.length))) := ⟨by have := HO.out; rwa [List.take_of_length_le (by simp), List.drop_of_length_le (Nat.le_refl _), List.append_nil] at this⟩
      have HM : Aside0 (MarksAt base wr g v ms last) := ⟨H1.out.below HB.out⟩
      have hc0 := (blk_cell HM.out.1 0).trans rfl
      have hf0 := blk_frozen HM.out.1 0
      have HBW := Aside0.mk (below_then HB1.out HB1.out.size HB.out)
      go_wp2_with fail
      go_ret
      exact .inr ⟨HALL.out, rfl, .slice A5 ms.length c5, ⟨by simpa using blk_set HM.out.1 0 (.slice A5 ms.length c5), HM.out.2.1, Kd.R_set (Kd.R_lower HOE.out H.out.hb) HM.out.1 (by decide) 0 _⟩, ⟨(below_lower HBW.out H.out.hb).setCell H.out.2.1 _, (KeepBut.of_below HBW.out g v.ownBlock).set_ 0 _, fun k hk => .inr (Kd.R_base HOE.out k hk)⟩⟩
end Go.Proofs.Ytbeoillppkcpmaa.Mark
