/- Parent answers the number of the nearest range that a range is in. For ranges that may be, of rising numbers. -/
import Derived.Laws.Cover3
import Derived.Test.YtbeoillppkcpmaaMarkM
namespace Go.Proofs.Ytbeoillppkcpmaa.Mark
open Go.RowKit Go.Proofs.YtbeoillppkcpmaaW.PrintWords Go.Proofs.YtbeoillppkcpmaaW.PrintLast Go.Proofs.YtbeoillppkcpmaaW.PrintMore Go.Proofs.Ytbeoillppkcpmaa.PMarksPlay
attribute [local go_sem] max2_int min2_int max_two min_two max_three min_three max_four min_four
set_option linter.unusedVariables false
set_option linter.unusedSimpArgs false
def parM.T8 : Bool × List (List Nat × List Nat) := (true, [([], []), ([0], [0]), ([], []), ([1, 2], [1, 2]), ([3], [3]), ([4], [4]), ([5, 4], [4, 5]), ([6, 4], [4, 6]), ([7, 4], [4, 7]), ([4], [4]), ([8, 9, 4], [4, 8, 9]), ([10, 4], [4, 10]), ([4], [4]), ([11, 12, 4, 4], [4, 11, 12]), ([4, 13], [4, 13])])
def parM.B8 : List Nat := [0, 1, 0, 7, 15, 31, 63, 127, 255, 31, 1023, 2047, 31, 8191, 16383]
theorem parM.tab8 : rtab .any (opsOf Try.f18 8) = parM.T8 := by kernel_rfl
theorem parM.bits8 : waitsOk parM.T8.2 parM.B8 = true := by kernel_rfl

/-! ### Parent: the nearest of those that a range is in -/
def inB (x y : S64) : Bool := if (x.f0.f0.f0 == y.f0.f0.f0 && (x.f0.f0.f1 == y.f0.f0.f1)) = true then decide (x.f1 > y.f1) else if y.f0.f0.f0 ≤ x.f0.f0.f0 then decide (x.f0.f0.f1 ≤ y.f0.f0.f1) else false
theorem in_calls (x y : S64) (W : World) : Calls Try.prog 32 #[.agg #[.int .i64 x.f0.f0.f0, .int .i64 x.f0.f0.f1, .bool x.f0.f1, .bool x.f0.f2, .int .i64 x.f1], .agg #[.int .i64 y.f0.f0.f0, .int .i64 y.f0.f0.f1, .bool y.f0.f1, .bool y.f0.f2, .int .i64 y.f1]] W fun e w' => e = .returned (.bool (inB x y)) ∧ Below W.heap.size W w' :=
  marks_item_in.calls _ _ _ _ _ _ _ _ _ _ _ W (by
    unfold marks_item_in.f inB
    split
    · rfl
    · split
      · rfl
      · rfl)
def keepP (x : S64) (n : Int) (y : S64) : Bool := !(y.f1 == n) && inB x y
def parL (x : S64) (n : Int) (ms : List S64) : List S64 := ms.filter (keepP x n)
def parR (x : S64) (n : Int) (ms : List S64) : Int := match parL x n ms with
  | [] => 0
  | z :: zs => (minF z zs).f1
theorem parL_snoc (x : S64) (n : Int) (ms : List S64) (j : Nat) (h : j < ms.length) (y : S64) (hy : ms.getD j z64 = y) : parL x n (ms.take (j + 1)) = parL x n (ms.take j) ++ (if keepP x n y = true then [y] else []) := by
  have e : ms[j] = y := by rw [← hy, List.getD_eq_getElem?_getD, List.getElem?_eq_getElem h]; rfl
  unfold parL
  rw [List.take_succ_eq_append_getElem h, List.filter_append, e]
  by_cases hp : keepP x n y = true
  · simp [hp]
  · simp [hp]
theorem parL_le (x : S64) (n : Int) (ms : List S64) : (parL x n ms).length ≤ ms.length := List.length_filter_le _ _
theorem parL_may (x : S64) (n : Int) (ms : List S64) (h : ms.all mayX = true) : (parL x n ms).all mayX = true :=
  List.all_eq_true.2 fun y hy => List.all_eq_true.1 h y (List.mem_filter.1 hy).1
theorem getD_of (ms : List S64) (i : Nat) (a b : Int) (c d : Bool) (h : ms.getD i z64 = ⟨⟨⟨a, b⟩, c, d⟩, idAt ms i⟩) : (ms.getD i z64) = ⟨⟨⟨a, b⟩, c, d⟩, idAt ms i⟩ := h
/-- What Parent comes to. -/
def ParR (ms : List S64) (n : Int) (W : World) (e : Ending) (w' : World) : Prop := ∃ i, Low ms n i ∧ Below W.heap.size W w' ∧
  ((hit ms i n = false ∧ e = .returned (.tuple #[.int .i64 0, .int .i64 4])) ∨ (hit ms i n = true ∧ e = .returned (.tuple #[.int .i64 (parR (ms.getD i z64) n ms), .int .i64 0])))
set_option maxHeartbeats 4000000 in
set_option maxRecDepth 10000 in
theorem parent_calls (base g : Nat) (v : Value) (ms : List S64) (last n : Int) (W : World) (h : MarksAt base W g v ms last) (hl : ms.length ≤ 100000) (hs : Rising ms) (hmay : ms.all mayX = true) :
    Calls Try.prog 18 #[.pointer (some ⟨g, 0, none⟩), .int .i64 n] W (ParR ms n W) := by
  have H := Aside0.mk h
  have HS := Aside0.mk hs
  have HMAY := Aside0.mk hmay
  clear h hs hmay
  go_enter Try.func18, Try.ntmps18
  go_wp2_with fail
  refine (find_calls base g v ms last n _ H.out (by omega) HS.out).mono ?_
  rintro e w1 ⟨i, hlow, rfl, hb1⟩
  have HB1 := Aside0.mk hb1
  have HL := Aside0.mk hlow
  have H1 := Aside0.mk (H.out.below hb1)
  clear hb1 hlow
  cases hh : hit ms i n with
  | false =>
    have HH := Aside0.mk hh
    clear hh
    go_wp2_with fail
    go_ret2
    exact ⟨i, HL.out, HB1.out, .inl ⟨HH.out, rfl⟩⟩
  | true =>
    have HH := Aside0.mk hh
    have hi : i < ms.length := (of_decide_eq_true hh).1
    obtain ⟨A, cc, rfl, hc, _, _, _, _, hr⟩ := H.out.open_
    have hc0 := (blk_cell H1.out.1 0).trans rfl
    obtain ⟨ad, _, _, _, _, rfl, _, _, _, _, _, _⟩ := at_item hr i hi
    have HR := Aside0.mk hr
    clear hh hr
    go_wp2_with fail
    go_loopg [8, 25] (ms.length + 1) (fun kq v8 v25 wr => ∃ j : Nat, v25 = .int .i64 (j : Int) ∧ j ≤ ms.length ∧ kq + j = ms.length + 1 ∧ Aside0 (Ow wr W.heap.size v8 (parL (ms.getD i z64) n (ms.take j))) ∧ Aside0 (Below W.heap.size W wr))
    case atStart => exact ⟨0, rfl, by omega, by omega, ⟨by simpa [parL] using Kd.R_nil _ _ _ _ _⟩, HB1⟩
    case round =>
      obtain ⟨j, rfl, hj, hk, HO, HB⟩ := hrel
      have HK := Aside0.mk hk
      clear hk hc0
      by_cases hlt : j < ms.length
      · obtain ⟨adj, a, b, c, d, hadj, hx, y0, y1, y2, y3, y4⟩ := at_item (Kd.C_below HR.out HB.out) j hlt
        injection hadj with hadj
        subst hadj
        obtain ⟨adi, ai, bi, ci, di, hadi, hxi, x0, x1, x2, x3, x4⟩ := at_item (Kd.C_below HR.out HB.out) i hi
        injection hadi with hadi
        subst hadi
        have HX := Aside0.mk (parL_snoc (ms.getD i z64) n ms j hlt _ hx)
        have HXI := Aside0.mk hxi
        have HW : Aside0 (Below wr.heap.size wr (wr.alloc (.cells #[.int .i64 a, .int .i64 b, .bool c, .bool d, .int .i64 (idAt ms j)] 64))) := ⟨below_alloc (Below.refl _ _) _⟩
        have HBW := Aside0.mk (below_then HB.out HB.out.size HW.out)
        have HG := Aside0.mk (H.out.below HBW.out)
        have XJ : Aside0 ((wr.alloc (.cells #[.int .i64 a, .int .i64 b, .bool c, .bool d, .int .i64 (idAt ms j)] 64)).heap[wr.heap.size]? = some (.cells #[.int .i64 a, .int .i64 b, .bool c, .bool d, .int .i64 (idAt ms j)] 64)) := ⟨blk_new wr _⟩
        have X0 : Aside0 ((wr.alloc (.cells #[.int .i64 a, .int .i64 b, .bool c, .bool d, .int .i64 (idAt ms j)] 64)).drew.cell? (ad.add (i * 5)) = some (.int .i64 ai)) := ⟨pw_cell_below HW.out.drew x0⟩
        have X1 : Aside0 ((wr.alloc (.cells #[.int .i64 a, .int .i64 b, .bool c, .bool d, .int .i64 (idAt ms j)] 64)).drew.cell? ⟨(ad.add (i * 5)).block, (ad.add (i * 5)).off + 1, none⟩ = some (.int .i64 bi)) := ⟨pw_cell_below HW.out.drew x1⟩
        have X2 : Aside0 ((wr.alloc (.cells #[.int .i64 a, .int .i64 b, .bool c, .bool d, .int .i64 (idAt ms j)] 64)).drew.cell? ⟨(ad.add (i * 5)).block, (ad.add (i * 5)).off + 2, none⟩ = some (.bool ci)) := ⟨pw_cell_below HW.out.drew x2⟩
        have X3 : Aside0 ((wr.alloc (.cells #[.int .i64 a, .int .i64 b, .bool c, .bool d, .int .i64 (idAt ms j)] 64)).drew.cell? ⟨(ad.add (i * 5)).block, (ad.add (i * 5)).off + 3, none⟩ = some (.bool di)) := ⟨pw_cell_below HW.out.drew x3⟩
        have X4 : Aside0 ((wr.alloc (.cells #[.int .i64 a, .int .i64 b, .bool c, .bool d, .int .i64 (idAt ms j)] 64)).drew.cell? ⟨(ad.add (i * 5)).block, (ad.add (i * 5)).off + 4, none⟩ = some (.int .i64 (idAt ms i))) := ⟨pw_cell_below HW.out.drew x4⟩
        have HLE := Aside0.mk (parL_le (ms.getD i z64) n (ms.take j))
        clear hx hxi x0 x1 x2 x3 x4
        cases gk with
        | zero => exact absurd HK.out (by omega)
        | succ k1 =>
          by_cases hne : idAt ms j = n
          · have hn1 : (idAt ms j == n) = true := beq_iff_eq.mpr hne
            have hn2 : (idAt ms j != n) = false := bne_eq_false_iff_eq.mpr hne
            have HX2 : Aside0 (parL (ms.getD i z64) n (ms.take (j + 1)) = parL (ms.getD i z64) n (ms.take j)) := ⟨by rw [HX.out, if_neg (by simp [keepP, hne]), List.append_nil]⟩
            clear hne
            go_wp2_with fail
            refine start_ (n := 15) (S := fun w' => w'.cell? ⟨wr.heap.size, 0, none⟩ = some (.int .i64 a) ∧ w'.cell? ⟨wr.heap.size, 1, none⟩ = some (.int .i64 b) ∧ w'.cell? ⟨wr.heap.size, 2, none⟩ = some (.bool c) ∧ w'.cell? ⟨wr.heap.size, 3, none⟩ = some (.bool d) ∧ w'.cell? ⟨wr.heap.size, 4, none⟩ = some (.int .i64 (idAt ms j)) ∧ w'.cell? ⟨g, 0, none⟩ = some (.slice (some ad) ms.length cc) ∧ w'.cell? (ad.add (i * 5)) = some (.int .i64 ai) ∧ w'.cell? ⟨(ad.add (i * 5)).block, (ad.add (i * 5)).off + 1, none⟩ = some (.int .i64 bi) ∧ w'.cell? ⟨(ad.add (i * 5)).block, (ad.add (i * 5)).off + 2, none⟩ = some (.bool ci) ∧ w'.cell? ⟨(ad.add (i * 5)).block, (ad.add (i * 5)).off + 3, none⟩ = some (.bool di) ∧ w'.cell? ⟨(ad.add (i * 5)).block, (ad.add (i * 5)).off + 4, none⟩ = some (.int .i64 (idAt ms i))) (ds := [13]) #[false, false, false, false, false, false, false, false, false, false, false, false, false, false, false] (by kernel_rfl) rfl rfl ⟨(blk_cell (blk_drew XJ.out) 0).trans rfl, (blk_cell (blk_drew XJ.out) 1).trans rfl, (blk_cell (blk_drew XJ.out) 2).trans rfl, (blk_cell (blk_drew XJ.out) 3).trans rfl, (blk_cell (blk_drew XJ.out) 4).trans rfl, (blk_cell (blk_drew HG.out.1) 0).trans rfl, X0.out, X1.out, X2.out, X3.out, X4.out⟩ (fun hHeld => ?_); refine with_tabW parM.tab8 parM.bits8 (fun HT_ HW_ => ?_)
            refine pure_ (i := 0) (N := some 29) (v := ?_) (a' := ?_) #[true, false, false, false, false, false, false, false, false, false, false, false, false, false, false] rfl rfl (any_of HT_.out (by kernel_rfl)) (fun _ _ _ h => h) (Or.inl ⟨by rfl, ?_⟩) ?_ ?_
            rotate_left
            · intro w'
              go_simp
              with_reducible rfl
            rotate_left
            · simp only [Act.put, List.setIfInBounds_toArray, List.set_cons_zero, List.set_cons_succ, i64_w, i32_w]
              rfl
            refine take_ (i := 1) (N := some 30) (v := ?_) (a' := ?_) #[true, true, false, false, false, false, false, false, false, false, false, false, false, false, false] rfl rfl (take_ofW HT_.out HW_.out (by kernel_rfl)) (fun _ _ _ h => h) (Or.inl ⟨by rfl, ?_⟩) hHeld ?_ ?_
            rotate_left
            · rintro w' ⟨s0, s1, s2, s3, s4, s5, s6, s7, s8, s9, s10⟩
              go_simp
              with_reducible rfl
            rotate_left
            · simp only [Act.put, List.setIfInBounds_toArray, List.set_cons_zero, List.set_cons_succ, i64_w, i32_w]
              rfl
            refine pure_ (i := 2) (N := some 31) (v := ?_) (a' := ?_) #[true, true, true, false, false, false, false, false, false, false, false, false, false, false, false] rfl rfl (any_of HT_.out (by kernel_rfl)) (fun _ _ _ h => h) (Or.inl ⟨by rfl, ?_⟩) ?_ ?_
            rotate_left
            · intro w'
              go_simp
              with_reducible rfl
            rotate_left
            · simp only [Act.put, List.setIfInBounds_toArray, List.set_cons_zero, List.set_cons_succ, i64_w, i32_w]
              rfl
            refine pure_ (i := 3) (N := some 32) (v := .bool false) (a' := ?paparM_3_1) #[true, true, true, true, false, false, false, false, false, false, false, false, false, false, false] rfl rfl (any_of HT_.out (by kernel_rfl)) (fun _ _ _ h => h) (Or.inl ⟨by rfl, ?pyparM_3_1⟩) ?peparM_3_1 ?prparM_3_1
            case peparM_3_1 =>
              simp only [Act.put, List.setIfInBounds_toArray, List.set_cons_zero, List.set_cons_succ, i64_w, i32_w]
              rfl
            case pyparM_3_1 =>
              intro w'
              go_simp
            refine pure_ (i := 4) (N := some 33) (v := ?_) (a' := ?_) #[true, true, true, true, true, false, false, false, false, false, false, false, false, false, false] rfl rfl (any_of HT_.out (by kernel_rfl)) (fun _ _ _ h => h) (Or.inl ⟨by rfl, ?_⟩) ?_ ?_
            rotate_left
            · intro w'
              go_simp
              with_reducible rfl
            rotate_left
            · simp only [Act.put, List.setIfInBounds_toArray, List.set_cons_zero, List.set_cons_succ, i64_w, i32_w]
              rfl
            refine pure_ (i := 5) (N := some 34) (v := undef) (a' := ?_) #[true, true, true, true, true, true, false, false, false, false, false, false, false, false, false] rfl rfl (any_of HT_.out (by kernel_rfl)) (fun _ _ _ h => h) (Or.inr ⟨by rfl, rfl⟩) ?_ ?_
            rotate_left
            · simp only [Act.put, List.setIfInBounds_toArray, List.set_cons_zero, List.set_cons_succ, i64_w, i32_w]
              rfl
            refine pure_ (i := 6) (N := some 35) (v := undef) (a' := ?_) #[true, true, true, true, true, true, true, false, false, false, false, false, false, false, false] rfl rfl (any_of HT_.out (by kernel_rfl)) (fun _ _ _ h => h) (Or.inr ⟨by rfl, rfl⟩) ?_ ?_
            rotate_left
            · simp only [Act.put, List.setIfInBounds_toArray, List.set_cons_zero, List.set_cons_succ, i64_w, i32_w]
              rfl
            refine pure_ (i := 7) (N := some 36) (v := undef) (a' := ?_) #[true, true, true, true, true, true, true, true, false, false, false, false, false, false, false] rfl rfl (any_of HT_.out (by kernel_rfl)) (fun _ _ _ h => h) (Or.inr ⟨by rfl, rfl⟩) ?_ ?_
            rotate_left
            · simp only [Act.put, List.setIfInBounds_toArray, List.set_cons_zero, List.set_cons_succ, i64_w, i32_w]
              rfl
            refine take_ (i := 8) (N := some 37) (v := undef) (a' := ?_) #[true, true, true, true, true, true, true, true, true, false, false, false, false, false, false] rfl rfl (take_ofW HT_.out HW_.out (by kernel_rfl)) (fun _ _ _ h => h) (Or.inr ⟨by rfl, rfl⟩) hHeld ?_ ?_
            rotate_left
            · simp only [Act.put, List.setIfInBounds_toArray, List.set_cons_zero, List.set_cons_succ, i64_w, i32_w]
              rfl
            refine pure_ (i := 9) (N := some 38) (v := undef) (a' := ?_) #[true, true, true, true, true, true, true, true, true, true, false, false, false, false, false] rfl rfl (any_of HT_.out (by kernel_rfl)) (fun _ _ _ h => h) (Or.inr ⟨by rfl, rfl⟩) ?_ ?_
            rotate_left
            · simp only [Act.put, List.setIfInBounds_toArray, List.set_cons_zero, List.set_cons_succ, i64_w, i32_w]
              rfl
            refine pure_ (i := 10) (N := some 39) (v := undef) (a' := ?_) #[true, true, true, true, true, true, true, true, true, true, true, false, false, false, false] rfl rfl (any_of HT_.out (by kernel_rfl)) (fun _ _ _ h => h) (Or.inr ⟨by rfl, rfl⟩) ?_ ?_
            rotate_left
            · simp only [Act.put, List.setIfInBounds_toArray, List.set_cons_zero, List.set_cons_succ, i64_w, i32_w]
              rfl
            refine take_ (i := 11) (N := some 40) (v := undef) (a' := ?_) #[true, true, true, true, true, true, true, true, true, true, true, true, false, false, false] rfl rfl (take_ofW HT_.out HW_.out (by kernel_rfl)) (fun _ _ _ h => h) (Or.inr ⟨by rfl, rfl⟩) hHeld ?_ ?_
            rotate_left
            · simp only [Act.put, List.setIfInBounds_toArray, List.set_cons_zero, List.set_cons_succ, i64_w, i32_w]
              rfl
            refine take_ (i := 12) (N := some 41) (v := undef) (a' := ?_) #[true, true, true, true, true, true, true, true, true, true, true, true, true, false, false] rfl rfl (take_ofW HT_.out HW_.out (by kernel_rfl)) (fun _ _ _ h => h) (Or.inr ⟨by rfl, rfl⟩) hHeld ?_ ?_
            rotate_left
            · simp only [Act.put, List.setIfInBounds_toArray, List.set_cons_zero, List.set_cons_succ, i64_w, i32_w]
              rfl
            refine last_ (i := 13) (N := some 42) #[true, true, true, true, true, true, true, true, true, true, true, true, true, true, false] rfl rfl (one_of HT_.out (by kernel_rfl)) (by decide) (fun K hK => ?_)
            refine off_ (by rfl) ?_
            refine hK.out _ _ ?_
            clear hK K
            refine norm_ (a' := ?_) ?_ ?_
            rotate_left
            · show Act.put _ (some 42) _ = _
              simp only [Act.put, List.setIfInBounds_toArray, List.set_cons_zero, List.set_cons_succ, i64_w, i32_w]
              rfl
            refine pure_ (i := 14) (N := some 43) (v := ?_) (a' := ?_) #[true, true, true, true, true, true, true, true, true, true, true, true, true, true, true] rfl rfl (any_of HT_.out (by kernel_rfl)) (fun _ _ _ h => h) (Or.inl ⟨by rfl, ?_⟩) ?_ ?_
            rotate_left
            · intro w'
              go_simp
              with_reducible rfl
            rotate_left
            · simp only [Act.put, List.setIfInBounds_toArray, List.set_cons_zero, List.set_cons_succ, i64_w, i32_w]
              rfl
            refine done_ (done_of HT_.out (by kernel_rfl)) ?_
            skip
            go_wp2_with fail
            go_roundg k1
            case measure => omega
            case rel => exact ⟨j + 1, by go_num, by omega, by have := HK.out; omega, ⟨by rw [HX2.out]; exact Kd.R_drew (Kd.R_below HO.out HW.out)⟩, ⟨HBW.out.drew⟩⟩
          · have hn1 : (idAt ms j == n) = false := beq_eq_false_iff_ne.mpr hne
            have hn2 : (idAt ms j != n) = true := bne_iff_ne.mpr hne
            have HKP : Aside0 (keepP (ms.getD i z64) n (⟨⟨⟨a, b⟩, c, d⟩, idAt ms j⟩ : S64) = inB (⟨⟨⟨ai, bi⟩, ci, di⟩, idAt ms i⟩ : S64) (⟨⟨⟨a, b⟩, c, d⟩, idAt ms j⟩ : S64)) := ⟨by rw [HXI.out]; simp [keepP, hn1]⟩
            clear hne
            go_wp2_with fail
            refine start_ (n := 15) (S := fun w' => w'.cell? ⟨wr.heap.size, 0, none⟩ = some (.int .i64 a) ∧ w'.cell? ⟨wr.heap.size, 1, none⟩ = some (.int .i64 b) ∧ w'.cell? ⟨wr.heap.size, 2, none⟩ = some (.bool c) ∧ w'.cell? ⟨wr.heap.size, 3, none⟩ = some (.bool d) ∧ w'.cell? ⟨wr.heap.size, 4, none⟩ = some (.int .i64 (idAt ms j)) ∧ w'.cell? ⟨g, 0, none⟩ = some (.slice (some ad) ms.length cc) ∧ w'.cell? (ad.add (i * 5)) = some (.int .i64 ai) ∧ w'.cell? ⟨(ad.add (i * 5)).block, (ad.add (i * 5)).off + 1, none⟩ = some (.int .i64 bi) ∧ w'.cell? ⟨(ad.add (i * 5)).block, (ad.add (i * 5)).off + 2, none⟩ = some (.bool ci) ∧ w'.cell? ⟨(ad.add (i * 5)).block, (ad.add (i * 5)).off + 3, none⟩ = some (.bool di) ∧ w'.cell? ⟨(ad.add (i * 5)).block, (ad.add (i * 5)).off + 4, none⟩ = some (.int .i64 (idAt ms i))) (ds := [13]) #[false, false, false, false, false, false, false, false, false, false, false, false, false, false, false] (by kernel_rfl) rfl rfl ⟨(blk_cell (blk_drew XJ.out) 0).trans rfl, (blk_cell (blk_drew XJ.out) 1).trans rfl, (blk_cell (blk_drew XJ.out) 2).trans rfl, (blk_cell (blk_drew XJ.out) 3).trans rfl, (blk_cell (blk_drew XJ.out) 4).trans rfl, (blk_cell (blk_drew HG.out.1) 0).trans rfl, X0.out, X1.out, X2.out, X3.out, X4.out⟩ (fun hHeld => ?_); refine with_tabW parM.tab8 parM.bits8 (fun HT_ HW_ => ?_)
            refine pure_ (i := 0) (N := some 29) (v := ?_) (a' := ?_) #[true, false, false, false, false, false, false, false, false, false, false, false, false, false, false] rfl rfl (any_of HT_.out (by kernel_rfl)) (fun _ _ _ h => h) (Or.inl ⟨by rfl, ?_⟩) ?_ ?_
            rotate_left
            · intro w'
              go_simp
              with_reducible rfl
            rotate_left
            · simp only [Act.put, List.setIfInBounds_toArray, List.set_cons_zero, List.set_cons_succ, i64_w, i32_w]
              rfl
            refine take_ (i := 1) (N := some 30) (v := ?_) (a' := ?_) #[true, true, false, false, false, false, false, false, false, false, false, false, false, false, false] rfl rfl (take_ofW HT_.out HW_.out (by kernel_rfl)) (fun _ _ _ h => h) (Or.inl ⟨by rfl, ?_⟩) hHeld ?_ ?_
            rotate_left
            · rintro w' ⟨s0, s1, s2, s3, s4, s5, s6, s7, s8, s9, s10⟩
              go_simp
              with_reducible rfl
            rotate_left
            · simp only [Act.put, List.setIfInBounds_toArray, List.set_cons_zero, List.set_cons_succ, i64_w, i32_w]
              rfl
            refine pure_ (i := 2) (N := some 31) (v := ?_) (a' := ?_) #[true, true, true, false, false, false, false, false, false, false, false, false, false, false, false] rfl rfl (any_of HT_.out (by kernel_rfl)) (fun _ _ _ h => h) (Or.inl ⟨by rfl, ?_⟩) ?_ ?_
            rotate_left
            · intro w'
              go_simp
              with_reducible rfl
            rotate_left
            · simp only [Act.put, List.setIfInBounds_toArray, List.set_cons_zero, List.set_cons_succ, i64_w, i32_w]
              rfl
            refine pure_ (i := 3) (N := some 32) (v := .bool true) (a' := ?paparM_3_2) #[true, true, true, true, false, false, false, false, false, false, false, false, false, false, false] rfl rfl (any_of HT_.out (by kernel_rfl)) (fun _ _ _ h => h) (Or.inl ⟨by rfl, ?pyparM_3_2⟩) ?peparM_3_2 ?prparM_3_2
            case peparM_3_2 =>
              simp only [Act.put, List.setIfInBounds_toArray, List.set_cons_zero, List.set_cons_succ, i64_w, i32_w]
              rfl
            case pyparM_3_2 =>
              intro w'
              go_simp
            refine pure_ (i := 4) (N := some 33) (v := ?_) (a' := ?_) #[true, true, true, true, true, false, false, false, false, false, false, false, false, false, false] rfl rfl (any_of HT_.out (by kernel_rfl)) (fun _ _ _ h => h) (Or.inl ⟨by rfl, ?_⟩) ?_ ?_
            rotate_left
            · intro w'
              go_simp
              with_reducible rfl
            rotate_left
            · simp only [Act.put, List.setIfInBounds_toArray, List.set_cons_zero, List.set_cons_succ, i64_w, i32_w]
              rfl
            refine pure_ (i := 5) (N := some 34) (v := ?_) (a' := ?_) #[true, true, true, true, true, true, false, false, false, false, false, false, false, false, false] rfl rfl (any_of HT_.out (by kernel_rfl)) (fun _ _ _ h => h) (Or.inl ⟨by rfl, ?_⟩) ?_ ?_
            rotate_left
            · intro w'
              go_simp
              with_reducible rfl
            rotate_left
            · simp only [Act.put, List.setIfInBounds_toArray, List.set_cons_zero, List.set_cons_succ, i64_w, i32_w]
              rfl
            refine pure_ (i := 6) (N := some 35) (v := ?_) (a' := ?_) #[true, true, true, true, true, true, true, false, false, false, false, false, false, false, false] rfl rfl (any_of HT_.out (by kernel_rfl)) (fun _ _ _ h => h) (Or.inl ⟨by rfl, ?_⟩) ?_ ?_
            rotate_left
            · intro w'
              go_simp
              with_reducible rfl
            rotate_left
            · simp only [Act.put, List.setIfInBounds_toArray, List.set_cons_zero, List.set_cons_succ, i64_w, i32_w]
              rfl
            refine pure_ (i := 7) (N := some 36) (v := ?_) (a' := ?_) #[true, true, true, true, true, true, true, true, false, false, false, false, false, false, false] rfl rfl (any_of HT_.out (by kernel_rfl)) (fun _ _ _ h => h) (Or.inl ⟨by rfl, ?_⟩) ?_ ?_
            rotate_left
            · intro w'
              go_simp
              with_reducible rfl
            rotate_left
            · simp only [Act.put, List.setIfInBounds_toArray, List.set_cons_zero, List.set_cons_succ, i64_w, i32_w]
              rfl
            refine take_ (i := 8) (N := some 37) (v := ?_) (a' := ?_) #[true, true, true, true, true, true, true, true, true, false, false, false, false, false, false] rfl rfl (take_ofW HT_.out HW_.out (by kernel_rfl)) (fun _ _ _ h => h) (Or.inl ⟨by rfl, ?_⟩) hHeld ?_ ?_
            rotate_left
            · rintro w' ⟨s0, s1, s2, s3, s4, s5, s6, s7, s8, s9, s10⟩
              go_simp
              with_reducible rfl
            rotate_left
            · simp only [Act.put, List.setIfInBounds_toArray, List.set_cons_zero, List.set_cons_succ, i64_w, i32_w]
              rfl
            refine pure_ (i := 9) (N := some 38) (v := ?_) (a' := ?_) #[true, true, true, true, true, true, true, true, true, true, false, false, false, false, false] rfl rfl (any_of HT_.out (by kernel_rfl)) (fun _ _ _ h => h) (Or.inl ⟨by rfl, ?_⟩) ?_ ?_
            rotate_left
            · intro w'
              go_simp
              with_reducible rfl
            rotate_left
            · simp only [Act.put, List.setIfInBounds_toArray, List.set_cons_zero, List.set_cons_succ, i64_w, i32_w]
              rfl
            refine pure_ (i := 10) (N := some 39) (v := ?_) (a' := ?_) #[true, true, true, true, true, true, true, true, true, true, true, false, false, false, false] rfl rfl (any_of HT_.out (by kernel_rfl)) (fun _ _ _ h => h) (Or.inl ⟨by rfl, ?_⟩) ?_ ?_
            rotate_left
            · intro w'
              go_simp
              with_reducible rfl
            rotate_left
            · simp only [Act.put, List.setIfInBounds_toArray, List.set_cons_zero, List.set_cons_succ, i64_w, i32_w]
              rfl
            refine take_ (i := 11) (N := some 40) (v := ?_) (a' := ?_) #[true, true, true, true, true, true, true, true, true, true, true, true, false, false, false] rfl rfl (take_ofW HT_.out HW_.out (by kernel_rfl)) (fun _ _ _ h => h) (Or.inl ⟨by rfl, ?_⟩) hHeld ?_ ?_
            rotate_left
            · rintro w' ⟨s0, s1, s2, s3, s4, s5, s6, s7, s8, s9, s10⟩
              go_simp
              with_reducible rfl
            rotate_left
            · simp only [Act.put, List.setIfInBounds_toArray, List.set_cons_zero, List.set_cons_succ, i64_w, i32_w]
              rfl
            refine take_ (i := 12) (N := some 41) (v := ?_) (a' := ?_) #[true, true, true, true, true, true, true, true, true, true, true, true, true, false, false] rfl rfl (take_ofW HT_.out HW_.out (by kernel_rfl)) (fun _ _ _ h => h) (Or.inl ⟨by rfl, ?_⟩) hHeld ?_ ?_
            rotate_left
            · rintro w' ⟨s0, s1, s2, s3, s4, s5, s6, s7, s8, s9, s10⟩
              go_simp
              with_reducible rfl
            rotate_left
            · simp only [Act.put, List.setIfInBounds_toArray, List.set_cons_zero, List.set_cons_succ, i64_w, i32_w]
              rfl
            refine last_ (i := 13) (N := some 42) #[true, true, true, true, true, true, true, true, true, true, true, true, true, true, false] rfl rfl (one_of HT_.out (by kernel_rfl)) (by decide) (fun K hK => ?_)
            refine goes_ Try.func32 (by kernel_rfl) rfl #[.agg #[.int .i64 ai, .int .i64 bi, .bool ci, .bool di, .int .i64 (idAt ms i)], .agg #[.int .i64 a, .int .i64 b, .bool c, .bool d, .int .i64 (idAt ms j)]] (by rfl) rfl rfl (by (try simp only [List.map_toArray, List.map_cons, List.map_nil]); first | done | rfl) ?_
            refine (in_calls (⟨⟨⟨ai, bi⟩, ci, di⟩, idAt ms i⟩ : S64) (⟨⟨⟨a, b⟩, c, d⟩, idAt ms j⟩ : S64) _).mono ?_
            rintro e w4 ⟨rfl, hb4⟩
            have HB4 := Aside0.mk (below_then HBW.out.drew HBW.out.size hb4)
            have XJ4 := Aside0.mk (blk_below (blk_drew XJ.out) hb4)
            have HO4 : Aside0 (Ow w4 W.heap.size u8 (parL (ms.getD i z64) n (ms.take j))) := ⟨Kd.R_below (Kd.R_drew (Kd.R_below HO.out HW.out)) hb4⟩
            clear hb4
            refine ⟨_, rfl, ?_⟩
            refine hK.out _ _ ?_
            clear hK K
            refine norm_ (a' := ?_) ?_ ?_
            rotate_left
            · show Act.put _ (some 42) _ = _
              simp only [Act.put, List.setIfInBounds_toArray, List.set_cons_zero, List.set_cons_succ, i64_w, i32_w]
              rfl
            refine pure_ (i := 14) (N := some 43) (v := ?_) (a' := ?_) #[true, true, true, true, true, true, true, true, true, true, true, true, true, true, true] rfl rfl (any_of HT_.out (by kernel_rfl)) (fun _ _ _ h => h) (Or.inl ⟨by rfl, ?_⟩) ?_ ?_
            rotate_left
            · intro w'
              go_simp
              with_reducible rfl
            rotate_left
            · simp only [Act.put, List.setIfInBounds_toArray, List.set_cons_zero, List.set_cons_succ, i64_w, i32_w]
              rfl
            refine done_ (done_of HT_.out (by kernel_rfl)) ?_
            skip
            cases hin : inB (⟨⟨⟨ai, bi⟩, ci, di⟩, idAt ms i⟩ : S64) (⟨⟨⟨a, b⟩, c, d⟩, idAt ms j⟩ : S64) with
            | true =>
              have HX2 : Aside0 (parL (ms.getD i z64) n (ms.take (j + 1)) = parL (ms.getD i z64) n (ms.take j) ++ [(⟨⟨⟨a, b⟩, c, d⟩, idAt ms j⟩ : S64)]) := ⟨by rw [HX.out, if_pos (by rw [HKP.out, hin])]⟩
              clear hin
              obtain ⟨acc, hacc⟩ : ∃ acc, parL (ms.getD i z64) n (ms.take j) = acc := ⟨_, rfl⟩
              rw [hacc] at HO4 HX2 HLE
              have HLT : Aside0 (acc.length ≤ 1000000) := ⟨by have := HLE.out; rw [List.length_take] at this; omega⟩
              have z0 := (blk_cell XJ4.out 0).trans rfl
              have z1 := (blk_cell XJ4.out 1).trans rfl
              have z2 := (blk_cell XJ4.out 2).trans rfl
              have z3 := (blk_cell XJ4.out 3).trans rfl
              have z4 := (blk_cell XJ4.out 4).trans rfl
              clear hacc HO HX
              go_wp2_with ((with_reducible refine gate_builtin (b := .append) (xs := #[.tmp 44, .tmp 46]) rfl ?_); at_builtin; refine Kd.R_append k64 (w0 := W) W.heap.size rfl (.tmp 44) (.tmp 46) 58 64 _ 32 rfl Try.underlying58 info64 (by rfl) (by decide) (by decide) u8 acc (⟨⟨⟨a, b⟩, c, d⟩, idAt ms j⟩ : S64) [.int .i64 a, .int .i64 b, .bool c, .bool d, .int .i64 (idAt ms j)] (fun _ => True) (fun _ => False) rfl rfl ?aP (fun _ hk => hk.elim) ?aF ?aO ?aB ?aS ?aL ?_; (case aP => exact k64_mkM _ _ _ (⟨⟨⟨a, b⟩, c, d⟩, idAt ms j⟩ : S64)); (case aF => exact fun _ _ => trivial); (case aO => exact HO4.out); (case aB => exact HB4.out); (case aS => exact HB4.out.size); (case aL => have := HLT.out; omega); intro v3 w3 ho hb hg hat; have HO3 := Aside0.mk ho; have HG3 := Aside0.mk hg; have HB3 := Aside0.mk hb; clear ho hb hg hat)
              go_roundg k1
              case measure => omega
              case rel => exact ⟨j + 1, by go_num, by omega, by have := HK.out; omega, ⟨by rw [HX2.out]; exact HO3.out⟩, HB3⟩
            | false =>
              have HX2 : Aside0 (parL (ms.getD i z64) n (ms.take (j + 1)) = parL (ms.getD i z64) n (ms.take j)) := ⟨by rw [HX.out, if_neg (by rw [HKP.out, hin]; decide), List.append_nil]⟩
              clear hin
              go_wp2_with fail
              go_roundg k1
              case measure => omega
              case rel => exact ⟨j + 1, by go_num, by omega, by have := HK.out; omega, ⟨by rw [HX2.out]; exact HO4.out⟩, HB4⟩
      · obtain rfl : j = ms.length := by omega
        obtain ⟨acc, hacc⟩ : ∃ acc, parL (ms.getD i z64) n ms = acc := ⟨_, rfl⟩
        have HACC := Aside0.mk hacc
        have HO2 : Aside0 (Ow wr W.heap.size u8 acc) := ⟨by have := HO.out; rwa [List.take_length, hacc] at this⟩
        have hal : acc.length ≤ ms.length := by rw [← hacc]; exact parL_le _ _ _
        have hmy : acc.all mayX = true := by rw [← hacc]; exact parL_may _ _ _ HMAY.out
        obtain ⟨A8, c8, rfl, hl8, hr8⟩ := Kd.R_reads HO2.out
        rcases acc with _ | ⟨z, zs⟩
        · have hz : (List.length ([] : List S64)) = 0 := rfl
          have HE : Aside0 (parR (ms.getD i z64) n ms = 0) := ⟨by unfold parR; rw [HACC.out]⟩
          clear hacc hmy hr8
          go_wp2_with fail
          go_ret2
          exact ⟨i, HL.out, HB.out, .inr ⟨HH.out, by rw [HE.out]; rfl⟩⟩
        · have HR8 := Aside0.mk hr8
          have HMY := Aside0.mk hmy
          have HE : Aside0 (parR (ms.getD i z64) n ms = (minF z zs).f1) := ⟨by unfold parR; rw [HACC.out]⟩
          obtain ⟨k, hk⟩ : ∃ k, (z :: zs).length = k := ⟨_, rfl⟩
          have HKL := Aside0.mk hk
          have hk0 : ((k : Int) == 0) = false := beq_eq_false_iff_ne.mpr (by rw [← hk]; simp; omega)
          have hk1 : k ≠ 0 := by rw [← hk]; simp
          rw [hk] at hal hl8 ⊢
          clear hacc hmy hr8 hk HACC HO HO2
          go_wp2_with fail
          have hmc := min_calls z zs A8 c8 wr HR8.out (by have := HKL.out; omega) HMY.out
          rw [HKL.out] at hmc
          refine hmc.mono ?_
          rintro e w5 ⟨rfl, hb5⟩
          have HB5 := Aside0.mk (below_then HB.out HB.out.size hb5)
          clear hmc hb5
          go_wp2_with fail
          go_ret2
          exact ⟨i, HL.out, below_alloc HB5.out _, .inr ⟨HH.out, by rw [HE.out]; rfl⟩⟩
end Go.Proofs.Ytbeoillppkcpmaa.Mark
