/- slices.MinFunc with that function value answers the nearest range. For ranges that may be, at least one. -/
import Derived.Laws.Cover3
import Derived.Test.YtbeoillppkcpmaaMarkL
namespace Go.Proofs.Ytbeoillppkcpmaa.Mark
open Go.RowKit Go.Proofs.YtbeoillppkcpmaaW.PrintWords Go.Proofs.YtbeoillppkcpmaaW.PrintLast Go.Proofs.YtbeoillppkcpmaaW.PrintMore Go.Proofs.Ytbeoillppkcpmaa.PMarksPlay
attribute [local go_sem] max2_int min2_int max_two min_two max_three min_three max_four min_four
set_option linter.unusedVariables false
set_option linter.unusedSimpArgs false
def minM.T7 : Bool × List (List Nat × List Nat) := (true, [([], []), ([], []), ([], []), ([1, 2], [1, 2]), ([3], [3]), ([], []), ([0, 4, 5], [0, 4, 5]), ([6], [6])])
def minM.B7 : List Nat := [0, 0, 0, 6, 14, 0, 63, 127]
theorem minM.tab7 : rtab .any (opsOf Try.f33 7) = minM.T7 := by kernel_rfl
theorem minM.bits7 : waitsOk minM.T7.2 minM.B7 = true := by kernel_rfl

section
variable {P : Program} {ops : Array Oper} {Q : Exit → Act → World → Prop}
/-- A call of a function value that holds nothing. -/
theorem goesV_ {oi : Oper} {N : Option Tmp} {a : Act} {w : World} {K : Act → World → Prop} {f : FuncId} {fn : Func} {o : Operand} {az : Array Operand} {ts : Array TypeId} (hf : P.funcs[f]? = some fn) (hname : (fn.name == "runtime.NumGoroutine") = false) (hb : fn.body.isSome = true) (args : Array Value)
    (hw : Region.wanted oi (yielded ops a.tmps) = true) (hN : oi.dst = N) (hop : oi.op = .call { callee := .value o, args := az, argTypes := ts }) (ho : a.eval o = .func (.func f) #[] #[]) (hargs : az.map a.eval = args)
    (h : Calls P f args w fun e w' => ∃ v, e = .returned v ∧ K (a.put N v) w') : if Region.wanted oi (yielded ops a.tmps) = true then Oper.wp P oi a w K Q else K (a.put N undef) w := by
  refine call_ f args hw hN ?_ h
  have he := enters_ hf hname hb args w
  unfold execOp
  simp [hop, resolve, Deferred.ofValue, invoke, ho, hargs, he]
end
/-! ### slices.MinFunc with it -/
def near (x m : S64) : Bool := decide (firstNZ [cmpI (x.f0.f0.f1 - x.f0.f0.f0) (m.f0.f0.f1 - m.f0.f0.f0), cmpI m.f0.f0.f0 x.f0.f0.f0, cmpI m.f1 x.f1] < 0)
def minF (m : S64) : List S64 → S64
  | [] => m
  | x :: l => minF (if near x m = true then x else m) l
theorem minF_snoc (l : List S64) : ∀ (m x : S64), minF m (l ++ [x]) = if near x (minF m l) = true then x else minF m l := by
  induction l with
  | nil => intro m x; rfl
  | cons y l ih => intro m x; exact ih _ x
theorem minF_mem (l : List S64) : ∀ m, minF m l = m ∨ minF m l ∈ l := by
  induction l with
  | nil => intro m; exact .inl rfl
  | cons y l ih =>
    intro m
    rcases ih (if near y m = true then y else m) with h | h
    · by_cases hn : near y m = true
      · rw [if_pos hn] at h
        exact .inr (by rw [minF, if_pos hn, h]; exact List.mem_cons_self)
      · rw [if_neg hn] at h
        exact .inl (by rw [minF, if_neg hn, h])
    · exact .inr (List.mem_cons_of_mem _ h)
set_option maxHeartbeats 4000000 in
set_option maxRecDepth 10000 in
theorem min_calls (x0 : S64) (xs : List S64) (A : Option Addr) (c : Nat) (W : World) (hr : Kd.C k64 W A (x0 :: xs).length (x0 :: xs)) (hl : (x0 :: xs).length ≤ 100000) (hmay : (x0 :: xs).all mayX = true) :
    Calls Try.prog 33 #[.slice A (x0 :: xs).length c, .func (.func 34) #[] #[]] W fun e w' => e = .returned (.agg #[.int .i64 (minF x0 xs).f0.f0.f0, .int .i64 (minF x0 xs).f0.f0.f1, .bool (minF x0 xs).f0.f1, .bool (minF x0 xs).f0.f2, .int .i64 (minF x0 xs).f1]) ∧ Below W.heap.size W w' := by
  have HR := Aside0.mk hr
  have HMAY := Aside0.mk hmay
  obtain ⟨ad, a, b, cc, d, rfl, hx, y0, y1, y2, y3, y4⟩ := at_item (Kd.C_below hr (below_alloc (Below.refl _ _) (.cells #[.int .i64 0, .int .i64 0, .bool false, .bool false, .int .i64 0] 64))) 0 (by simp)
  rw [show ad.add (0 * 5) = ad from by simp [Addr.add]] at y0 y1 y2 y3 y4
  obtain ⟨n, hn⟩ : ∃ n, (x0 :: xs).length = n := ⟨_, rfl⟩
  have hn0 : 0 < n := by rw [← hn]; simp
  have hn1 : decide ((n : Int) < 1) = false := decide_eq_false (by rw [← hn]; simp; omega)
  have HN := Aside0.mk hn
  rw [hn] at hl ⊢
  have HX0 : Aside0 (x0 = ⟨⟨⟨a, b⟩, cc, d⟩, idAt (x0 :: xs) 0⟩) := ⟨by simpa using hx⟩
  clear hr hmay hn hx
  go_enter Try.func33, Try.ntmps33
  go_wp2_with fail
  have e0 : x0.f0.f0.f0 = a := by rw [HX0.out]
  have e1 : x0.f0.f0.f1 = b := by rw [HX0.out]
  have e2 : x0.f0.f1 = cc := by rw [HX0.out]
  have e3 : x0.f0.f2 = d := by rw [HX0.out]
  have e4 : x0.f1 = idAt (x0 :: xs) 0 := rfl
  have XB : Aside0 (((W.alloc (.cells #[.int .i64 0, .int .i64 0, .bool false, .bool false, .int .i64 0] 64)).alloc (.cells #[.int .i64 a, .int .i64 b, .bool cc, .bool d, .int .i64 (idAt (x0 :: xs) 0)] 64)).heap[W.heap.size + 1]? = some (.cells #[.int .i64 x0.f0.f0.f0, .int .i64 x0.f0.f0.f1, .bool x0.f0.f1, .bool x0.f0.f2, .int .i64 x0.f1] 64)) := ⟨by rw [e0, e1, e2, e3, e4]; simpa using blk_new (W.alloc (.cells #[.int .i64 0, .int .i64 0, .bool false, .bool false, .int .i64 0] 64)) _⟩
  have XZ : Aside0 (((W.alloc (.cells #[.int .i64 0, .int .i64 0, .bool false, .bool false, .int .i64 0] 64)).alloc (.cells #[.int .i64 a, .int .i64 b, .bool cc, .bool d, .int .i64 (idAt (x0 :: xs) 0)] 64)).heap[W.heap.size]? = some (.cells #[.int .i64 0, .int .i64 0, .bool false, .bool false, .int .i64 0] 64)) := ⟨blk_alloc (blk_new W _) _⟩
  have XW : Aside0 (Below W.heap.size W ((W.alloc (.cells #[.int .i64 0, .int .i64 0, .bool false, .bool false, .int .i64 0] 64)).alloc (.cells #[.int .i64 a, .int .i64 b, .bool cc, .bool d, .int .i64 (idAt (x0 :: xs) 0)] 64))) := ⟨below_alloc (below_alloc (Below.refl _ _) _) _⟩
  clear y0 y1 y2 y3 y4 e0 e1 e2 e3 e4
  go_loopg [6] n (fun kq v6 wr => ∃ (j : Nat) (m : S64), v6 = .int .i64 (j : Int) ∧ 1 ≤ j ∧ j ≤ n ∧ kq + j = n + 1 ∧ Aside0 (m = minF x0 (xs.take (j - 1))) ∧ Aside0 (wr.heap[W.heap.size + 1]? = some (.cells #[.int .i64 m.f0.f0.f0, .int .i64 m.f0.f0.f1, .bool m.f0.f1, .bool m.f0.f2, .int .i64 m.f1] 64)) ∧ Aside0 (wr.heap[W.heap.size]? = some (.cells #[.int .i64 0, .int .i64 0, .bool false, .bool false, .int .i64 0] 64)) ∧ Aside0 (Below W.heap.size W wr))
  case atStart => exact ⟨1, x0, rfl, by omega, by omega, by omega, ⟨rfl⟩, XB, XZ, XW⟩
  case round =>
    obtain ⟨j, m, rfl, hj1, hj, hk, HME, HM, HZ, HB⟩ := hrel
    have HK := Aside0.mk hk
    clear hk
    have HMAYM : Aside0 (mayB m.f0.f0.f0 m.f0.f0.f1 = true) := ⟨by
      have : mayX m = true := List.all_eq_true.1 HMAY.out m (by
        rw [HME.out]
        rcases minF_mem (xs.take (j - 1)) x0 with h | h
        · rw [h]; exact List.mem_cons_self
        · exact List.mem_cons_of_mem _ (List.mem_of_mem_take h))
      exact this⟩
    by_cases hlt : j < n
    · have hlt' : j < (x0 :: xs).length := by rw [HN.out]; exact hlt
      obtain ⟨ad', he, z0, z1, z2, z3, z4⟩ := at_T64 (Kd.C_below HR.out HB.out) (j : Int) (by omega) (by omega)
      injection he with he
      subst he
      rw [Int.toNat_natCast] at z0 z1 z2 z3 z4
      have hxe : rd_T64 (x0 :: xs) (j : Int) = (x0 :: xs)[j] := by simp [rd_T64, List.getD_eq_getElem?_getD, List.getElem?_eq_getElem hlt']
      rw [hxe] at z0 z1 z2 z3 z4
      obtain ⟨x, hx⟩ : ∃ x, (x0 :: xs)[j] = x := ⟨_, rfl⟩
      have hmem : x ∈ x0 :: xs := by rw [← hx]; exact List.getElem_mem hlt'
      have HMX : Aside0 (mayB x.f0.f0.f0 x.f0.f0.f1 = true) := ⟨List.all_eq_true.1 HMAY.out x hmem⟩
      have HMM := HMAYM
      have HSN : Aside0 (minF x0 (xs.take (j + 1 - 1)) = if near x m = true then x else m) := ⟨by
        obtain ⟨q, rfl⟩ : ∃ q, j = q + 1 := ⟨j - 1, by omega⟩
        have hq : q < xs.length := by simpa using hlt'
        have hxq : xs[q] = x := by rw [← hx]; rfl
        rw [show q + 1 + 1 - 1 = q + 1 from by omega, List.take_succ_eq_append_getElem hq, minF_snoc, hxq, HME.out, show q + 1 - 1 = q from by omega]⟩
      rw [hx] at z0 z1 z2 z3 z4
      have HXE : Aside0 (rd_T64 (x0 :: xs) (j : Int) = x) := ⟨hxe.trans hx⟩
      have Y0 := Aside0.mk z0
      have Y1 := Aside0.mk z1
      have Y2 := Aside0.mk z2
      have Y3 := Aside0.mk z3
      have Y4 := Aside0.mk z4
      clear z0 z1 z2 z3 z4 hmem hxe hx hlt'
      cases gk with
      | zero => exact absurd HK.out (by omega)
      | succ k1 =>
        go_wp2_with fail
        refine start_ (n := 8) (S := fun w' => w'.cell? (ad.add (j * 5)) = some (.int .i64 x.f0.f0.f0) ∧ w'.cell? ⟨(ad.add (j * 5)).block, (ad.add (j * 5)).off + 1, none⟩ = some (.int .i64 x.f0.f0.f1) ∧ w'.cell? ⟨(ad.add (j * 5)).block, (ad.add (j * 5)).off + 2, none⟩ = some (.bool x.f0.f1) ∧ w'.cell? ⟨(ad.add (j * 5)).block, (ad.add (j * 5)).off + 3, none⟩ = some (.bool x.f0.f2) ∧ w'.cell? ⟨(ad.add (j * 5)).block, (ad.add (j * 5)).off + 4, none⟩ = some (.int .i64 x.f1) ∧ w'.cell? ⟨W.heap.size + 1, 0, none⟩ = some (.int .i64 m.f0.f0.f0) ∧ w'.cell? ⟨W.heap.size + 1, 1, none⟩ = some (.int .i64 m.f0.f0.f1) ∧ w'.cell? ⟨W.heap.size + 1, 2, none⟩ = some (.bool m.f0.f1) ∧ w'.cell? ⟨W.heap.size + 1, 3, none⟩ = some (.bool m.f0.f2) ∧ w'.cell? ⟨W.heap.size + 1, 4, none⟩ = some (.int .i64 m.f1)) (ds := [6]) #[false, false, false, false, false, false, false, false] (by kernel_rfl) rfl rfl ⟨Y0.out, Y1.out, Y2.out, Y3.out, Y4.out, (blk_cell (blk_drew HM.out) 0).trans rfl, (blk_cell (blk_drew HM.out) 1).trans rfl, (blk_cell (blk_drew HM.out) 2).trans rfl, (blk_cell (blk_drew HM.out) 3).trans rfl, (blk_cell (blk_drew HM.out) 4).trans rfl⟩ (fun hHeld => ?_); refine with_tabW minM.tab7 minM.bits7 (fun HT_ HW_ => ?_)
        refine pure_ (i := 0) (N := some 20) (v := ?_) (a' := ?_) #[true, false, false, false, false, false, false, false] rfl rfl (any_of HT_.out (by kernel_rfl)) (fun _ _ _ h => h) (Or.inl ⟨by rfl, ?_⟩) ?_ ?_
        rotate_left
        · intro w'
          go_simp
          with_reducible rfl
        rotate_left
        · simp only [Act.put, List.setIfInBounds_toArray, List.set_cons_zero, List.set_cons_succ, i64_w, i32_w]
          rfl
        refine pure_ (i := 1) (N := some 21) (v := ?_) (a' := ?_) #[true, true, false, false, false, false, false, false] rfl rfl (any_of HT_.out (by kernel_rfl)) (fun _ _ _ h => h) (Or.inl ⟨by rfl, ?_⟩) ?_ ?_
        rotate_left
        · intro w'
          go_simp
          with_reducible rfl
        rotate_left
        · simp only [Act.put, List.setIfInBounds_toArray, List.set_cons_zero, List.set_cons_succ, i64_w, i32_w]
          rfl
        refine pure_ (i := 2) (N := some 22) (v := ?_) (a' := ?_) #[true, true, true, false, false, false, false, false] rfl rfl (any_of HT_.out (by kernel_rfl)) (fun _ _ _ h => h) (Or.inl ⟨by rfl, ?_⟩) ?_ ?_
        rotate_left
        · intro w'
          go_simp
          with_reducible rfl
        rotate_left
        · simp only [Act.put, List.setIfInBounds_toArray, List.set_cons_zero, List.set_cons_succ, i64_w, i32_w]
          rfl
        refine pure_ (i := 3) (N := some 23) (v := ?_) (a' := ?_) #[true, true, true, true, false, false, false, false] rfl rfl (any_of HT_.out (by kernel_rfl)) (fun _ _ _ h => h) (Or.inl ⟨by rfl, ?_⟩) ?_ ?_
        rotate_left
        · intro w'
          go_simp
          with_reducible rfl
        rotate_left
        · simp only [Act.put, List.setIfInBounds_toArray, List.set_cons_zero, List.set_cons_succ, i64_w, i32_w]
          rfl
        refine take_ (i := 4) (N := some 24) (v := ?_) (a' := ?_) #[true, true, true, true, true, false, false, false] rfl rfl (take_ofW HT_.out HW_.out (by kernel_rfl)) (fun _ _ _ h => h) (Or.inl ⟨by rfl, ?_⟩) hHeld ?_ ?_
        rotate_left
        · rintro w' ⟨s0, s1, s2, s3, s4, s5, s6, s7, s8, s9⟩
          go_simp
          with_reducible rfl
        rotate_left
        · simp only [Act.put, List.setIfInBounds_toArray, List.set_cons_zero, List.set_cons_succ, i64_w, i32_w]
          rfl
        refine take_ (i := 5) (N := some 25) (v := ?_) (a' := ?_) #[true, true, true, true, true, true, false, false] rfl rfl (take_ofW HT_.out HW_.out (by kernel_rfl)) (fun _ _ _ h => h) (Or.inl ⟨by rfl, ?_⟩) hHeld ?_ ?_
        rotate_left
        · rintro w' ⟨s0, s1, s2, s3, s4, s5, s6, s7, s8, s9⟩
          go_simp
          with_reducible rfl
        rotate_left
        · simp only [Act.put, List.setIfInBounds_toArray, List.set_cons_zero, List.set_cons_succ, i64_w, i32_w]
          rfl
        refine last_ (i := 6) (N := some 26) #[true, true, true, true, true, true, true, false] rfl rfl (one_of HT_.out (by kernel_rfl)) (by decide) (fun K hK => ?_)
        refine goesV_ Try.func34 (by kernel_rfl) rfl #[.agg #[.int .i64 x.f0.f0.f0, .int .i64 x.f0.f0.f1, .bool x.f0.f1, .bool x.f0.f2, .int .i64 x.f1], .agg #[.int .i64 m.f0.f0.f0, .int .i64 m.f0.f0.f1, .bool m.f0.f1, .bool m.f0.f2, .int .i64 m.f1]] (by rfl) rfl rfl (by rfl) (by (try simp only [List.map_toArray, List.map_cons, List.map_nil]); first | done | rfl) ?_
        refine (par1_calls _ _ _ _ _ _ _ _ _ _ _ HMX.out HMM.out).mono ?_
        rintro e w4 ⟨rfl, hb4⟩
        have HB4 := Aside0.mk (below_then HB.out.drew HB.out.size hb4)
        have HM4 := Aside0.mk (blk_below (blk_drew HM.out) hb4)
        have HZ4 := Aside0.mk (blk_below (blk_drew HZ.out) hb4)
        clear hb4
        refine ⟨_, rfl, ?_⟩
        refine hK.out _ _ ?_
        clear hK K
        refine norm_ (a' := ?_) ?_ ?_
        rotate_left
        · show Act.put _ (some 26) _ = _
          simp only [Act.put, List.setIfInBounds_toArray, List.set_cons_zero, List.set_cons_succ, i64_w, i32_w]
          rfl
        refine pure_ (i := 7) (N := some 27) (v := ?_) (a' := ?_) #[true, true, true, true, true, true, true, true] rfl rfl (any_of HT_.out (by kernel_rfl)) (fun _ _ _ h => h) (Or.inl ⟨by rfl, ?_⟩) ?_ ?_
        rotate_left
        · intro w'
          go_simp
          with_reducible rfl
        rotate_left
        · simp only [Act.put, List.setIfInBounds_toArray, List.set_cons_zero, List.set_cons_succ, i64_w, i32_w]
          rfl
        refine done_ (done_of HT_.out (by kernel_rfl)) ?_
        skip
        cases hnr : near x m with
        | true =>
          have hnb : firstNZ [cmpI (x.f0.f0.f1 - x.f0.f0.f0) (m.f0.f0.f1 - m.f0.f0.f0), cmpI m.f0.f0.f0 x.f0.f0.f0, cmpI m.f1 x.f1] < 0 := of_decide_eq_true hnr
          have HS2 : Aside0 (x = minF x0 (xs.take (j + 1 - 1))) := ⟨by rw [HSN.out, if_pos hnr]⟩
          clear hnr
          obtain ⟨ad', he, z0, z1, z2, z3, z4⟩ := at_T64 (Kd.C_below HR.out HB4.out) (j : Int) (by omega) (by have := HN.out; omega)
          injection he with he
          subst he
          rw [Int.toNat_natCast] at z0 z1 z2 z3 z4
          rw [HXE.out] at z0 z1 z2 z3 z4
          have f0 := blk_frozen HM4.out 0
          have f1 := blk_frozen HM4.out 1
          have f2 := blk_frozen HM4.out 2
          have f3 := blk_frozen HM4.out 3
          have f4 := blk_frozen HM4.out 4
          have x0' := (blk_cell HM4.out 0).trans rfl
          have x1' := (blk_cell HM4.out 1).trans rfl
          have x2' := (blk_cell HM4.out 2).trans rfl
          have x3' := (blk_cell HM4.out 3).trans rfl
          have x4' := (blk_cell HM4.out 4).trans rfl
          go_wp2_with fail
          go_roundg k1
          case measure => omega
          case rel => exact ⟨j + 1, x, by go_num, by omega, by omega, by have := HK.out; omega, HS2, ⟨blk_put (blk_put (blk_put (blk_put (blk_put HM4.out 0 (.int .i64 x.f0.f0.f0) rfl) 1 (.int .i64 x.f0.f0.f1) rfl) 2 (.bool x.f0.f1) rfl) 3 (.bool x.f0.f2) rfl) 4 (.int .i64 x.f1) rfl⟩, ⟨by
            have hne : W.heap.size ≠ W.heap.size + 1 := by omega
            exact blk_far (blk_far (blk_far (blk_far (blk_far HZ4.out hne _) hne _) hne _) hne _) hne _⟩, ⟨by
            have hge : W.heap.size ≤ W.heap.size + 1 := by omega
            exact ((((HB4.out.setCell hge _).setCell hge _).setCell hge _).setCell hge _).setCell hge _⟩⟩
        | false =>
          have hnb : ¬ (firstNZ [cmpI (x.f0.f0.f1 - x.f0.f0.f0) (m.f0.f0.f1 - m.f0.f0.f0), cmpI m.f0.f0.f0 x.f0.f0.f0, cmpI m.f1 x.f1] < 0) := of_decide_eq_false hnr
          have HS2 : Aside0 (m = minF x0 (xs.take (j + 1 - 1))) := ⟨by rw [HSN.out, if_neg (by rw [hnr]; decide)]⟩
          clear hnr
          go_wp2_with fail
          go_roundg k1
          case measure => omega
          case rel => exact ⟨j + 1, m, by go_num, by omega, by omega, by have := HK.out; omega, HS2, HM4, HZ4, HB4⟩
    · obtain rfl : j = n := by omega
      have f0 := blk_frozen HZ.out 0
      have f1 := blk_frozen HZ.out 1
      have f2 := blk_frozen HZ.out 2
      have f3 := blk_frozen HZ.out 3
      have f4 := blk_frozen HZ.out 4
      have z0 := (blk_cell HZ.out 0).trans rfl
      have z1 := (blk_cell HZ.out 1).trans rfl
      have z2 := (blk_cell HZ.out 2).trans rfl
      have z3 := (blk_cell HZ.out 3).trans rfl
      have z4 := (blk_cell HZ.out 4).trans rfl
      have m0 := (blk_cell HM.out 0).trans rfl
      have m1 := (blk_cell HM.out 1).trans rfl
      have m2 := (blk_cell HM.out 2).trans rfl
      have m3 := (blk_cell HM.out 3).trans rfl
      have m4 := (blk_cell HM.out 4).trans rfl
      have HE : Aside0 (minF x0 xs = m) := ⟨by
        have hxl : xs.length = j - 1 := by have := HN.out; rw [List.length_cons] at this; omega
        rw [HME.out, ← hxl, List.take_length]⟩
      go_wp2_with fail
      refine bodyPost_ret (results_cell_row rfl _ _ W.heap.size 64 #[.int .i64 m.f0.f0.f0, .int .i64 m.f0.f0.f1, .bool m.f0.f1, .bool m.f0.f2, .int .i64 m.f1] (0, 0) _ rfl ?_ Try.underlying64 rfl (by kernel_rfl)) rfl ⟨by rw [HE.out], ?_⟩
      · exact blk_put (blk_put (blk_put (blk_put (blk_put HZ.out 0 (.int .i64 m.f0.f0.f0) rfl) 1 (.int .i64 m.f0.f0.f1) rfl) 2 (.bool m.f0.f1) rfl) 3 (.bool m.f0.f2) rfl) 4 (.int .i64 m.f1) rfl
      · exact ((((HB.out.setCell (Nat.le_refl _) _).setCell (Nat.le_refl _) _).setCell (Nat.le_refl _) _).setCell (Nat.le_refl _) _).setCell (Nat.le_refl _) _
end Go.Proofs.Ytbeoillppkcpmaa.Mark
