import Derived.Laws.Cover3
import Derived.Test.YtepcdjkpmchobaaRopeY
namespace Go.Proofs.Ytepcdjkpmchobaa.Rope
open Go.RowKit Go.Proofs.YtepcdjkpmchobaaW.PrintWords Go.Proofs.YtepcdjkpmchobaaW.PrintLast Go.Proofs.YtepcdjkpmchobaaW.PrintMore
attribute [local go_sem] max2_int min2_int max_two min_two max_three min_three max_four min_four
set_option linter.unusedVariables false
set_option linter.unusedSimpArgs false

theorem RopeIs.len {base g : Nat} {v : Value} {t : List Int} {W : World} (h : RopeIs base W g v t) : t.length ≤ 2000 := by
  obtain ⟨ns, root, _, _, _, h4⟩ := h
  exact h4
theorem Sty.mvR {base g : Nat} {v v' : Value} {t s : List Int} {W W1 : World} {A : Option Addr} (h : Sty base W A t) (hR : RopeIs base W g v s) (m : Mv base g v v' W W1) : Sty base W1 A t := by
  obtain ⟨ns, root, h1, _⟩ := hR
  exact h.mv h1 m
theorem insF_len (t : List Int) (p : Int) (l : List Int) (h : t.length ≤ 2000) : (insF t p l).1.length ≤ 2000 := by
  unfold insF
  split
  · exact h
  · split
    · exact h
    · simp only [List.length_append, List.length_take, List.length_drop]
      omega
theorem delF_len (t : List Int) (a b : Int) (h : t.length ≤ 2000) : (delF t a b).1.length ≤ 2000 := by
  unfold delF
  split
  · exact h
  · rename_i hb
    obtain ⟨h1, h2, h3⟩ := btw_true (by simpa using hb)
    simp only [List.length_append, List.length_take, List.length_drop]
    omega
theorem RefR.sty {base : Nat} {A A' : Option Addr} {c c' : Nat} {t r : List Int} {W w' : World} (h : (A' = A ∧ c' = c ∧ r = t) ∨ TextAt w' A' r) (hs : Sty base W A t) (hb : Below W.heap.size W w') (hB : base ≤ W.heap.size) (hl : r.length ≤ 2000) : Sty base w' A' r := by
  rcases h with ⟨rfl, _, rfl⟩ | h
  · exact hs.below hb hB
  · exact Sty.text h (by omega)
set_option maxHeartbeats 16000000 in
set_option maxRecDepth 100000 in
theorem plays_calls (l : List Int) (A : Option Addr) (c : Nat) (ds : List Leaf.S43) (B : Option Addr) (d : Nat) (W : World) (hl : RI W A l) (hc : l.length ≤ c) (hm : Kd.C Leaf.k43 W B ds.length ds) (hd : ds.length ≤ d) (hn : ds.length ≤ 9223372036854775807) :
    Calls Try.prog 4 #[.slice A l.length c, .slice B ds.length d] W fun e w' => e = .returned (.bool true) ∧ Below W.heap.size W w' := by
  have HL := Aside0.mk hl
  have HM := Aside0.mk hm
  have HC := Aside0.mk hc
  have HD := Aside0.mk hd
  have hmax1 := Kd.C_max hl
  clear hl hm hc hd
  by_cases c1 : (2500 : Int) < l.length
  · have c1b : decide ((2500 : Int) < l.length) = true := decide_eq_true c1
    have HB : Aside0 (Below W.heap.size W W) := ⟨Below.refl _ _⟩
    go_enter Try.func4, Try.ntmps4
    go_wp2_with fail
    refine (knows_calls _).mono ?_
    rintro e w9 ⟨rfl, hb9⟩
    go_wp2_with fail
    go_ret
    exact ⟨rfl, below_then HB.out HB.out.size hb9⟩
  have c1b : decide ((2500 : Int) < l.length) = false := decide_eq_false c1
  by_cases c2 : fewF ds = false
  · go_enter Try.func4, Try.ntmps4
    go_wp2_with fail
    refine (few_ref ds B d _ HM.out HD.out hn).mono ?_
    rintro e w1 ⟨rfl, hb1⟩
    have HB := Aside0.mk hb1
    clear hb1
    go_wp2_with fail
    refine (knows_calls _).mono ?_
    rintro e w9 ⟨rfl, hb9⟩
    go_wp2_with fail
    go_ret
    exact ⟨rfl, below_then HB.out HB.out.size hb9⟩
  have c2b : fewF ds = true := by simpa using c2
  clear c2
  have hfew : ds.length ≤ 40 ∧ ∀ x ∈ ds, x.f3.length ≤ 2500 := by
    unfold fewF at c2b
    rw [Bool.and_eq_true, decide_eq_true_eq, List.all_eq_true] at c2b
    exact ⟨c2b.2, fun x hx => of_decide_eq_true (c2b.1 x hx)⟩
  have HF := Aside0.mk hfew.2
  have hds := hfew.1
  clear hfew
  go_enter Try.func4, Try.ntmps4
  go_wp2_with fail
  refine (few_ref ds B d _ HM.out HD.out hn).mono ?_
  rintro e w1 ⟨rfl, hb1⟩
  have HB1 := Aside0.mk hb1
  clear hb1
  go_wp2_with fail
  refine (of_calls W.heap.size l A c _ (Sty.came HL.out HB1.out) HC.out HB1.out.size).mono ?_
  rintro e w2 ⟨hb2, hq⟩
  have HB2 := Aside0.mk (below_then HB1.out HB1.out.size hb2)
  clear hb2
  rcases hq with ⟨h1, rfl⟩ | ⟨h1, h2, rfl⟩ | ⟨h1, h2, g, v, rfl, hR, hg⟩
  · have E : Aside0 (rightF l = 1) := ⟨by unfold rightF; rw [if_pos h1]⟩
    clear h1
    go_wp2_with fail
    refine (right_ref l A c _ (HL.out.below HB2.out) HC.out).mono ?_
    rintro e w3 ⟨rfl, hb3⟩
    rw [E.out]
    have HB := Aside0.mk (below_then HB2.out HB2.out.size hb3)
    clear hb3
    go_wp2_with fail
    refine (knows_calls _).mono ?_
    rintro e w9 ⟨rfl, hb9⟩
    go_wp2_with fail
    go_ret
    exact ⟨rfl, below_then HB.out HB.out.size hb9⟩
  · have E : Aside0 (rightF l = 3) := ⟨by unfold rightF; rw [if_neg (by simp [h1]), if_pos h2]⟩
    clear h1 h2
    go_wp2_with fail
    refine (right_ref l A c _ (HL.out.below HB2.out) HC.out).mono ?_
    rintro e w3 ⟨rfl, hb3⟩
    rw [E.out]
    have HB := Aside0.mk (below_then HB2.out HB2.out.size hb3)
    clear hb3
    go_wp2_with fail
    refine (knows_calls _).mono ?_
    rintro e w9 ⟨rfl, hb9⟩
    go_wp2_with fail
    go_ret
    exact ⟨rfl, below_then HB.out HB.out.size hb9⟩
  have E : Aside0 (rightF l = 0) := ⟨by unfold rightF; rw [if_neg (by simp [h1]), if_neg (by omega)]⟩
  have HR2 := Aside0.mk hR
  clear h1 hg hR
  go_wp2_with fail
  refine (right_ref l A c _ (HL.out.below HB2.out) HC.out).mono ?_
  rintro e w3 ⟨rfl, hb3⟩
  rw [E.out]
  have HB3 := Aside0.mk (below_then HB2.out HB2.out.size hb3)
  have HR3 := Aside0.mk (HR2.out.below hb3)
  have HO3 := Aside0.mk (own_less (own_new w3) HB3.out.size)
  have HW3 := Aside0.mk (below_alloc HB3.out (.cells #[] 21))
  clear hb3
  go_wp2_with ((with_reducible refine gate_builtin (b := .append) (xs := #[.tmp 53, .tmp 54]) rfl ?_); at_builtin; refine print_append_row (w0 := w3.alloc (.cells #[] 21)) w3.heap.size rfl (.tmp 53) (.tmp 54) 22 21 .i32 4 rfl Try.underlying22 info21 (by decide) (.slice (some ⟨w3.heap.size, 0, none⟩) 0 0) [] l A l.length c rfl rfl ?aO ?aR ?aB ?aS ?aL ?_; (case aO => exact own_new w3); (case aR => exact Kd.reads_of_C (d := (0 : Int)) (HL.out.below HW3.out)); (case aB => exact Below.refl _ _); (case aS => exact (below_alloc (Below.refl w3.heap.size w3) _).size); (case aL => simp only [List.length_nil]; omega); intro v4 w4 ho hb4 hg4 hat4; have HO4 := Aside0.mk ho; have HB4 := Aside0.mk ((below_alloc (Below.refl w3.heap.size w3) (.cells #[] 21)).trans hb4); obtain ⟨A7, c7, hv4⟩ := own_slice ho; obtain ⟨n7, hn7⟩ : ∃ n, ([] ++ l).length = n := ⟨_, rfl⟩; rw [hn7] at hv4; subst hv4; have HN7 := Aside0.mk hn7; clear ho hb4 hg4 hat4 hn7)
  have ho4 := HO4.out
  rw [HN7.out] at ho4
  have hn7 : n7 = l.length := HN7.out.symm
  subst hn7
  have HC7 : Aside0 (l.length ≤ c7) := ⟨own_le ho4⟩
  have HT7 : Aside0 (TextAt w4 A7 l) := ⟨own_text ho4⟩
  have HR4 := Aside0.mk (HR3.out.below HB4.out)
  have HS4 : Aside0 (Sty W.heap.size w4 A7 l) := ⟨Sty.text HT7.out (by omega)⟩
  have HB5 := Aside0.mk (below_then HB3.out HB3.out.size HB4.out)
  clear ho4 HO4 HN7 HC HT7
  go_loopg [7, 8, 9, 10, 11, 12, 13, 14, 15, 16, 17, 18, 19, 20, 21, 22] (ds.length + 1) (fun kq v7 v8 v9 v10 v11 v12 v13 v14 v15 v16 v17 v18 v19 v20 v21 v22 wr => ∃ (i : Nat) (t : List Int) (A7 : Option Addr) (c7 : Nat) (v : Value), v8 = .int .i64 (i : Int) ∧ v7 = .slice A7 t.length c7 ∧ i ≤ ds.length ∧ kq + i = ds.length + 1 ∧ Aside0 (RopeIs W.heap.size wr g v t) ∧ Aside0 (Sty W.heap.size wr A7 t) ∧ Aside0 (t.length ≤ c7) ∧ Aside0 (Below W.heap.size W wr))
  case atStart => exact ⟨0, l, A7, c7, v, rfl, rfl, by omega, by omega, HR4, HS4, HC7, HB5⟩
  case round =>
    obtain ⟨i, t, A7, c7, v, rfl, rfl, hi, hkq, HR0, HS0, HC, HB0⟩ := hrel
    have HK := Aside0.mk hkq
    have htl := HR0.out.len
    have hnl := nl_le t
    clear hkq
    by_cases hlt : i < ds.length
    · have hlb : decide ((i : Int) < ds.length) = true := decide_eq_true (by omega)
      obtain ⟨ad, A3, c3, rfl, y0, y1, y2, y3, l3, r3⟩ := Leaf.at_T43 HM.out (i : Int) (by omega) (by omega)
      have hxm : Leaf.rd_T43 ds i ∈ ds := by
        have : Leaf.rd_T43 ds i = ds[i] := by simp [Leaf.rd_T43, List.getD_eq_getElem?_getD, List.getElem?_eq_getElem hlt]
        rw [this]
        exact List.getElem_mem hlt
      have hxl := HF.out _ hxm
      have y0' := pw_cell_below HB0.out y0
      have y1' := pw_cell_below HB0.out y1
      have y2' := pw_cell_below HB0.out y2
      have y3' := pw_cell_below HB0.out y3
      obtain ⟨x0, hx0⟩ : ∃ x, (Leaf.rd_T43 ds i).f0 = x := ⟨_, rfl⟩
      obtain ⟨x1, hx1⟩ : ∃ x, (Leaf.rd_T43 ds i).f1 = x := ⟨_, rfl⟩
      obtain ⟨x2, hx2⟩ : ∃ x, (Leaf.rd_T43 ds i).f2 = x := ⟨_, rfl⟩
      obtain ⟨xl, hx3⟩ : ∃ x, (Leaf.rd_T43 ds i).f3 = x := ⟨_, rfl⟩
      rw [hx0] at y0'
      rw [hx1] at y1'
      rw [hx2] at y2'
      rw [hx3] at y3' l3 r3 hxl
      have L3 := Aside0.mk l3
      have R3 := Aside0.mk r3
      rw [Int.toNat_natCast] at y0' y1' y2' y3'
      clear y0 y1 y2 y3 hx0 hx1 hx2 hx3 hxm l3 r3
      have hib : decide ((i : Int) < (ds.length : Int)) = true := decide_eq_true (by omega)
      have hi0 := eq_true (show (0 : Int) ≤ (i : Int) by omega)
      have hi1 := eq_true (show (i : Int) < (ds.length : Int) by omega)
      have HZ1 : Aside0 ((wr.alloc (.cells #[.int .i64 x0, .int .i64 x1, .int .i64 x2, .slice A3 xl.length c3] 43)).heap[wr.heap.size]? = some (.cells #[.int .i64 x0, .int .i64 x1, .int .i64 x2, .slice A3 xl.length c3] 43)) := ⟨blk_new wr _⟩
      have HA1 : Aside0 (Below wr.heap.size wr (wr.alloc (.cells #[.int .i64 x0, .int .i64 x1, .int .i64 x2, .slice A3 xl.length c3] 43))) := ⟨below_alloc (Below.refl _ _) _⟩
      have HB1 := Aside0.mk (below_then HB0.out HB0.out.size HA1.out)
      have HR1 := Aside0.mk (HR0.out.below HA1.out)
      have HS1 := Aside0.mk (HS0.out.below HA1.out HB0.out.size)
      cases gk with
      | zero => exact absurd HK.out (by omega)
      | succ k1 =>
        by_cases q0 : x0 = 0
        · subst q0
          clear HR0 HS0 HB0
          obtain ⟨t', n, hr⟩ : ∃ t' n, insF t x1 xl = (t', n) := ⟨_, _, rfl⟩
          have E := Aside0.mk hr
          have hlen := insF_len t x1 xl htl
          rw [hr] at hlen
          clear hr
          go_wp2_with fail
          as_aux_lemma =>
            refine (ins_ref t A7 c7 x1 xl A3 c3 _ HS1.out.now HC.out (RI.below R3.out HB1.out) L3.out (by omega) (by omega)).mono ?_
            rw [E.out]
            rintro e w2 ⟨A9, c9, rfl, hc9, hb2, hat⟩
            have HB2 := Aside0.mk (below_then HB1.out HB1.out.size hb2)
            have HR2 := Aside0.mk (HR1.out.below hb2)
            have HS2 : Aside0 (Sty W.heap.size w2 A9 t') := ⟨RefR.sty hat HS1.out hb2 HB1.out.size hlen⟩
            have HZ2 := Aside0.mk (blk_below HZ1.out hb2)
            have z1 := (blk_cell HZ2.out 1).trans rfl
            have z3 := (blk_cell HZ2.out 3).trans rfl
            clear hb2 hat HC
            have HC : Aside0 (t'.length ≤ c9) := ⟨hc9⟩
            clear hc9
            go_wp2_with fail
            refine (insert_calls W.heap.size g v t x1 xl A3 c3 _ HR2.out (Sty.came R3.out HB2.out) L3.out).mono ?_
            rw [E.out]
            rintro e w3 ⟨v3, rfl, hR3, hM3⟩
            have HB3 := Aside0.mk (HB2.out.trans hM3.below)
            have HS3 := Aside0.mk (HS2.out.mvR HR2.out hM3)
            have HR3 := Aside0.mk hR3
            have hnl' := nl_le t'
            clear hR3 hM3 z1 z3
            go_wp2_with fail
            as_aux_lemma =>
              refine (len_is HR3.out).mono ?_
              rintro e w4 ⟨rfl, hb4⟩
              have HB4 := Aside0.mk (below_then HB3.out HB3.out.size hb4)
              have HR4 := Aside0.mk (HR3.out.below hb4)
              have HS4 := Aside0.mk (HS3.out.below hb4 HB3.out.size)
              clear hb4
              go_wp2_with fail
              refine (lines_is HR4.out).mono ?_
              rintro e w5 ⟨rfl, hb5⟩
              have HB5 := Aside0.mk (below_then HB4.out HB4.out.size hb5)
              have HR5 := Aside0.mk (HR4.out.below hb5)
              have HS5 := Aside0.mk (HS4.out.below hb5 HB4.out.size)
              clear hb5
              go_wp2_with fail
              refine (starts_ref t' A9 c9 _ HS5.out.now HC.out (Nat.le_trans HR5.out.len (by decide))).mono ?_
              rintro e w6 ⟨A5, c5, rfl, hl9, hr9, hb6⟩
              have HB6 := Aside0.mk (below_then HB5.out HB5.out.size hb6)
              have HR6 := Aside0.mk (HR5.out.below hb6)
              have HS6 := Aside0.mk (HS5.out.below hb6 HB5.out.size)
              rw [startsL_len]
              clear hl9 hr9
              clear hb6
              go_wp2_with fail
              go_roundg k1
              case measure => omega
              case rel => exact ⟨i + 1, t', A9, c9, v3, by go_num, rfl, by have := HK.out; omega, by have := HK.out; omega, HR6, HS6, HC, HB6⟩
        by_cases q1 : x0 = 1
        · subst q1
          clear HR0 HS0 HB0
          obtain ⟨t', n, hr⟩ : ∃ t' n, delF t x1 x2 = (t', n) := ⟨_, _, rfl⟩
          have E := Aside0.mk hr
          have hlen := delF_len t x1 x2 htl
          rw [hr] at hlen
          clear hr
          go_wp2_with fail
          as_aux_lemma =>
            refine (del_ref t A7 c7 x1 x2 _ HS1.out.now HC.out (by omega)).mono ?_
            rw [E.out]
            rintro e w2 ⟨A9, c9, rfl, hc9, hb2, hat⟩
            have HB2 := Aside0.mk (below_then HB1.out HB1.out.size hb2)
            have HR2 := Aside0.mk (HR1.out.below hb2)
            have HS2 : Aside0 (Sty W.heap.size w2 A9 t') := ⟨RefR.sty hat HS1.out hb2 HB1.out.size hlen⟩
            have HZ2 := Aside0.mk (blk_below HZ1.out hb2)
            have z1 := (blk_cell HZ2.out 1).trans rfl
            have z2 := (blk_cell HZ2.out 2).trans rfl
            clear hb2 hat HC
            have HC : Aside0 (t'.length ≤ c9) := ⟨hc9⟩
            clear hc9
            go_wp2_with fail
            refine (delete_calls W.heap.size g v t x1 x2 _ HR2.out).mono ?_
            rw [E.out]
            rintro e w3 ⟨v3, rfl, hR3, hM3⟩
            have HB3 := Aside0.mk (HB2.out.trans hM3.below)
            have HS3 := Aside0.mk (HS2.out.mvR HR2.out hM3)
            have HR3 := Aside0.mk hR3
            have hnl' := nl_le t'
            clear hR3 hM3 z1 z2
            go_wp2_with fail
            as_aux_lemma =>
              refine (len_is HR3.out).mono ?_
              rintro e w4 ⟨rfl, hb4⟩
              have HB4 := Aside0.mk (below_then HB3.out HB3.out.size hb4)
              have HR4 := Aside0.mk (HR3.out.below hb4)
              have HS4 := Aside0.mk (HS3.out.below hb4 HB3.out.size)
              clear hb4
              go_wp2_with fail
              refine (lines_is HR4.out).mono ?_
              rintro e w5 ⟨rfl, hb5⟩
              have HB5 := Aside0.mk (below_then HB4.out HB4.out.size hb5)
              have HR5 := Aside0.mk (HR4.out.below hb5)
              have HS5 := Aside0.mk (HS4.out.below hb5 HB4.out.size)
              clear hb5
              go_wp2_with fail
              refine (starts_ref t' A9 c9 _ HS5.out.now HC.out (Nat.le_trans HR5.out.len (by decide))).mono ?_
              rintro e w6 ⟨A5, c5, rfl, hl9, hr9, hb6⟩
              have HB6 := Aside0.mk (below_then HB5.out HB5.out.size hb6)
              have HR6 := Aside0.mk (HR5.out.below hb6)
              have HS6 := Aside0.mk (HS5.out.below hb6 HB5.out.size)
              rw [startsL_len]
              clear hl9 hr9
              clear hb6
              go_wp2_with fail
              go_roundg k1
              case measure => omega
              case rel => exact ⟨i + 1, t', A9, c9, v3, by go_num, rfl, by have := HK.out; omega, by have := HK.out; omega, HR6, HS6, HC, HB6⟩
        by_cases q2 : x0 = 2
        · subst q2
          clear HR0 HS0 HB0
          by_cases qb : btw t.length x1 x2 = true
          · have QB := Aside0.mk qb
            obtain ⟨ba, bb, bc⟩ := btw_true qb
            obtain ⟨A8, hsm, hA8, hc8⟩ := slice_mid A7 c7 t x1 x2 ba bb bc HC.out
            have HA8 := Aside0.mk hA8
            have HC8 := Aside0.mk hc8
            obtain ⟨s, hs⟩ : ∃ s, (t.take x2.toNat).drop x1.toNat = s := ⟨_, rfl⟩
            have ES : Aside0 (sl x1.toNat x2.toNat t = s) := ⟨hs⟩
            rw [hs] at hsm HA8 HC8
            clear hA8 hc8 hs
            go_wp2_with fail
            as_aux_lemma =>
              refine (slice_calls W.heap.size g v t x1 x2 _ HR1.out).mono ?_
              rintro e w2 ⟨hb2, hq⟩
              rcases hq with ⟨h1, _⟩ | ⟨_, A6, c6, rfl, hc6, ht6⟩
              · exact absurd (QB.out.symm.trans h1) (by decide)
              rw [ES.out] at hc6 ht6 ⊢
              have HB2 := Aside0.mk (below_then HB1.out HB1.out.size hb2)
              have HR2 := Aside0.mk (HR1.out.below hb2)
              have HS2 := Aside0.mk (HS1.out.below hb2 HB1.out.size)
              have HZ2 := Aside0.mk (blk_below HZ1.out hb2)
              have z1 := (blk_cell HZ2.out 1).trans rfl
              have z2 := (blk_cell HZ2.out 2).trans rfl
              have HC6 := Aside0.mk hc6
              have HT6 := Aside0.mk (ht6.ri (show s.length ≤ _ by rw [← ES.out]; have := sl_le x1.toNat x2.toNat t; omega))
              clear hb2 hc6 ht6 qb
              go_wp2_with fail
              refine (btw_ref t A7 c7 x1 x2 _ HS2.out.now HC.out).mono ?_
              rintro e w3 ⟨rfl, hb3⟩
              have HB3 := Aside0.mk (below_then HB2.out HB2.out.size hb3)
              have HR3 := Aside0.mk (HR2.out.below hb3)
              have HS3 := Aside0.mk (HS2.out.below hb3 HB2.out.size)
              have HZ3 := Aside0.mk (blk_below HZ2.out hb3)
              have z1 := (blk_cell HZ3.out 1).trans rfl
              have z2 := (blk_cell HZ3.out 2).trans rfl
              rw [QB.out]
              have HT3 := Aside0.mk (HT6.out.below hb3)
              clear hb3
              go_wp2_with fail
              refine (same_calls s s A6 A8 c6 (c7 - x1.toNat) _ HT3.out HC6.out (HA8.out _ HS3.out.now) HC8.out).mono ?_
              rintro e w4 ⟨rfl, hb4⟩
              have HB4 := Aside0.mk (below_then HB3.out HB3.out.size hb4)
              have HR4 := Aside0.mk (HR3.out.below hb4)
              have HS4 := Aside0.mk (HS3.out.below hb4 HB3.out.size)
              rw [decide_eq_true (rfl : s = s)]
              clear hb4
              go_wp2_with fail
              as_aux_lemma =>
                refine (len_is HR4.out).mono ?_
                rintro e w5 ⟨rfl, hb5⟩
                have HB5 := Aside0.mk (below_then HB4.out HB4.out.size hb5)
                have HR5 := Aside0.mk (HR4.out.below hb5)
                have HS5 := Aside0.mk (HS4.out.below hb5 HB4.out.size)
                clear hb5
                go_wp2_with fail
                refine (lines_is HR5.out).mono ?_
                rintro e w6 ⟨rfl, hb6⟩
                have HB6 := Aside0.mk (below_then HB5.out HB5.out.size hb6)
                have HR6 := Aside0.mk (HR5.out.below hb6)
                have HS6 := Aside0.mk (HS5.out.below hb6 HB5.out.size)
                clear hb6
                go_wp2_with fail
                refine (starts_ref t A7 c7 _ HS6.out.now HC.out (Nat.le_trans HR6.out.len (by decide))).mono ?_
                rintro e w7 ⟨A5, c5, rfl, hl9, hr9, hb7⟩
                have HB7 := Aside0.mk (below_then HB6.out HB6.out.size hb7)
                have HR7 := Aside0.mk (HR6.out.below hb7)
                have HS7 := Aside0.mk (HS6.out.below hb7 HB6.out.size)
                rw [startsL_len]
                clear hl9 hr9
                clear hb7
                go_wp2_with fail
                go_roundg k1
                case measure => omega
                case rel => exact ⟨i + 1, t, A7, c7, v, by go_num, rfl, by have := HK.out; omega, by have := HK.out; omega, HR7, HS7, HC, HB7⟩
          · have qb' : btw t.length x1 x2 = false := by simpa using qb
            have QB := Aside0.mk qb'
            clear qb
            go_wp2_with fail
            as_aux_lemma =>
              refine (slice_calls W.heap.size g v t x1 x2 _ HR1.out).mono ?_
              rintro e w2 ⟨hb2, hq⟩
              rcases hq with ⟨_, rfl⟩ | ⟨h1, _⟩
              rotate_left
              · exact absurd (QB.out.symm.trans h1) (by decide)
              have HB2 := Aside0.mk (below_then HB1.out HB1.out.size hb2)
              have HR2 := Aside0.mk (HR1.out.below hb2)
              have HS2 := Aside0.mk (HS1.out.below hb2 HB1.out.size)
              have HZ2 := Aside0.mk (blk_below HZ1.out hb2)
              have z1 := (blk_cell HZ2.out 1).trans rfl
              have z2 := (blk_cell HZ2.out 2).trans rfl
              clear hb2
              go_wp2_with fail
              refine (btw_ref t A7 c7 x1 x2 _ HS2.out.now HC.out).mono ?_
              rintro e w3 ⟨rfl, hb3⟩
              have HB3 := Aside0.mk (below_then HB2.out HB2.out.size hb3)
              have HR3 := Aside0.mk (HR2.out.below hb3)
              have HS3 := Aside0.mk (HS2.out.below hb3 HB2.out.size)
              rw [QB.out]
              clear hb3
              go_wp2_with fail
              as_aux_lemma =>
                refine (len_is HR3.out).mono ?_
                rintro e w4 ⟨rfl, hb4⟩
                have HB4 := Aside0.mk (below_then HB3.out HB3.out.size hb4)
                have HR4 := Aside0.mk (HR3.out.below hb4)
                have HS4 := Aside0.mk (HS3.out.below hb4 HB3.out.size)
                clear hb4
                go_wp2_with fail
                refine (lines_is HR4.out).mono ?_
                rintro e w5 ⟨rfl, hb5⟩
                have HB5 := Aside0.mk (below_then HB4.out HB4.out.size hb5)
                have HR5 := Aside0.mk (HR4.out.below hb5)
                have HS5 := Aside0.mk (HS4.out.below hb5 HB4.out.size)
                clear hb5
                go_wp2_with fail
                refine (starts_ref t A7 c7 _ HS5.out.now HC.out (Nat.le_trans HR5.out.len (by decide))).mono ?_
                rintro e w6 ⟨A5, c5, rfl, hl9, hr9, hb6⟩
                have HB6 := Aside0.mk (below_then HB5.out HB5.out.size hb6)
                have HR6 := Aside0.mk (HR5.out.below hb6)
                have HS6 := Aside0.mk (HS5.out.below hb6 HB5.out.size)
                rw [startsL_len]
                clear hl9 hr9
                clear hb6
                go_wp2_with fail
                go_roundg k1
                case measure => omega
                case rel => exact ⟨i + 1, t, A7, c7, v, by go_num, rfl, by have := HK.out; omega, by have := HK.out; omega, HR6, HS6, HC, HB6⟩
        by_cases q3 : x0 = 3
        · subst q3
          clear HR0 HS0 HB0
          by_cases a1 : x1 < 0
          · have a1b : decide (x1 < 0) = true := decide_eq_true a1
            have E1 : Aside0 (lineF t x1 = (0, 1) ∧ bytesF t x1 = (0, 1)) := ⟨by unfold lineF bytesF inText; rw [decide_eq_false (by omega)]; exact ⟨rfl, rfl⟩⟩
            go_wp2_with fail
            as_aux_lemma =>
              refine (line_calls W.heap.size g v t x1 _ HR1.out).mono ?_
              rintro e w2 ⟨rfl, hb2⟩
              have HB2 := Aside0.mk (below_then HB1.out HB1.out.size hb2)
              have HR2 := Aside0.mk (HR1.out.below hb2)
              have HS2 := Aside0.mk (HS1.out.below hb2 HB1.out.size)
              have HZ2 := Aside0.mk (blk_below HZ1.out hb2)
              have z1 := (blk_cell HZ2.out 1).trans rfl
              rw [E1.out.1]
              clear hb2
              go_wp2_with fail
              refine (bytes_calls W.heap.size g v t x1 _ HR2.out).mono ?_
              rintro e w3 ⟨rfl, hb3⟩
              have HB3 := Aside0.mk (below_then HB2.out HB2.out.size hb3)
              have HR3 := Aside0.mk (HR2.out.below hb3)
              have HS3 := Aside0.mk (HS2.out.below hb3 HB2.out.size)
              have HZ3 := Aside0.mk (blk_below HZ2.out hb3)
              have z1 := (blk_cell HZ3.out 1).trans rfl
              rw [E1.out.2]
              clear hb3
              go_wp2_with fail
              as_aux_lemma =>
                refine (len_is HR3.out).mono ?_
                rintro e w4 ⟨rfl, hb4⟩
                have HB4 := Aside0.mk (below_then HB3.out HB3.out.size hb4)
                have HR4 := Aside0.mk (HR3.out.below hb4)
                have HS4 := Aside0.mk (HS3.out.below hb4 HB3.out.size)
                clear hb4
                go_wp2_with fail
                refine (lines_is HR4.out).mono ?_
                rintro e w5 ⟨rfl, hb5⟩
                have HB5 := Aside0.mk (below_then HB4.out HB4.out.size hb5)
                have HR5 := Aside0.mk (HR4.out.below hb5)
                have HS5 := Aside0.mk (HS4.out.below hb5 HB4.out.size)
                clear hb5
                go_wp2_with fail
                refine (starts_ref t A7 c7 _ HS5.out.now HC.out (Nat.le_trans HR5.out.len (by decide))).mono ?_
                rintro e w6 ⟨A5, c5, rfl, hl9, hr9, hb6⟩
                have HB6 := Aside0.mk (below_then HB5.out HB5.out.size hb6)
                have HR6 := Aside0.mk (HR5.out.below hb6)
                have HS6 := Aside0.mk (HS5.out.below hb6 HB5.out.size)
                rw [startsL_len]
                clear hl9 hr9
                clear hb6
                go_wp2_with fail
                go_roundg k1
                case measure => omega
                case rel => exact ⟨i + 1, t, A7, c7, v, by go_num, rfl, by have := HK.out; omega, by have := HK.out; omega, HR6, HS6, HC, HB6⟩
          have a1b : decide (x1 < 0) = false := decide_eq_false a1
          by_cases a2 : (t.length : Int) < x1
          · have a2b : decide ((t.length : Int) < x1) = true := decide_eq_true a2
            have E1 : Aside0 (lineF t x1 = (0, 1) ∧ bytesF t x1 = (0, 1)) := ⟨by unfold lineF bytesF inText; rw [decide_eq_false (show ¬ x1 ≤ (t.length : Int) by omega), Bool.and_false]; exact ⟨rfl, rfl⟩⟩
            go_wp2_with fail
            as_aux_lemma =>
              refine (line_calls W.heap.size g v t x1 _ HR1.out).mono ?_
              rintro e w2 ⟨rfl, hb2⟩
              have HB2 := Aside0.mk (below_then HB1.out HB1.out.size hb2)
              have HR2 := Aside0.mk (HR1.out.below hb2)
              have HS2 := Aside0.mk (HS1.out.below hb2 HB1.out.size)
              have HZ2 := Aside0.mk (blk_below HZ1.out hb2)
              have z1 := (blk_cell HZ2.out 1).trans rfl
              rw [E1.out.1]
              clear hb2
              go_wp2_with fail
              refine (bytes_calls W.heap.size g v t x1 _ HR2.out).mono ?_
              rintro e w3 ⟨rfl, hb3⟩
              have HB3 := Aside0.mk (below_then HB2.out HB2.out.size hb3)
              have HR3 := Aside0.mk (HR2.out.below hb3)
              have HS3 := Aside0.mk (HS2.out.below hb3 HB2.out.size)
              have HZ3 := Aside0.mk (blk_below HZ2.out hb3)
              have z1 := (blk_cell HZ3.out 1).trans rfl
              rw [E1.out.2]
              clear hb3
              go_wp2_with fail
              as_aux_lemma =>
                refine (len_is HR3.out).mono ?_
                rintro e w4 ⟨rfl, hb4⟩
                have HB4 := Aside0.mk (below_then HB3.out HB3.out.size hb4)
                have HR4 := Aside0.mk (HR3.out.below hb4)
                have HS4 := Aside0.mk (HS3.out.below hb4 HB3.out.size)
                clear hb4
                go_wp2_with fail
                refine (lines_is HR4.out).mono ?_
                rintro e w5 ⟨rfl, hb5⟩
                have HB5 := Aside0.mk (below_then HB4.out HB4.out.size hb5)
                have HR5 := Aside0.mk (HR4.out.below hb5)
                have HS5 := Aside0.mk (HS4.out.below hb5 HB4.out.size)
                clear hb5
                go_wp2_with fail
                refine (starts_ref t A7 c7 _ HS5.out.now HC.out (Nat.le_trans HR5.out.len (by decide))).mono ?_
                rintro e w6 ⟨A5, c5, rfl, hl9, hr9, hb6⟩
                have HB6 := Aside0.mk (below_then HB5.out HB5.out.size hb6)
                have HR6 := Aside0.mk (HR5.out.below hb6)
                have HS6 := Aside0.mk (HS5.out.below hb6 HB5.out.size)
                rw [startsL_len]
                clear hl9 hr9
                clear hb6
                go_wp2_with fail
                go_roundg k1
                case measure => omega
                case rel => exact ⟨i + 1, t, A7, c7, v, by go_num, rfl, by have := HK.out; omega, by have := HK.out; omega, HR6, HS6, HC, HB6⟩
          have a2b : decide ((t.length : Int) < x1) = false := decide_eq_false a2
          have E1 : Aside0 (lineF t x1 = ((nl (t.take x1.toNat) : Int), 0) ∧ bytesF t x1 = ((ub (t.take x1.toNat) : Int), 0)) := ⟨by unfold lineF bytesF inText; rw [decide_eq_true (by omega), decide_eq_true (by omega)]; exact ⟨rfl, rfl⟩⟩
          have b0 : 0 ≤ x1 := by omega
          have b1 : x1 ≤ (t.length : Int) := by omega
          have HBB := Aside0.mk (And.intro b0 b1)
          go_wp2_with fail
          as_aux_lemma =>
            refine (line_calls W.heap.size g v t x1 _ HR1.out).mono ?_
            rintro e w2 ⟨rfl, hb2⟩
            have HB2 := Aside0.mk (below_then HB1.out HB1.out.size hb2)
            have HR2 := Aside0.mk (HR1.out.below hb2)
            have HS2 := Aside0.mk (HS1.out.below hb2 HB1.out.size)
            have HZ2 := Aside0.mk (blk_below HZ1.out hb2)
            have z1 := (blk_cell HZ2.out 1).trans rfl
            rw [E1.out.1]
            clear hb2
            go_wp2_with fail
            refine (bytes_calls W.heap.size g v t x1 _ HR2.out).mono ?_
            rintro e w3 ⟨rfl, hb3⟩
            have HB3 := Aside0.mk (below_then HB2.out HB2.out.size hb3)
            have HR3 := Aside0.mk (HR2.out.below hb3)
            have HS3 := Aside0.mk (HS2.out.below hb3 HB2.out.size)
            have HZ3 := Aside0.mk (blk_below HZ2.out hb3)
            have z1 := (blk_cell HZ3.out 1).trans rfl
            rw [E1.out.2]
            clear hb3
            go_wp2_with fail
            refine (line_ref t A7 c7 x1 _ HS3.out.now HC.out (by omega) HBB.out.1 HBB.out.2).mono ?_
            rintro e w4 ⟨rfl, hb4⟩
            have HB4 := Aside0.mk (below_then HB3.out HB3.out.size hb4)
            have HR4 := Aside0.mk (HR3.out.below hb4)
            have HS4 := Aside0.mk (HS3.out.below hb4 HB3.out.size)
            have HZ4 := Aside0.mk (blk_below HZ3.out hb4)
            have z1 := (blk_cell HZ4.out 1).trans rfl
            clear hb4
            go_wp2_with fail
            refine (bytes_ref t A7 c7 x1 _ HS4.out.now HC.out (by omega) HBB.out.1 HBB.out.2).mono ?_
            rintro e w5 ⟨rfl, hb5⟩
            have HB5 := Aside0.mk (below_then HB4.out HB4.out.size hb5)
            have HR5 := Aside0.mk (HR4.out.below hb5)
            have HS5 := Aside0.mk (HS4.out.below hb5 HB4.out.size)
            have HZ5 := Aside0.mk (blk_below HZ4.out hb5)
            have z1 := (blk_cell HZ5.out 1).trans rfl
            clear hb5
            go_wp2_with fail
            as_aux_lemma =>
              refine (len_is HR5.out).mono ?_
              rintro e w6 ⟨rfl, hb6⟩
              have HB6 := Aside0.mk (below_then HB5.out HB5.out.size hb6)
              have HR6 := Aside0.mk (HR5.out.below hb6)
              have HS6 := Aside0.mk (HS5.out.below hb6 HB5.out.size)
              clear hb6
              go_wp2_with fail
              refine (lines_is HR6.out).mono ?_
              rintro e w7 ⟨rfl, hb7⟩
              have HB7 := Aside0.mk (below_then HB6.out HB6.out.size hb7)
              have HR7 := Aside0.mk (HR6.out.below hb7)
              have HS7 := Aside0.mk (HS6.out.below hb7 HB6.out.size)
              clear hb7
              go_wp2_with fail
              refine (starts_ref t A7 c7 _ HS7.out.now HC.out (Nat.le_trans HR7.out.len (by decide))).mono ?_
              rintro e w8 ⟨A5, c5, rfl, hl9, hr9, hb8⟩
              have HB8 := Aside0.mk (below_then HB7.out HB7.out.size hb8)
              have HR8 := Aside0.mk (HR7.out.below hb8)
              have HS8 := Aside0.mk (HS7.out.below hb8 HB7.out.size)
              rw [startsL_len]
              clear hl9 hr9
              clear hb8
              go_wp2_with fail
              go_roundg k1
              case measure => omega
              case rel => exact ⟨i + 1, t, A7, c7, v, by go_num, rfl, by have := HK.out; omega, by have := HK.out; omega, HR8, HS8, HC, HB8⟩
        by_cases q4 : x0 = 4
        · subst q4
          clear HR0 HS0 HB0
          by_cases a1 : x1 < 0
          · have a1b : decide (x1 < 0) = true := decide_eq_true a1
            have E1 : Aside0 (startF t x1 = (0, 1)) := ⟨by unfold startF; rw [decide_eq_false (by omega)]; rfl⟩
            go_wp2_with fail
            as_aux_lemma =>
              refine (start_calls W.heap.size g v t x1 _ HR1.out).mono ?_
              rintro e w2 ⟨rfl, hb2⟩
              have HB2 := Aside0.mk (below_then HB1.out HB1.out.size hb2)
              have HR2 := Aside0.mk (HR1.out.below hb2)
              have HS2 := Aside0.mk (HS1.out.below hb2 HB1.out.size)
              have HZ2 := Aside0.mk (blk_below HZ1.out hb2)
              have z1 := (blk_cell HZ2.out 1).trans rfl
              rw [E1.out]
              clear hb2
              go_wp2_with fail
              refine (starts_ref t A7 c7 _ HS2.out.now HC.out (by omega)).mono ?_
              rintro e w3 ⟨A8, c8, rfl, hl8, hr8, hb3⟩
              have HB3 := Aside0.mk (below_then HB2.out HB2.out.size hb3)
              have HR3 := Aside0.mk (HR2.out.below hb3)
              have HS3 := Aside0.mk (HS2.out.below hb3 HB2.out.size)
              have HZ3 := Aside0.mk (blk_below HZ2.out hb3)
              have z1 := (blk_cell HZ3.out 1).trans rfl
              rw [startsL_len]
              clear hl8 hr8
              clear hb3
              go_wp2_with fail
              as_aux_lemma =>
                refine (len_is HR3.out).mono ?_
                rintro e w4 ⟨rfl, hb4⟩
                have HB4 := Aside0.mk (below_then HB3.out HB3.out.size hb4)
                have HR4 := Aside0.mk (HR3.out.below hb4)
                have HS4 := Aside0.mk (HS3.out.below hb4 HB3.out.size)
                clear hb4
                go_wp2_with fail
                refine (lines_is HR4.out).mono ?_
                rintro e w5 ⟨rfl, hb5⟩
                have HB5 := Aside0.mk (below_then HB4.out HB4.out.size hb5)
                have HR5 := Aside0.mk (HR4.out.below hb5)
                have HS5 := Aside0.mk (HS4.out.below hb5 HB4.out.size)
                clear hb5
                go_wp2_with fail
                refine (starts_ref t A7 c7 _ HS5.out.now HC.out (Nat.le_trans HR5.out.len (by decide))).mono ?_
                rintro e w6 ⟨A5, c5, rfl, hl9, hr9, hb6⟩
                have HB6 := Aside0.mk (below_then HB5.out HB5.out.size hb6)
                have HR6 := Aside0.mk (HR5.out.below hb6)
                have HS6 := Aside0.mk (HS5.out.below hb6 HB5.out.size)
                rw [startsL_len]
                clear hl9 hr9
                clear hb6
                go_wp2_with fail
                go_roundg k1
                case measure => omega
                case rel => exact ⟨i + 1, t, A7, c7, v, by go_num, rfl, by have := HK.out; omega, by have := HK.out; omega, HR6, HS6, HC, HB6⟩
          have a1b : decide (x1 < 0) = false := decide_eq_false a1
          by_cases a2 : (nl t : Int) < x1
          · have a2b : decide ((nl t : Int) + 1 ≤ x1) = true := decide_eq_true (by omega)
            have E1 : Aside0 (startF t x1 = (0, 1)) := ⟨by unfold startF; rw [decide_eq_false (show ¬ x1 ≤ (nl t : Int) by omega), Bool.and_false]; rfl⟩
            go_wp2_with fail
            as_aux_lemma =>
              refine (start_calls W.heap.size g v t x1 _ HR1.out).mono ?_
              rintro e w2 ⟨rfl, hb2⟩
              have HB2 := Aside0.mk (below_then HB1.out HB1.out.size hb2)
              have HR2 := Aside0.mk (HR1.out.below hb2)
              have HS2 := Aside0.mk (HS1.out.below hb2 HB1.out.size)
              have HZ2 := Aside0.mk (blk_below HZ1.out hb2)
              have z1 := (blk_cell HZ2.out 1).trans rfl
              rw [E1.out]
              clear hb2
              go_wp2_with fail
              refine (starts_ref t A7 c7 _ HS2.out.now HC.out (by omega)).mono ?_
              rintro e w3 ⟨A8, c8, rfl, hl8, hr8, hb3⟩
              have HB3 := Aside0.mk (below_then HB2.out HB2.out.size hb3)
              have HR3 := Aside0.mk (HR2.out.below hb3)
              have HS3 := Aside0.mk (HS2.out.below hb3 HB2.out.size)
              have HZ3 := Aside0.mk (blk_below HZ2.out hb3)
              have z1 := (blk_cell HZ3.out 1).trans rfl
              rw [startsL_len]
              clear hl8 hr8
              clear hb3
              go_wp2_with fail
              as_aux_lemma =>
                refine (len_is HR3.out).mono ?_
                rintro e w4 ⟨rfl, hb4⟩
                have HB4 := Aside0.mk (below_then HB3.out HB3.out.size hb4)
                have HR4 := Aside0.mk (HR3.out.below hb4)
                have HS4 := Aside0.mk (HS3.out.below hb4 HB3.out.size)
                clear hb4
                go_wp2_with fail
                refine (lines_is HR4.out).mono ?_
                rintro e w5 ⟨rfl, hb5⟩
                have HB5 := Aside0.mk (below_then HB4.out HB4.out.size hb5)
                have HR5 := Aside0.mk (HR4.out.below hb5)
                have HS5 := Aside0.mk (HS4.out.below hb5 HB4.out.size)
                clear hb5
                go_wp2_with fail
                refine (starts_ref t A7 c7 _ HS5.out.now HC.out (Nat.le_trans HR5.out.len (by decide))).mono ?_
                rintro e w6 ⟨A5, c5, rfl, hl9, hr9, hb6⟩
                have HB6 := Aside0.mk (below_then HB5.out HB5.out.size hb6)
                have HR6 := Aside0.mk (HR5.out.below hb6)
                have HS6 := Aside0.mk (HS5.out.below hb6 HB5.out.size)
                rw [startsL_len]
                clear hl9 hr9
                clear hb6
                go_wp2_with fail
                go_roundg k1
                case measure => omega
                case rel => exact ⟨i + 1, t, A7, c7, v, by go_num, rfl, by have := HK.out; omega, by have := HK.out; omega, HR6, HS6, HC, HB6⟩
          have a2b : decide ((nl t : Int) + 1 ≤ x1) = false := decide_eq_false (by omega)
          have E1 : Aside0 (startF t x1 = ((sp t x1.toNat : Int), 0)) := ⟨by unfold startF; rw [decide_eq_true (by omega), decide_eq_true (by omega)]; rfl⟩
          go_wp2_with fail
          as_aux_lemma =>
            refine (start_calls W.heap.size g v t x1 _ HR1.out).mono ?_
            rintro e w2 ⟨rfl, hb2⟩
            have HB2 := Aside0.mk (below_then HB1.out HB1.out.size hb2)
            have HR2 := Aside0.mk (HR1.out.below hb2)
            have HS2 := Aside0.mk (HS1.out.below hb2 HB1.out.size)
            have HZ2 := Aside0.mk (blk_below HZ1.out hb2)
            have z1 := (blk_cell HZ2.out 1).trans rfl
            rw [E1.out]
            clear hb2
            go_wp2_with fail
            refine (starts_ref t A7 c7 _ HS2.out.now HC.out (by omega)).mono ?_
            rintro e w3 ⟨A8, c8, rfl, hl8, hr8, hb3⟩
            have HB3 := Aside0.mk (below_then HB2.out HB2.out.size hb3)
            have HR3 := Aside0.mk (HR2.out.below hb3)
            have HS3 := Aside0.mk (HS2.out.below hb3 HB2.out.size)
            have HZ3 := Aside0.mk (blk_below HZ2.out hb3)
            have z1 := (blk_cell HZ3.out 1).trans rfl
            obtain ⟨ad8, rfl, hcell⟩ := Kd.at_int hr8 x1 (by omega) (by rw [startsL_len]; omega)
            have eg := startsL_get t x1.toNat (by omega)
            have hcell' : w3.cell? (ad8.add x1.toNat) = some (.int .i64 (sp t x1.toNat : Int)) := by rw [← eg]; exact hcell
            have j0 := eq_true (show 0 ≤ x1 by omega)
            have j1 := eq_true (show x1 < (nl t : Int) + 1 by omega)
            rw [startsL_len]
            clear hcell eg hl8 hr8
            clear hb3
            go_wp2_with fail
            as_aux_lemma =>
              refine (len_is HR3.out).mono ?_
              rintro e w4 ⟨rfl, hb4⟩
              have HB4 := Aside0.mk (below_then HB3.out HB3.out.size hb4)
              have HR4 := Aside0.mk (HR3.out.below hb4)
              have HS4 := Aside0.mk (HS3.out.below hb4 HB3.out.size)
              clear hb4
              go_wp2_with fail
              refine (lines_is HR4.out).mono ?_
              rintro e w5 ⟨rfl, hb5⟩
              have HB5 := Aside0.mk (below_then HB4.out HB4.out.size hb5)
              have HR5 := Aside0.mk (HR4.out.below hb5)
              have HS5 := Aside0.mk (HS4.out.below hb5 HB4.out.size)
              clear hb5
              go_wp2_with fail
              refine (starts_ref t A7 c7 _ HS5.out.now HC.out (Nat.le_trans HR5.out.len (by decide))).mono ?_
              rintro e w6 ⟨A5, c5, rfl, hl9, hr9, hb6⟩
              have HB6 := Aside0.mk (below_then HB5.out HB5.out.size hb6)
              have HR6 := Aside0.mk (HR5.out.below hb6)
              have HS6 := Aside0.mk (HS5.out.below hb6 HB5.out.size)
              rw [startsL_len]
              clear hl9 hr9
              clear hb6
              go_wp2_with fail
              go_roundg k1
              case measure => omega
              case rel => exact ⟨i + 1, t, A7, c7, v, by go_num, rfl, by have := HK.out; omega, by have := HK.out; omega, HR6, HS6, HC, HB6⟩
        · have q0b : (x0 == 0) = false := beq_eq_false_iff_ne.mpr q0
          have q1b : (x0 == 1) = false := beq_eq_false_iff_ne.mpr q1
          have q2b : (x0 == 2) = false := beq_eq_false_iff_ne.mpr q2
          have q3b : (x0 == 3) = false := beq_eq_false_iff_ne.mpr q3
          have q4b : (x0 == 4) = false := beq_eq_false_iff_ne.mpr q4
          clear HR0 HS0 HB0
          go_wp2_with fail
          as_aux_lemma =>
            as_aux_lemma =>
              refine (len_is HR1.out).mono ?_
              rintro e w2 ⟨rfl, hb2⟩
              have HB2 := Aside0.mk (below_then HB1.out HB1.out.size hb2)
              have HR2 := Aside0.mk (HR1.out.below hb2)
              have HS2 := Aside0.mk (HS1.out.below hb2 HB1.out.size)
              clear hb2
              go_wp2_with fail
              refine (lines_is HR2.out).mono ?_
              rintro e w3 ⟨rfl, hb3⟩
              have HB3 := Aside0.mk (below_then HB2.out HB2.out.size hb3)
              have HR3 := Aside0.mk (HR2.out.below hb3)
              have HS3 := Aside0.mk (HS2.out.below hb3 HB2.out.size)
              clear hb3
              go_wp2_with fail
              refine (starts_ref t A7 c7 _ HS3.out.now HC.out (Nat.le_trans HR3.out.len (by decide))).mono ?_
              rintro e w4 ⟨A5, c5, rfl, hl9, hr9, hb4⟩
              have HB4 := Aside0.mk (below_then HB3.out HB3.out.size hb4)
              have HR4 := Aside0.mk (HR3.out.below hb4)
              have HS4 := Aside0.mk (HS3.out.below hb4 HB3.out.size)
              rw [startsL_len]
              clear hl9 hr9
              clear hb4
              go_wp2_with fail
              go_roundg k1
              case measure => omega
              case rel => exact ⟨i + 1, t, A7, c7, v, by go_num, rfl, by have := HK.out; omega, by have := HK.out; omega, HR4, HS4, HC, HB4⟩
    · have hlb : decide ((i : Int) < ds.length) = false := decide_eq_false (by omega)
      go_wp2_with fail
      refine (slice_calls W.heap.size g v t 0 t.length _ HR0.out).mono ?_
      rintro e u1 ⟨hb1, hq⟩
      rcases hq with ⟨h1, _⟩ | ⟨_, A6, c6, rfl, hc6, ht6⟩
      · exact absurd ((btw_all _).symm.trans h1) (by decide)
      rw [sl_all] at hc6 ht6 ⊢
      have UB1 := Aside0.mk (below_then HB0.out HB0.out.size hb1)
      have US1 := Aside0.mk (HS0.out.below hb1 HB0.out.size)
      have HC6 := Aside0.mk hc6
      have HT6 := Aside0.mk (ht6.ri (show t.length ≤ _ by omega))
      clear hb1 hc6 ht6
      go_wp2_with fail
      refine (same_calls t t A6 A7 c6 c7 _ HT6.out HC6.out US1.out.now HC.out).mono ?_
      rintro e u2 ⟨rfl, hb2⟩
      rw [decide_eq_true (rfl : t = t)]
      have HB := Aside0.mk (below_then UB1.out UB1.out.size hb2)
      clear hb2
      go_wp2_with fail
      refine (knows_calls _).mono ?_
      rintro e w9 ⟨rfl, hb9⟩
      go_wp2_with fail
      go_ret
      exact ⟨rfl, below_then HB.out HB.out.size hb9⟩
end Go.Proofs.Ytepcdjkpmchobaa.Rope
