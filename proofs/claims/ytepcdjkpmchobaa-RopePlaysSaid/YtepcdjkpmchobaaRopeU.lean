/- Start answers where a line begins, or that there is no such line. -/
import Derived.Laws.Cover4
import Derived.Test.YtepcdjkpmchobaaRopeT
namespace Go.Proofs.Ytepcdjkpmchobaa.Rope
open Go.RowKit Go.Proofs.YtepcdjkpmchobaaW.PrintWords Go.Proofs.YtepcdjkpmchobaaW.PrintLast Go.Proofs.YtepcdjkpmchobaaW.PrintMore
attribute [local go_sem] max2_int min2_int max_two min_two max_three min_three max_four min_four
set_option linter.unusedVariables false
set_option linter.unusedSimpArgs false

/-! ### Where a line begins -/
def sp : List Int → Nat → Nat
  | [], _ => 0
  | x :: t, k => if k = 0 then 0 else 1 + sp t (if x = 10 then k - 1 else k)
theorem sp_zero (t : List Int) : sp t 0 = 0 := by cases t <;> simp [sp]
theorem nl_cons (x : Int) (t : List Int) : nl (x :: t) = (if x = 10 then 1 else 0) + nl t := by
  by_cases h : x = 10 <;> simp [nl, h]
  omega
theorem sp_le (t : List Int) : ∀ k, sp t k ≤ t.length := by
  induction t with
  | nil => intro k; simp [sp]
  | cons x t ih =>
    intro k
    unfold sp
    by_cases hk : k = 0
    · simp [hk]
    · rw [if_neg hk]
      have := ih (if x = 10 then k - 1 else k)
      simp only [List.length_cons]
      omega
theorem sp_append (s t : List Int) : ∀ k, 1 ≤ k → sp (s ++ t) k = if k ≤ nl s then sp s k else s.length + sp t (k - nl s) := by
  induction s with
  | nil =>
    intro k hk
    rw [if_neg (by simp [nl]; omega)]
    simp [nl]
  | cons x s ih =>
    intro k hk
    rw [List.cons_append, nl_cons, List.length_cons]
    unfold sp
    rw [if_neg (by omega)]
    by_cases hx : x = 10
    · simp only [hx, if_true]
      by_cases h1 : k = 1
      · subst h1
        rw [if_pos (by omega), sp_zero, if_neg (by omega), sp_zero]
      · rw [ih (k - 1) (by omega)]
        by_cases h2 : k ≤ 1 + nl s
        · rw [if_pos h2, if_pos (by omega), if_neg (by omega)]
        · rw [if_neg h2, if_neg (by omega), show k - 1 - nl s = k - (1 + nl s) from by omega]
          conv => rhs; rw [← sp.eq_def]
          omega
    · simp only [hx, if_false, Nat.zero_add]
      rw [ih k hk]
      by_cases h2 : k ≤ nl s
      · rw [if_pos h2, if_pos h2, if_neg (by omega)]
      · rw [if_neg h2, if_neg h2]
        conv => rhs; rw [← sp.eq_def]
        omega
theorem sp_take (t : List Int) : ∀ k, k ≤ nl t → nl (t.take (sp t k)) = k := by
  induction t with
  | nil => intro k hk; simp [nl] at hk; subst hk; simp [sp, nl]
  | cons x t ih =>
    intro k hk
    rw [nl_cons] at hk
    by_cases h0 : k = 0
    · subst h0
      simp [sp, nl]
    · unfold sp
      rw [if_neg h0, Nat.add_comm, List.take_succ_cons, nl_cons]
      by_cases hx : x = 10
      · simp only [hx, if_true] at hk ⊢
        rw [ih (k - 1) (by omega)]
        omega
      · simp only [hx, if_false] at hk ⊢
        rw [ih k (by omega)]
        omega
theorem sp_at (s : List Int) : ∀ j k, j < s.length → s.getD j 0 = 10 → nl (s.take j) + 1 = k → sp s k = j + 1 := by
  induction s with
  | nil => intro j k hj; simp at hj
  | cons x s ih =>
    intro j k hj hx hk
    unfold sp
    rw [if_neg (by omega)]
    cases j with
    | zero =>
      have hx' : x = 10 := by simpa using hx
      have hk' : k = 1 := by simpa [nl] using hk.symm
      subst hk'
      simp [hx', sp_zero]
    | succ j =>
      rw [List.take_succ_cons, nl_cons] at hk
      have := ih j (if x = 10 then k - 1 else k) (by simpa using hj) (by simpa using hx) (by by_cases h10 : x = 10 <;> simp [h10] at hk ⊢ <;> omega)
      omega
/-- What Start comes to. -/
def startF (t : List Int) (k : Int) : Int × Int := if decide (0 ≤ k) && decide (k ≤ nl t) then ((sp t k.toNat : Int), 0) else (0, 1)
def startA.T8 : Bool × List (List Nat × List Nat) := (true, [([], []), ([0], [0]), ([1], [1]), ([2], [2]), ([], []), ([4], [4]), ([3, 5], [3, 5]), ([6], [6]), ([], []), ([8, 7, 0, 1, 2, 3, 4, 5, 6, 7, 8], [7, 8])])
def startA.B8 : List Nat := [0, 1, 3, 7, 0, 16, 63, 127, 0, 511]
theorem startA.tab8 : rtab .any (opsOf Try.f14 8) = startA.T8 := by kernel_rfl
theorem startA.bits8 : waitsOk startA.T8.2 startA.B8 = true := by kernel_rfl
def startB.T10 : Bool × List (List Nat × List Nat) := (true, [([], []), ([0], [0]), ([], []), ([], []), ([3], [3]), ([4], [4]), ([2, 5], [2, 5]), ([], []), ([], []), ([8], [8]), ([9], [9]), ([7, 10], [7, 10]), ([1, 0, 1], [1]), ([6, 12, 0, 1, 2, 3, 4, 5, 6, 12], [2, 6]), ([11, 13, 0, 1, 2, 3, 4, 5, 6, 7, 8, 9, 10, 11, 12, 13], [7, 11])])
def startB.B10 : List Nat := [0, 1, 0, 0, 8, 24, 60, 0, 0, 256, 768, 1920, 3, 4223, 16383]
theorem startB.tab10 : rtab .any (opsOf Try.f14 10) = startB.T10 := by kernel_rfl
theorem startB.bits10 : waitsOk startB.T10.2 startB.B10 = true := by kernel_rfl

set_option maxHeartbeats 8000000 in
theorem start_calls (base g : Nat) (v : Value) (t0 : List Int) (k : Int) (W : World) (h : RopeIs base W g v t0) :
    Calls Try.prog 14 #[.pointer (some ⟨g, 0, none⟩), .int .i64 k] W fun e w' => e = .returned (.tuple #[.int .i64 (startF t0 k).1, .int .i64 (startF t0 k).2]) ∧ Below W.heap.size W w' := by
  have H := Aside0.mk h
  have hnl0 := nl_le t0
  obtain ⟨ns, root, hR, hT, hn, ht⟩ := h
  have HR := Aside0.mk hR
  have HT := Aside0.mk hT
  clear hR hT hn
  by_cases c1 : k < 0
  · have c1b : decide (k < 0) = true := decide_eq_true c1
    have E : Aside0 (startF t0 k = (0, 1)) := ⟨by unfold startF; rw [decide_eq_false (by omega)]; rfl⟩
    go_enter Try.func14, Try.ntmps14
    go_wp2_with fail
    go_ret2
    exact ⟨by rw [E.out]; rfl, Below.refl _ _⟩
  have c1b : decide (k < 0) = false := decide_eq_false c1
  by_cases c2 : (nl t0 : Int) < k
  · have c2b : decide ((nl t0 : Int) + 1 ≤ k) = true := decide_eq_true (by omega)
    have E : Aside0 (startF t0 k = (0, 1)) := ⟨by unfold startF; rw [decide_eq_false (show ¬ k ≤ (nl t0 : Int) by omega), Bool.and_false]; rfl⟩
    go_enter Try.func14, Try.ntmps14
    go_wp2_with fail
    refine (lines_is H.out).mono ?_
    rintro e w1 ⟨rfl, hb1⟩
    have HB1 := Aside0.mk hb1
    clear hb1
    go_wp2_with fail
    go_ret2
    exact ⟨by rw [E.out]; rfl, HB1.out⟩
  have c2b : decide ((nl t0 : Int) + 1 ≤ k) = false := decide_eq_false (by omega)
  by_cases c3 : k = 0
  · subst c3
    have E : Aside0 (startF t0 0 = (0, 0)) := ⟨by unfold startF; rw [decide_eq_true (by omega), decide_eq_true (by omega)]; simp [sp_zero]⟩
    go_enter Try.func14, Try.ntmps14
    go_wp2_with fail
    refine (lines_is H.out).mono ?_
    rintro e w1 ⟨rfl, hb1⟩
    have HB1 := Aside0.mk hb1
    clear hb1
    go_wp2_with fail
    go_ret2
    exact ⟨by rw [E.out]; rfl, HB1.out⟩
  have c3b : (k == 0) = false := beq_eq_false_iff_ne.mpr c3
  have E : Aside0 (startF t0 k = ((sp t0 k.toNat : Int), 0)) := ⟨by unfold startF; rw [decide_eq_true (by omega), decide_eq_true (by omega)]; rfl⟩
  go_enter Try.func14, Try.ntmps14
  go_wp2_with fail
  refine (lines_is H.out).mono ?_
  rintro e w1 ⟨rfl, hb1⟩
  have HB1 := Aside0.mk hb1
  have hq := pw_cell_below hb1 ((blk_cell HR.out.1 1).trans rfl)
  clear hb1
  go_wp2_with fail
  clear hq
  go_loopg [1, 6, 7, 8, 9] root.toNat (fun kq v1 v6 v7 v8 v9 wr => ∃ (i at_ ln : Int) (s : List Int), v6 = .int .i64 i ∧ v7 = .int .i64 at_ ∧ v1 = .int .i64 ln ∧ kq = i.toNat ∧ Aside0 (Tree ns i s) ∧ 1 ≤ ln ∧ ln ≤ nl s ∧ 0 ≤ at_ ∧ Aside0 (at_ + sp s ln.toNat = sp t0 k.toNat) ∧ at_ + s.length ≤ t0.length ∧ Aside0 (Below W.heap.size W wr))
  case atStart => exact ⟨root, 0, k, t0, rfl, rfl, rfl, rfl, HT, by omega, by omega, by omega, ⟨by omega⟩, by omega, HB1⟩
  case round =>
    obtain ⟨i, at_, ln, s1, rfl, rfl, rfl, hk, ht1, q1, q2, q3, ht2, q4, hbel⟩ := hrel
    obtain ⟨A, c, hv, hc, hc0, hc1, hf0, hf1, hrd⟩ := (HR.out.below hbel.out).open_
    have HK := Aside0.mk hk
    clear hk hv hc1 hf0 hf1 hc
    have hs1l := nl_le s1
    rcases ht1.out with ⟨_, _, h0, h1, hn⟩ | ⟨_, l, r, _, s, t, h0, h1, hn, hu, hl, hr, hs, ht, ps, pt⟩
    · obtain ⟨ad, A5, c5, rfl, x0, x1, x2, x3, x4, x5, l5, t5, n5⟩ := at_node hrd i h0 h1
      rw [hn] at x0 x1 x2 x3 x4 x5 l5 t5
      have HT5 : Aside0 (RI wr A5 s1) := ⟨t5.ri (show s1.length ≤ _ by omega)⟩
      clear hrd x0 x1 x2 x4 l5 t5 n5 hn
      replace h0 := eq_true h0
      replace h1 := eq_true h1
      go_wp2_with fail
      clear hc0 x3 x5 h0 h1
      obtain ⟨wo, hwo⟩ : ∃ w, w = wr := ⟨_, rfl⟩
      subst hwo
      go_loopg [1, 10, 11, 78] (s1.length + 1) (fun kq v1 v10 v11 v78 ws => ∃ (j : Nat) (m : Int), j ≤ s1.length ∧ v78 = .int .i64 (j : Int) ∧ v1 = .int .i64 m ∧ 1 ≤ m ∧ m ≤ 1000000 ∧ kq + j = s1.length + 1 ∧ Aside0 ((nl (s1.take j) : Int) + m = ln) ∧ Aside0 (Below wo.heap.size wo ws))
      case atStart => exact ⟨0, ln, Nat.zero_le _, rfl, rfl, q1, by omega, rfl, ⟨by simp [nl]⟩, ⟨Below.refl _ _⟩⟩
      case round =>
        obtain ⟨j, m, hj, rfl, rfl, m1, m2, hkj, hm, hbw⟩ := hrel
        have HKJ := Aside0.mk hkj
        clear hkj
        have HRW := Aside0.mk (HT5.out.below hbw.out)
        have HF : Aside0 (Below W.heap.size W wr) := ⟨below_then hbel.out hbel.out.size hbw.out⟩
        by_cases hlt : j < s1.length
        · obtain ⟨ad5, rfl, hcell⟩ := Kd.at_int HRW.out (j : Int) (by omega) (by omega)
          have hcell' : wr.cell? (ad5.add j) = some (.int .i32 (rd s1 j)) := hcell
          clear hcell
          cases gk with
          | zero => exact absurd HKJ.out (by omega)
          | succ k1 =>
            by_cases hx : rd s1 j = 10
            · have hx1 : (rd s1 j == 10) = true := beq_iff_eq.mpr hx
              have HX : Aside0 (s1.getD j 0 = 10) := ⟨hx⟩
              clear hx
              by_cases hm1 : m = 1
              · subst hm1
                have HS : Aside0 (sp s1 ln.toNat = j + 1) := ⟨sp_at s1 j ln.toNat hlt HX.out (by have := hm.out; omega)⟩
                have ER : Aside0 ((sp t0 k.toNat : Int) = at_ + j + 1) := ⟨by have := ht2.out; have := HS.out; omega⟩
                go_wp2_with fail
                go_ret2
                exact ⟨by rw [E.out, ER.out]; rfl, HF.out⟩
              · have hm2 : (m - 1 == 0) = false := beq_eq_false_iff_ne.mpr (by omega)
                go_wp2_with fail
                go_roundg k1
                case measure => omega
                case rel => exact ⟨j + 1, m - 1, by omega, by go_num, by go_num, by omega, by omega, by have := HKJ.out; omega, ⟨by rw [nl_take_succ s1 j hlt, if_pos HX.out]; have := hm.out; omega⟩, hbw⟩
            · have hx1 : (rd s1 j == 10) = false := beq_eq_false_iff_ne.mpr hx
              have HX : Aside0 (¬ s1.getD j 0 = 10) := ⟨hx⟩
              clear hx
              have hm2 : (m == 0) = false := beq_eq_false_iff_ne.mpr (by omega)
              go_wp2_with fail
              go_roundg k1
              case measure => omega
              case rel => exact ⟨j + 1, m, by omega, by go_num, by go_num, by omega, by omega, by have := HKJ.out; omega, ⟨by rw [nl_take_succ s1 j hlt, if_neg HX.out]; have := hm.out; omega⟩, hbw⟩
        · obtain rfl : j = s1.length := by omega
          have := hm.out
          rw [List.take_length] at this
          exact absurd q2 (by omega)
    · obtain ⟨ad, A5, c5, rfl, x0, x1, x2, x3, x4, x5, l5, t5, n5⟩ := at_node hrd i h0 h1
      obtain ⟨ad', A6, c6, he, y0, y1, y2, y3, y4, y5, l6, t6, n6⟩ := at_node hrd l hs.ix.1 hs.ix.2
      injection he with he
      subst he
      rw [hs.sum.1] at y0
      rw [hs.sum.2.1] at y1
      rw [hs.sum.2.2] at y2
      rw [hn] at x0 x1 x2 x3 x4 x5 n5
      have hl0 := hs.ix.1
      have hr0 := ht.ix.1
      obtain ⟨rfl, _, rfl⟩ := n5 (show l ≠ -1 by omega)
      have x5' : wr.cell? ⟨(ad.add (i.toNat * 6)).block, (ad.add (i.toNat * 6)).off + 5, none⟩ = some (.slice none 0 0) := x5
      obtain ⟨u, hu0⟩ : ∃ u, s1 = u := ⟨_, rfl⟩
      subst hu0
      have HU := Aside0.mk hu
      have hul : s1.length = s.length + t.length := by rw [hu, List.length_append]
      have hnlu : nl s1 = nl s + nl t := by rw [hu, nl_append]
      have HS := Aside0.mk hs
      have HTT := Aside0.mk ht
      have hnls := nl_le s
      have hlb : (l == -1) = false := beq_eq_false_iff_ne.mpr (by omega)
      have hil : l.toNat < i.toNat := by omega
      have hir : r.toNat < i.toNat := by omega
      have HIL := Aside0.mk hil
      have HIR := Aside0.mk hir
      have H2 := Aside0.mk (And.intro hul hnlu)
      have hbnd : at_ + s.length ≤ 2000 := by omega
      have B1 : Aside0 (((wr.alloc (.cells #[.int .i64 s1.length, .int .i64 (nl s1), .int .i64 (ub s1), .int .i64 l, .int .i64 r, .slice none 0 0] 67)).drew).heap[wr.heap.size]? = some (.cells #[.int .i64 s1.length, .int .i64 (nl s1), .int .i64 (ub s1), .int .i64 l, .int .i64 r, .slice none 0 0] 67)) := ⟨blk_drew (blk_new wr _)⟩
      have HD1 : Aside0 (Below wr.heap.size wr ((wr.alloc (.cells #[.int .i64 s1.length, .int .i64 (nl s1), .int .i64 (ub s1), .int .i64 l, .int .i64 r, .slice none 0 0] 67)).drew)) := ⟨(below_alloc (Below.refl _ _) _).drew⟩
      have B2 : Aside0 ((((wr.alloc (.cells #[.int .i64 s1.length, .int .i64 (nl s1), .int .i64 (ub s1), .int .i64 l, .int .i64 r, .slice none 0 0] 67)).drew).alloc (.cells #[.int .i64 0, .int .i64 0, .int .i64 0, .int .i64 0, .int .i64 0, .slice none 0 0] 67)).heap[wr.heap.size]? = some (.cells #[.int .i64 s1.length, .int .i64 (nl s1), .int .i64 (ub s1), .int .i64 l, .int .i64 r, .slice none 0 0] 67)) := ⟨blk_alloc B1.out _⟩
      have HD2 : Aside0 (Below wr.heap.size wr (((wr.alloc (.cells #[.int .i64 s1.length, .int .i64 (nl s1), .int .i64 (ub s1), .int .i64 l, .int .i64 r, .slice none 0 0] 67)).drew).alloc (.cells #[.int .i64 0, .int .i64 0, .int .i64 0, .int .i64 0, .int .i64 0, .slice none 0 0] 67))) := ⟨below_alloc HD1.out _⟩
      have Z2 : Aside0 ((((wr.alloc (.cells #[.int .i64 s1.length, .int .i64 (nl s1), .int .i64 (ub s1), .int .i64 l, .int .i64 r, .slice none 0 0] 67)).drew).alloc (.cells #[.int .i64 0, .int .i64 0, .int .i64 0, .int .i64 0, .int .i64 0, .slice none 0 0] 67)).heap[wr.heap.size + 1]? = some (.cells #[.int .i64 0, .int .i64 0, .int .i64 0, .int .i64 0, .int .i64 0, .slice none 0 0] 67)) := ⟨by simpa using blk_new ((wr.alloc (.cells #[.int .i64 s1.length, .int .i64 (nl s1), .int .i64 (ub s1), .int .i64 l, .int .i64 r, .slice none 0 0] 67)).drew) (.cells #[.int .i64 0, .int .i64 0, .int .i64 0, .int .i64 0, .int .i64 0, .slice none 0 0] 67)⟩
      clear x5 hrd l5 t5 n5 l6 t6 n6 hn hu hs ht hul hnlu hil hir
      replace h0 := eq_true h0
      replace h1 := eq_true h1
      have p0 := eq_true HS.out.ix.1
      have p1 := eq_true HS.out.ix.2
      by_cases hln : (nl s : Int) < ln
      · have hlnb : decide ((nl s : Int) < ln) = true := decide_eq_true hln
        go_wp2_with fail
        refine start_ (n := 10) (S := fun w' => w'.cell? ⟨g, 0, none⟩ = some (.slice (some ad) ns.length c) ∧ w'.cell? ⟨wr.heap.size, 3, none⟩ = some (.int .i64 l) ∧ w'.cell? (ad.add (l.toNat * 6)) = some (.int .i64 s.length) ∧ w'.cell? ⟨(ad.add (l.toNat * 6)).block, (ad.add (l.toNat * 6)).off + 1, none⟩ = some (.int .i64 (nl s)) ∧ w'.cell? ⟨(ad.add (l.toNat * 6)).block, (ad.add (l.toNat * 6)).off + 2, none⟩ = some (.int .i64 (ub s)) ∧ w'.cell? ⟨(ad.add (l.toNat * 6)).block, (ad.add (l.toNat * 6)).off + 3, none⟩ = some (.int .i64 (nd ns l).lf) ∧ w'.cell? ⟨(ad.add (l.toNat * 6)).block, (ad.add (l.toNat * 6)).off + 4, none⟩ = some (.int .i64 (nd ns l).rt) ∧ w'.cell? ⟨(ad.add (l.toNat * 6)).block, (ad.add (l.toNat * 6)).off + 5, none⟩ = some (.slice A6 (nd ns l).tx.length c6)) (ds := [9]) #[false, false, false, false, false, false, false, false, false, false] (by kernel_rfl) rfl rfl ⟨pw_cell_below HD1.out hc0, (blk_cell B1.out 3).trans rfl, pw_cell_below HD1.out y0, pw_cell_below HD1.out y1, pw_cell_below HD1.out y2, pw_cell_below HD1.out y3, pw_cell_below HD1.out y4, pw_cell_below HD1.out y5⟩ (fun hHeld => ?_); refine with_tabW startA.tab8 startA.bits8 (fun HT_ HW_ => ?_)
        refine pure_ (i := 0) (N := some 42) (v := ?_) (a' := ?_) #[true, false, false, false, false, false, false, false, false, false] rfl rfl (any_of HT_.out (by kernel_rfl)) (fun _ _ _ h => h) (Or.inl ⟨by rfl, ?_⟩) ?_ ?_
        rotate_left
        · intro w'
          go_simp
          with_reducible rfl
        rotate_left
        · simp only [Act.put, List.setIfInBounds_toArray, List.set_cons_zero, List.set_cons_succ, i64_w, i32_w]
          rfl
        refine pure_ (i := 1) (N := some 43) (v := ?_) (a' := ?_) #[true, true, false, false, false, false, false, false, false, false] rfl rfl (any_of HT_.out (by kernel_rfl)) (fun _ _ _ h => h) (Or.inl ⟨by rfl, ?_⟩) ?_ ?_
        rotate_left
        · intro w'
          go_simp
          with_reducible rfl
        rotate_left
        · simp only [Act.put, List.setIfInBounds_toArray, List.set_cons_zero, List.set_cons_succ, i64_w, i32_w]
          rfl
        refine pure_ (i := 2) (N := some 44) (v := ?_) (a' := ?_) #[true, true, true, false, false, false, false, false, false, false] rfl rfl (any_of HT_.out (by kernel_rfl)) (fun _ _ _ h => h) (Or.inl ⟨by rfl, ?_⟩) ?_ ?_
        rotate_left
        · intro w'
          go_simp
          with_reducible rfl
        rotate_left
        · simp only [Act.put, List.setIfInBounds_toArray, List.set_cons_zero, List.set_cons_succ, i64_w, i32_w]
          rfl
        refine take_ (i := 3) (N := some 45) (v := ?_) (a' := ?_) #[true, true, true, true, false, false, false, false, false, false] rfl rfl (take_ofW HT_.out HW_.out (by kernel_rfl)) (fun _ _ _ h => h) (Or.inl ⟨by rfl, ?_⟩) hHeld ?_ ?_
        rotate_left
        · rintro w' ⟨s0, s1, s2, s3, s4, s5, s6, s7⟩
          go_simp
          with_reducible rfl
        rotate_left
        · simp only [Act.put, List.setIfInBounds_toArray, List.set_cons_zero, List.set_cons_succ, i64_w, i32_w]
          rfl
        refine pure_ (i := 4) (N := some 46) (v := ?_) (a' := ?_) #[true, true, true, true, true, false, false, false, false, false] rfl rfl (any_of HT_.out (by kernel_rfl)) (fun _ _ _ h => h) (Or.inl ⟨by rfl, ?_⟩) ?_ ?_
        rotate_left
        · intro w'
          go_simp
          with_reducible rfl
        rotate_left
        · simp only [Act.put, List.setIfInBounds_toArray, List.set_cons_zero, List.set_cons_succ, i64_w, i32_w]
          rfl
        refine take_ (i := 5) (N := some 47) (v := ?_) (a' := ?_) #[true, true, true, true, true, true, false, false, false, false] rfl rfl (take_ofW HT_.out HW_.out (by kernel_rfl)) (fun _ _ _ h => h) (Or.inl ⟨by rfl, ?_⟩) hHeld ?_ ?_
        rotate_left
        · rintro w' ⟨s0, s1, s2, s3, s4, s5, s6, s7⟩
          go_simp
          with_reducible rfl
        rotate_left
        · simp only [Act.put, List.setIfInBounds_toArray, List.set_cons_zero, List.set_cons_succ, i64_w, i32_w]
          rfl
        refine pure_ (i := 6) (N := some 48) (v := ?_) (a' := ?_) #[true, true, true, true, true, true, true, false, false, false] rfl rfl (any_of HT_.out (by kernel_rfl)) (fun _ _ _ h => h) (Or.inl ⟨by rfl, ?_⟩) ?_ ?_
        rotate_left
        · intro w'
          go_simp
          with_reducible rfl
        rotate_left
        · simp only [Act.put, List.setIfInBounds_toArray, List.set_cons_zero, List.set_cons_succ, i64_w, i32_w]
          rfl
        refine take_ (i := 7) (N := some 49) (v := ?_) (a' := ?_) #[true, true, true, true, true, true, true, true, false, false] rfl rfl (take_ofW HT_.out HW_.out (by kernel_rfl)) (fun _ _ _ h => h) (Or.inl ⟨by rfl, ?_⟩) hHeld ?_ ?_
        rotate_left
        · rintro w' ⟨s0, s1, s2, s3, s4, s5, s6, s7⟩
          go_simp
          with_reducible rfl
        rotate_left
        · simp only [Act.put, List.setIfInBounds_toArray, List.set_cons_zero, List.set_cons_succ, i64_w, i32_w]
          rfl
        refine one_ (i := 8) (N := some 9) #[true, true, true, true, true, true, true, true, true, false] rfl rfl (one_of HT_.out (by kernel_rfl)) (by decide) (fun K hK => ?_)
        refine value_ (by rfl) rfl (v := .pointer (some ⟨wr.heap.size + 1, 0, none⟩)) (w1 := ((wr.alloc (.cells #[.int .i64 s1.length, .int .i64 (nl s1), .int .i64 (ub s1), .int .i64 l, .int .i64 r, .slice none 0 0] 67)).drew).alloc (.cells #[.int .i64 0, .int .i64 0, .int .i64 0, .int .i64 0, .int .i64 0, .slice none 0 0] 67)) ?hr ?_
        case hr => go_simp
        refine hK.out _ _ ⟨pw_cell_below HD2.out hc0, (blk_cell B2.out 3).trans rfl, pw_cell_below HD2.out y0, pw_cell_below HD2.out y1, pw_cell_below HD2.out y2, pw_cell_below HD2.out y3, pw_cell_below HD2.out y4, pw_cell_below HD2.out y5⟩ (fun hHeld => ?_)
        clear hK K
        refine norm_ (a' := ?_) ?_ ?_
        rotate_left
        · show Act.put _ (some 9) _ = _
          simp only [Act.put, List.setIfInBounds_toArray, List.set_cons_zero, List.set_cons_succ, i64_w, i32_w]
          rfl
        refine last_ (i := 9) (N := none) #[true, true, true, true, true, true, true, true, true, true] rfl rfl (one_of HT_.out (by kernel_rfl)) (by decide) (fun K hK => ?_)
        refine skip_ (by rfl) rfl (w1 := (((((((((wr.alloc (.cells #[.int .i64 s1.length, .int .i64 (nl s1), .int .i64 (ub s1), .int .i64 l, .int .i64 r, .slice none 0 0] 67)).drew).alloc (.cells #[.int .i64 0, .int .i64 0, .int .i64 0, .int .i64 0, .int .i64 0, .slice none 0 0] 67)).setCell ⟨wr.heap.size + 1, 0, none⟩ (.int .i64 s.length)).setCell ⟨wr.heap.size + 1, 1, none⟩ (.int .i64 (nl s))).setCell ⟨wr.heap.size + 1, 2, none⟩ (.int .i64 (ub s))).setCell ⟨wr.heap.size + 1, 3, none⟩ (.int .i64 (nd ns l).lf)).setCell ⟨wr.heap.size + 1, 4, none⟩ (.int .i64 (nd ns l).rt)).setCell ⟨wr.heap.size + 1, 5, none⟩ (.slice A6 (nd ns l).tx.length c6))) ?hr ?_
        case hr => go_simp
        refine hK.out _ _ ?_
        clear hK K
        refine done_ (done_of HT_.out (by kernel_rfl)) ?_
        obtain ⟨w3, hw3⟩ : ∃ w3, (((((((((wr.alloc (.cells #[.int .i64 s1.length, .int .i64 (nl s1), .int .i64 (ub s1), .int .i64 l, .int .i64 r, .slice none 0 0] 67)).drew).alloc (.cells #[.int .i64 0, .int .i64 0, .int .i64 0, .int .i64 0, .int .i64 0, .slice none 0 0] 67)).setCell ⟨wr.heap.size + 1, 0, none⟩ (.int .i64 s.length)).setCell ⟨wr.heap.size + 1, 1, none⟩ (.int .i64 (nl s))).setCell ⟨wr.heap.size + 1, 2, none⟩ (.int .i64 (ub s))).setCell ⟨wr.heap.size + 1, 3, none⟩ (.int .i64 (nd ns l).lf)).setCell ⟨wr.heap.size + 1, 4, none⟩ (.int .i64 (nd ns l).rt)).setCell ⟨wr.heap.size + 1, 5, none⟩ (.slice A6 (nd ns l).tx.length c6)) = w3 := ⟨_, rfl⟩
        have P8 : w3.heap[wr.heap.size]? = some (.cells #[.int .i64 s1.length, .int .i64 (nl s1), .int .i64 (ub s1), .int .i64 l, .int .i64 r, .slice none 0 0] 67) := by rw [← hw3]; exact (blk_far (blk_far (blk_far (blk_far (blk_far (blk_far B2.out (p := ⟨wr.heap.size + 1, 0, none⟩) (by show wr.heap.size ≠ wr.heap.size + 1; omega) (.int .i64 s.length)) (p := ⟨wr.heap.size + 1, 1, none⟩) (by show wr.heap.size ≠ wr.heap.size + 1; omega) (.int .i64 (nl s))) (p := ⟨wr.heap.size + 1, 2, none⟩) (by show wr.heap.size ≠ wr.heap.size + 1; omega) (.int .i64 (ub s))) (p := ⟨wr.heap.size + 1, 3, none⟩) (by show wr.heap.size ≠ wr.heap.size + 1; omega) (.int .i64 (nd ns l).lf)) (p := ⟨wr.heap.size + 1, 4, none⟩) (by show wr.heap.size ≠ wr.heap.size + 1; omega) (.int .i64 (nd ns l).rt)) (p := ⟨wr.heap.size + 1, 5, none⟩) (by show wr.heap.size ≠ wr.heap.size + 1; omega) (.slice A6 (nd ns l).tx.length c6))
        have P9 : w3.heap[wr.heap.size + 1]? = some (.cells #[.int .i64 s.length, .int .i64 (nl s), .int .i64 (ub s), .int .i64 (nd ns l).lf, .int .i64 (nd ns l).rt, .slice A6 (nd ns l).tx.length c6] 67) := by rw [← hw3]; exact (blk_put (blk_put (blk_put (blk_put (blk_put (blk_put Z2.out 0 (.int .i64 s.length) rfl) 1 (.int .i64 (nl s)) rfl) 2 (.int .i64 (ub s)) rfl) 3 (.int .i64 (nd ns l).lf) rfl) 4 (.int .i64 (nd ns l).rt) rfl) 5 (.slice A6 (nd ns l).tx.length c6) rfl)
        have H3 : Aside0 (Below wr.heap.size wr w3) := ⟨by rw [← hw3]; exact ((((((HD2.out.setCell (show wr.heap.size ≤ wr.heap.size + 1 from Nat.le_succ _) (.int .i64 s.length)).setCell (show wr.heap.size ≤ wr.heap.size + 1 from Nat.le_succ _) (.int .i64 (nl s))).setCell (show wr.heap.size ≤ wr.heap.size + 1 from Nat.le_succ _) (.int .i64 (ub s))).setCell (show wr.heap.size ≤ wr.heap.size + 1 from Nat.le_succ _) (.int .i64 (nd ns l).lf)).setCell (show wr.heap.size ≤ wr.heap.size + 1 from Nat.le_succ _) (.int .i64 (nd ns l).rt)).setCell (show wr.heap.size ≤ wr.heap.size + 1 from Nat.le_succ _) (.slice A6 (nd ns l).tx.length c6))⟩
        rw [hw3]
        clear hw3
        have Q8 := Aside0.mk P8
        have Q9 := Aside0.mk P9
        have z1 := (blk_cell P9 1).trans rfl
        clear P8 P9 x0 x1 x2 x3 x4 x5' y0 y1 y2 y3 y4 y5 hc0
        go_wp2_with fail
        refine start_ (n := 15) (S := fun w' => w'.cell? ⟨wr.heap.size, 4, none⟩ = some (.int .i64 r) ∧ w'.cell? ⟨wr.heap.size + 1, 0, none⟩ = some (.int .i64 s.length) ∧ w'.cell? ⟨wr.heap.size + 1, 1, none⟩ = some (.int .i64 (nl s))) (ds := []) #[false, false, false, false, false, false, false, false, false, false, false, false, false, false, false] (by kernel_rfl) rfl rfl ⟨(blk_cell (blk_drew Q8.out) 4).trans rfl, (blk_cell (blk_drew Q9.out) 0).trans rfl, (blk_cell (blk_drew Q9.out) 1).trans rfl⟩ (fun hHeld => ?_); refine with_tabW startB.tab10 startB.bits10 (fun HT_ HW_ => ?_)
        refine pure_ (i := 0) (N := some 55) (v := ?_) (a' := ?_) #[true, false, false, false, false, false, false, false, false, false, false, false, false, false, false] rfl rfl (any_of HT_.out (by kernel_rfl)) (fun _ _ _ h => h) (Or.inl ⟨by rfl, ?_⟩) ?_ ?_
        rotate_left
        · intro w'
          go_simp
          with_reducible rfl
        rotate_left
        · simp only [Act.put, List.setIfInBounds_toArray, List.set_cons_zero, List.set_cons_succ, i64_w, i32_w]
          rfl
        refine take_ (i := 1) (N := some 56) (v := ?_) (a' := ?_) #[true, true, false, false, false, false, false, false, false, false, false, false, false, false, false] rfl rfl (take_ofW HT_.out HW_.out (by kernel_rfl)) (fun _ _ _ h => h) (Or.inl ⟨by rfl, ?_⟩) hHeld ?_ ?_
        rotate_left
        · rintro w' ⟨s0, s1, s2⟩
          go_simp
          with_reducible rfl
        rotate_left
        · simp only [Act.put, List.setIfInBounds_toArray, List.set_cons_zero, List.set_cons_succ, i64_w, i32_w]
          rfl
        refine pure_ (i := 2) (N := some 57) (v := ?_) (a' := ?_) #[true, true, true, false, false, false, false, false, false, false, false, false, false, false, false] rfl rfl (any_of HT_.out (by kernel_rfl)) (fun _ _ _ h => h) (Or.inl ⟨by rfl, ?_⟩) ?_ ?_
        rotate_left
        · intro w'
          go_simp
          with_reducible rfl
        rotate_left
        · simp only [Act.put, List.setIfInBounds_toArray, List.set_cons_zero, List.set_cons_succ, i64_w, i32_w]
          rfl
        refine pure_ (i := 3) (N := some 58) (v := ?_) (a' := ?_) #[true, true, true, true, false, false, false, false, false, false, false, false, false, false, false] rfl rfl (any_of HT_.out (by kernel_rfl)) (fun _ _ _ h => h) (Or.inl ⟨by rfl, ?_⟩) ?_ ?_
        rotate_left
        · intro w'
          go_simp
          with_reducible rfl
        rotate_left
        · simp only [Act.put, List.setIfInBounds_toArray, List.set_cons_zero, List.set_cons_succ, i64_w, i32_w]
          rfl
        refine pure_ (i := 4) (N := some 59) (v := ?_) (a' := ?_) #[true, true, true, true, true, false, false, false, false, false, false, false, false, false, false] rfl rfl (any_of HT_.out (by kernel_rfl)) (fun _ _ _ h => h) (Or.inl ⟨by rfl, ?_⟩) ?_ ?_
        rotate_left
        · intro w'
          go_simp
          with_reducible rfl
        rotate_left
        · simp only [Act.put, List.setIfInBounds_toArray, List.set_cons_zero, List.set_cons_succ, i64_w, i32_w]
          rfl
        refine take_ (i := 5) (N := some 60) (v := ?_) (a' := ?_) #[true, true, true, true, true, true, false, false, false, false, false, false, false, false, false] rfl rfl (take_ofW HT_.out HW_.out (by kernel_rfl)) (fun _ _ _ h => h) (Or.inl ⟨by rfl, ?_⟩) hHeld ?_ ?_
        rotate_left
        · rintro w' ⟨s0, s1, s2⟩
          go_simp
          with_reducible rfl
        rotate_left
        · simp only [Act.put, List.setIfInBounds_toArray, List.set_cons_zero, List.set_cons_succ, i64_w, i32_w]
          rfl
        refine pure_ (i := 6) (N := some 61) (v := .int .i64 (at_ + s.length)) (a' := ?pastartB_6_1) #[true, true, true, true, true, true, true, false, false, false, false, false, false, false, false] rfl rfl (any_of HT_.out (by kernel_rfl)) (fun _ _ _ h => h) (Or.inl ⟨by rfl, ?pystartB_6_1⟩) ?pestartB_6_1 ?prstartB_6_1
        case pestartB_6_1 =>
          simp only [Act.put, List.setIfInBounds_toArray, List.set_cons_zero, List.set_cons_succ, i64_w, i32_w]
          rfl
        case pystartB_6_1 =>
          intro w'
          go_simp
          exact IntWalk.i64_in _ (by omega)
        refine pure_ (i := 7) (N := some 62) (v := ?_) (a' := ?_) #[true, true, true, true, true, true, true, true, false, false, false, false, false, false, false] rfl rfl (any_of HT_.out (by kernel_rfl)) (fun _ _ _ h => h) (Or.inl ⟨by rfl, ?_⟩) ?_ ?_
        rotate_left
        · intro w'
          go_simp
          with_reducible rfl
        rotate_left
        · simp only [Act.put, List.setIfInBounds_toArray, List.set_cons_zero, List.set_cons_succ, i64_w, i32_w]
          rfl
        refine pure_ (i := 8) (N := some 63) (v := ?_) (a' := ?_) #[true, true, true, true, true, true, true, true, true, false, false, false, false, false, false] rfl rfl (any_of HT_.out (by kernel_rfl)) (fun _ _ _ h => h) (Or.inl ⟨by rfl, ?_⟩) ?_ ?_
        rotate_left
        · intro w'
          go_simp
          with_reducible rfl
        rotate_left
        · simp only [Act.put, List.setIfInBounds_toArray, List.set_cons_zero, List.set_cons_succ, i64_w, i32_w]
          rfl
        refine pure_ (i := 9) (N := some 64) (v := ?_) (a' := ?_) #[true, true, true, true, true, true, true, true, true, true, false, false, false, false, false] rfl rfl (any_of HT_.out (by kernel_rfl)) (fun _ _ _ h => h) (Or.inl ⟨by rfl, ?_⟩) ?_ ?_
        rotate_left
        · intro w'
          go_simp
          with_reducible rfl
        rotate_left
        · simp only [Act.put, List.setIfInBounds_toArray, List.set_cons_zero, List.set_cons_succ, i64_w, i32_w]
          rfl
        refine take_ (i := 10) (N := some 65) (v := ?_) (a' := ?_) #[true, true, true, true, true, true, true, true, true, true, true, false, false, false, false] rfl rfl (take_ofW HT_.out HW_.out (by kernel_rfl)) (fun _ _ _ h => h) (Or.inl ⟨by rfl, ?_⟩) hHeld ?_ ?_
        rotate_left
        · rintro w' ⟨s0, s1, s2⟩
          go_simp
          with_reducible rfl
        rotate_left
        · simp only [Act.put, List.setIfInBounds_toArray, List.set_cons_zero, List.set_cons_succ, i64_w, i32_w]
          rfl
        refine pure_ (i := 11) (N := some 66) (v := .int .i64 (ln - nl s)) (a' := ?pastartB_11_2) #[true, true, true, true, true, true, true, true, true, true, true, true, false, false, false] rfl rfl (any_of HT_.out (by kernel_rfl)) (fun _ _ _ h => h) (Or.inl ⟨by rfl, ?pystartB_11_2⟩) ?pestartB_11_2 ?prstartB_11_2
        case pestartB_11_2 =>
          simp only [Act.put, List.setIfInBounds_toArray, List.set_cons_zero, List.set_cons_succ, i64_w, i32_w]
          rfl
        case pystartB_11_2 =>
          intro w'
          go_simp
          exact IntWalk.i64_in _ (by omega)
        refine pure_ (i := 12) (N := some 6) (v := ?_) (a' := ?_) #[true, true, true, true, true, true, true, true, true, true, true, true, true, false, false] rfl rfl (any_of HT_.out (by kernel_rfl)) (fun _ _ _ h => h) (Or.inl ⟨by rfl, ?_⟩) ?_ ?_
        rotate_left
        · intro w'
          go_simp
          with_reducible rfl
        rotate_left
        · simp only [Act.put, List.setIfInBounds_toArray, List.set_cons_zero, List.set_cons_succ, i64_w, i32_w]
          rfl
        refine pure_ (i := 13) (N := some 7) (v := ?_) (a' := ?_) #[true, true, true, true, true, true, true, true, true, true, true, true, true, true, false] rfl rfl (any_of HT_.out (by kernel_rfl)) (fun _ _ _ h => h) (Or.inl ⟨by rfl, ?_⟩) ?_ ?_
        rotate_left
        · intro w'
          go_simp
          with_reducible rfl
        rotate_left
        · simp only [Act.put, List.setIfInBounds_toArray, List.set_cons_zero, List.set_cons_succ, i64_w, i32_w]
          rfl
        refine pure_ (i := 14) (N := some 1) (v := ?_) (a' := ?_) #[true, true, true, true, true, true, true, true, true, true, true, true, true, true, true] rfl rfl (any_of HT_.out (by kernel_rfl)) (fun _ _ _ h => h) (Or.inl ⟨by rfl, ?_⟩) ?_ ?_
        rotate_left
        · intro w'
          go_simp
          with_reducible rfl
        rotate_left
        · simp only [Act.put, List.setIfInBounds_toArray, List.set_cons_zero, List.set_cons_succ, i64_w, i32_w]
          rfl
        refine done_ (done_of HT_.out (by kernel_rfl)) ?_
        skip
        go_wp2_with fail
        have G := H2.out
        go_roundg r.toNat
        case measure => rw [HK.out]; exact HIR.out
        case rel => exact ⟨r, at_ + s.length, ln - nl s, t, rfl, rfl, rfl, rfl, HTT, by omega, by omega, by omega, ⟨by have := ht2.out; rw [HU.out, sp_append _ _ _ (by omega), if_neg (by omega)] at this; rw [show (ln - (nl s : Int)).toNat = ln.toNat - nl s from by omega]; omega⟩, by omega, ⟨(below_then hbel.out hbel.out.size H3.out).drew⟩⟩
      · have hlnb : decide ((nl s : Int) < ln) = false := decide_eq_false hln
        go_wp2_with fail
        refine start_ (n := 10) (S := fun w' => w'.cell? ⟨g, 0, none⟩ = some (.slice (some ad) ns.length c) ∧ w'.cell? ⟨wr.heap.size, 3, none⟩ = some (.int .i64 l) ∧ w'.cell? (ad.add (l.toNat * 6)) = some (.int .i64 s.length) ∧ w'.cell? ⟨(ad.add (l.toNat * 6)).block, (ad.add (l.toNat * 6)).off + 1, none⟩ = some (.int .i64 (nl s)) ∧ w'.cell? ⟨(ad.add (l.toNat * 6)).block, (ad.add (l.toNat * 6)).off + 2, none⟩ = some (.int .i64 (ub s)) ∧ w'.cell? ⟨(ad.add (l.toNat * 6)).block, (ad.add (l.toNat * 6)).off + 3, none⟩ = some (.int .i64 (nd ns l).lf) ∧ w'.cell? ⟨(ad.add (l.toNat * 6)).block, (ad.add (l.toNat * 6)).off + 4, none⟩ = some (.int .i64 (nd ns l).rt) ∧ w'.cell? ⟨(ad.add (l.toNat * 6)).block, (ad.add (l.toNat * 6)).off + 5, none⟩ = some (.slice A6 (nd ns l).tx.length c6)) (ds := [9]) #[false, false, false, false, false, false, false, false, false, false] (by kernel_rfl) rfl rfl ⟨pw_cell_below HD1.out hc0, (blk_cell B1.out 3).trans rfl, pw_cell_below HD1.out y0, pw_cell_below HD1.out y1, pw_cell_below HD1.out y2, pw_cell_below HD1.out y3, pw_cell_below HD1.out y4, pw_cell_below HD1.out y5⟩ (fun hHeld => ?_); refine with_tabW startA.tab8 startA.bits8 (fun HT_ HW_ => ?_)
        refine pure_ (i := 0) (N := some 42) (v := ?_) (a' := ?_) #[true, false, false, false, false, false, false, false, false, false] rfl rfl (any_of HT_.out (by kernel_rfl)) (fun _ _ _ h => h) (Or.inl ⟨by rfl, ?_⟩) ?_ ?_
        rotate_left
        · intro w'
          go_simp
          with_reducible rfl
        rotate_left
        · simp only [Act.put, List.setIfInBounds_toArray, List.set_cons_zero, List.set_cons_succ, i64_w, i32_w]
          rfl
        refine pure_ (i := 1) (N := some 43) (v := ?_) (a' := ?_) #[true, true, false, false, false, false, false, false, false, false] rfl rfl (any_of HT_.out (by kernel_rfl)) (fun _ _ _ h => h) (Or.inl ⟨by rfl, ?_⟩) ?_ ?_
        rotate_left
        · intro w'
          go_simp
          with_reducible rfl
        rotate_left
        · simp only [Act.put, List.setIfInBounds_toArray, List.set_cons_zero, List.set_cons_succ, i64_w, i32_w]
          rfl
        refine pure_ (i := 2) (N := some 44) (v := ?_) (a' := ?_) #[true, true, true, false, false, false, false, false, false, false] rfl rfl (any_of HT_.out (by kernel_rfl)) (fun _ _ _ h => h) (Or.inl ⟨by rfl, ?_⟩) ?_ ?_
        rotate_left
        · intro w'
          go_simp
          with_reducible rfl
        rotate_left
        · simp only [Act.put, List.setIfInBounds_toArray, List.set_cons_zero, List.set_cons_succ, i64_w, i32_w]
          rfl
        refine take_ (i := 3) (N := some 45) (v := ?_) (a' := ?_) #[true, true, true, true, false, false, false, false, false, false] rfl rfl (take_ofW HT_.out HW_.out (by kernel_rfl)) (fun _ _ _ h => h) (Or.inl ⟨by rfl, ?_⟩) hHeld ?_ ?_
        rotate_left
        · rintro w' ⟨s0, s1, s2, s3, s4, s5, s6, s7⟩
          go_simp
          with_reducible rfl
        rotate_left
        · simp only [Act.put, List.setIfInBounds_toArray, List.set_cons_zero, List.set_cons_succ, i64_w, i32_w]
          rfl
        refine pure_ (i := 4) (N := some 46) (v := ?_) (a' := ?_) #[true, true, true, true, true, false, false, false, false, false] rfl rfl (any_of HT_.out (by kernel_rfl)) (fun _ _ _ h => h) (Or.inl ⟨by rfl, ?_⟩) ?_ ?_
        rotate_left
        · intro w'
          go_simp
          with_reducible rfl
        rotate_left
        · simp only [Act.put, List.setIfInBounds_toArray, List.set_cons_zero, List.set_cons_succ, i64_w, i32_w]
          rfl
        refine take_ (i := 5) (N := some 47) (v := ?_) (a' := ?_) #[true, true, true, true, true, true, false, false, false, false] rfl rfl (take_ofW HT_.out HW_.out (by kernel_rfl)) (fun _ _ _ h => h) (Or.inl ⟨by rfl, ?_⟩) hHeld ?_ ?_
        rotate_left
        · rintro w' ⟨s0, s1, s2, s3, s4, s5, s6, s7⟩
          go_simp
          with_reducible rfl
        rotate_left
        · simp only [Act.put, List.setIfInBounds_toArray, List.set_cons_zero, List.set_cons_succ, i64_w, i32_w]
          rfl
        refine pure_ (i := 6) (N := some 48) (v := ?_) (a' := ?_) #[true, true, true, true, true, true, true, false, false, false] rfl rfl (any_of HT_.out (by kernel_rfl)) (fun _ _ _ h => h) (Or.inl ⟨by rfl, ?_⟩) ?_ ?_
        rotate_left
        · intro w'
          go_simp
          with_reducible rfl
        rotate_left
        · simp only [Act.put, List.setIfInBounds_toArray, List.set_cons_zero, List.set_cons_succ, i64_w, i32_w]
          rfl
        refine take_ (i := 7) (N := some 49) (v := ?_) (a' := ?_) #[true, true, true, true, true, true, true, true, false, false] rfl rfl (take_ofW HT_.out HW_.out (by kernel_rfl)) (fun _ _ _ h => h) (Or.inl ⟨by rfl, ?_⟩) hHeld ?_ ?_
        rotate_left
        · rintro w' ⟨s0, s1, s2, s3, s4, s5, s6, s7⟩
          go_simp
          with_reducible rfl
        rotate_left
        · simp only [Act.put, List.setIfInBounds_toArray, List.set_cons_zero, List.set_cons_succ, i64_w, i32_w]
          rfl
        refine one_ (i := 8) (N := some 9) #[true, true, true, true, true, true, true, true, true, false] rfl rfl (one_of HT_.out (by kernel_rfl)) (by decide) (fun K hK => ?_)
        refine value_ (by rfl) rfl (v := .pointer (some ⟨wr.heap.size + 1, 0, none⟩)) (w1 := ((wr.alloc (.cells #[.int .i64 s1.length, .int .i64 (nl s1), .int .i64 (ub s1), .int .i64 l, .int .i64 r, .slice none 0 0] 67)).drew).alloc (.cells #[.int .i64 0, .int .i64 0, .int .i64 0, .int .i64 0, .int .i64 0, .slice none 0 0] 67)) ?hr ?_
        case hr => go_simp
        refine hK.out _ _ ⟨pw_cell_below HD2.out hc0, (blk_cell B2.out 3).trans rfl, pw_cell_below HD2.out y0, pw_cell_below HD2.out y1, pw_cell_below HD2.out y2, pw_cell_below HD2.out y3, pw_cell_below HD2.out y4, pw_cell_below HD2.out y5⟩ (fun hHeld => ?_)
        clear hK K
        refine norm_ (a' := ?_) ?_ ?_
        rotate_left
        · show Act.put _ (some 9) _ = _
          simp only [Act.put, List.setIfInBounds_toArray, List.set_cons_zero, List.set_cons_succ, i64_w, i32_w]
          rfl
        refine last_ (i := 9) (N := none) #[true, true, true, true, true, true, true, true, true, true] rfl rfl (one_of HT_.out (by kernel_rfl)) (by decide) (fun K hK => ?_)
        refine skip_ (by rfl) rfl (w1 := (((((((((wr.alloc (.cells #[.int .i64 s1.length, .int .i64 (nl s1), .int .i64 (ub s1), .int .i64 l, .int .i64 r, .slice none 0 0] 67)).drew).alloc (.cells #[.int .i64 0, .int .i64 0, .int .i64 0, .int .i64 0, .int .i64 0, .slice none 0 0] 67)).setCell ⟨wr.heap.size + 1, 0, none⟩ (.int .i64 s.length)).setCell ⟨wr.heap.size + 1, 1, none⟩ (.int .i64 (nl s))).setCell ⟨wr.heap.size + 1, 2, none⟩ (.int .i64 (ub s))).setCell ⟨wr.heap.size + 1, 3, none⟩ (.int .i64 (nd ns l).lf)).setCell ⟨wr.heap.size + 1, 4, none⟩ (.int .i64 (nd ns l).rt)).setCell ⟨wr.heap.size + 1, 5, none⟩ (.slice A6 (nd ns l).tx.length c6))) ?hr ?_
        case hr => go_simp
        refine hK.out _ _ ?_
        clear hK K
        refine done_ (done_of HT_.out (by kernel_rfl)) ?_
        obtain ⟨w3, hw3⟩ : ∃ w3, (((((((((wr.alloc (.cells #[.int .i64 s1.length, .int .i64 (nl s1), .int .i64 (ub s1), .int .i64 l, .int .i64 r, .slice none 0 0] 67)).drew).alloc (.cells #[.int .i64 0, .int .i64 0, .int .i64 0, .int .i64 0, .int .i64 0, .slice none 0 0] 67)).setCell ⟨wr.heap.size + 1, 0, none⟩ (.int .i64 s.length)).setCell ⟨wr.heap.size + 1, 1, none⟩ (.int .i64 (nl s))).setCell ⟨wr.heap.size + 1, 2, none⟩ (.int .i64 (ub s))).setCell ⟨wr.heap.size + 1, 3, none⟩ (.int .i64 (nd ns l).lf)).setCell ⟨wr.heap.size + 1, 4, none⟩ (.int .i64 (nd ns l).rt)).setCell ⟨wr.heap.size + 1, 5, none⟩ (.slice A6 (nd ns l).tx.length c6)) = w3 := ⟨_, rfl⟩
        have P8 : w3.heap[wr.heap.size]? = some (.cells #[.int .i64 s1.length, .int .i64 (nl s1), .int .i64 (ub s1), .int .i64 l, .int .i64 r, .slice none 0 0] 67) := by rw [← hw3]; exact (blk_far (blk_far (blk_far (blk_far (blk_far (blk_far B2.out (p := ⟨wr.heap.size + 1, 0, none⟩) (by show wr.heap.size ≠ wr.heap.size + 1; omega) (.int .i64 s.length)) (p := ⟨wr.heap.size + 1, 1, none⟩) (by show wr.heap.size ≠ wr.heap.size + 1; omega) (.int .i64 (nl s))) (p := ⟨wr.heap.size + 1, 2, none⟩) (by show wr.heap.size ≠ wr.heap.size + 1; omega) (.int .i64 (ub s))) (p := ⟨wr.heap.size + 1, 3, none⟩) (by show wr.heap.size ≠ wr.heap.size + 1; omega) (.int .i64 (nd ns l).lf)) (p := ⟨wr.heap.size + 1, 4, none⟩) (by show wr.heap.size ≠ wr.heap.size + 1; omega) (.int .i64 (nd ns l).rt)) (p := ⟨wr.heap.size + 1, 5, none⟩) (by show wr.heap.size ≠ wr.heap.size + 1; omega) (.slice A6 (nd ns l).tx.length c6))
        have P9 : w3.heap[wr.heap.size + 1]? = some (.cells #[.int .i64 s.length, .int .i64 (nl s), .int .i64 (ub s), .int .i64 (nd ns l).lf, .int .i64 (nd ns l).rt, .slice A6 (nd ns l).tx.length c6] 67) := by rw [← hw3]; exact (blk_put (blk_put (blk_put (blk_put (blk_put (blk_put Z2.out 0 (.int .i64 s.length) rfl) 1 (.int .i64 (nl s)) rfl) 2 (.int .i64 (ub s)) rfl) 3 (.int .i64 (nd ns l).lf) rfl) 4 (.int .i64 (nd ns l).rt) rfl) 5 (.slice A6 (nd ns l).tx.length c6) rfl)
        have H3 : Aside0 (Below wr.heap.size wr w3) := ⟨by rw [← hw3]; exact ((((((HD2.out.setCell (show wr.heap.size ≤ wr.heap.size + 1 from Nat.le_succ _) (.int .i64 s.length)).setCell (show wr.heap.size ≤ wr.heap.size + 1 from Nat.le_succ _) (.int .i64 (nl s))).setCell (show wr.heap.size ≤ wr.heap.size + 1 from Nat.le_succ _) (.int .i64 (ub s))).setCell (show wr.heap.size ≤ wr.heap.size + 1 from Nat.le_succ _) (.int .i64 (nd ns l).lf)).setCell (show wr.heap.size ≤ wr.heap.size + 1 from Nat.le_succ _) (.int .i64 (nd ns l).rt)).setCell (show wr.heap.size ≤ wr.heap.size + 1 from Nat.le_succ _) (.slice A6 (nd ns l).tx.length c6))⟩
        rw [hw3]
        clear hw3
        have Q8 := Aside0.mk P8
        have Q9 := Aside0.mk P9
        have z1 := (blk_cell P9 1).trans rfl
        have z3 := (blk_cell P8 3).trans rfl
        clear P8 P9 x0 x1 x2 x3 x4 x5' y0 y1 y2 y3 y4 y5 hc0
        go_wp2_with fail
        have G := H2.out
        go_roundg l.toNat
        case measure => rw [HK.out]; exact HIL.out
        case rel => exact ⟨l, at_, ln, s, rfl, rfl, rfl, rfl, HS, by omega, by omega, by omega, ⟨by have := ht2.out; rw [HU.out, sp_append _ _ _ (by omega), if_pos (by omega)] at this; omega⟩, by omega, ⟨below_then hbel.out hbel.out.size H3.out⟩⟩
end Go.Proofs.Ytepcdjkpmchobaa.Rope
