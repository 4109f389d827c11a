/- What Slice's function value does with each leaf's text. -/
import Derived.Laws.Cover3
import Derived.Test.YtepcdjkpmchobaaRopeP
namespace Go.Proofs.Ytepcdjkpmchobaa.Rope
open Go.RowKit Go.Proofs.YtepcdjkpmchobaaW.PrintWords Go.Proofs.YtepcdjkpmchobaaW.PrintLast Go.Proofs.YtepcdjkpmchobaaW.PrintMore
attribute [local go_sem] max2_int min2_int max_two min_two max_three min_three max_four min_four
set_option linter.unusedVariables false
set_option linter.unusedSimpArgs false

theorem slice_mid (A : Option Addr) (c : Nat) (t : List Int) (a b : Int) (h0 : 0 ≤ a) (h1 : a ≤ b) (h2 : b ≤ t.length) (hc : t.length ≤ c) :
    ∃ A' : Option Addr, (∀ W : World, (Instr.slice 22 (.slice A t.length c) (some (.int .i64 a)) (some (.int .i64 b)) none).run Try.prog W = .ok (.slice A' ((t.take b.toNat).drop a.toNat).length (c - a.toNat)) W) ∧ (∀ W, RI W A t → RI W A' ((t.take b.toNat).drop a.toNat)) ∧ ((t.take b.toNat).drop a.toNat).length ≤ c - a.toNat := by
  obtain ⟨i0, hi, hzz⟩ := Option.map_eq_some_iff.1 info21
  simp only [Prod.mk.injEq] at hzz
  obtain ⟨A', h3, h4, h5⟩ := print_mid_of (P := Try.prog) (Value.int .i32) (0 : Int) 22 21 .i64 .i64 Try.underlying22 hi hzz.2.1 A c t a b h0 h1 h2 hc
  exact ⟨A', h3, fun W hr => Kd.C_of_reads (h4 W (Kd.reads_of_C (d := (0 : Int)) hr)), h5⟩
theorem step_append_i32 {ops : Array Oper} {o : Oper} {a : Act} {Q : Exit → Act → World → Prop} {K : Act → World → Prop} {W : World} (base : Nat) (hw : Region.wanted o (yielded ops a.tmps) = true) (s x : Operand)
    (ho : o.op = .call { callee := .builtin .append, args := #[s, x], argTypes := #[22, 22] }) (v : Value) (xs ys : List Int) (A : Option Addr) (c : Nat) (hs : a.eval s = v) (hx : a.eval x = .slice A ys.length c)
    (HO : W.ownsRow base 21 1 v xs.length (nums .i32 xs)) (HR : RI W A ys) (hbase : base ≤ W.heap.size) (hl : (xs.length + ys.length) * 4 ≤ 140737488355328)
    (h : ∀ v1 w1, w1.ownsRow base 21 1 v1 (xs ++ ys).length (nums .i32 (xs ++ ys)) → Below base W w1 → W.grownBy w1 v.ownBlock → (v1.ownBlock = v.ownBlock ∨ ∃ b, v1.ownBlock = some b ∧ W.heap.size ≤ b) → K (a.put o.dst v1) w1) :
    if Region.wanted o (yielded ops a.tmps) = true then Oper.wp Try.prog o a W K Q else K (a.put o.dst undef) W :=
  Kd.R_append_rows_step (Kd.int .i32) (Rr := (Kd.int .i32).K W) (w0 := W) base hw s x 22 21 (.int .i32 0) 4 ho Try.underlying22 info21 rfl (by decide) (by decide) v xs ys A ys.length c (fun _ => True) (fun _ => False) hs hx
    (Kd.R_of_own HO fun _ _ => trivial) HR (fun _ _ hk => hk) (fun _ hk => hk.elim) (fun _ _ => trivial) (Below.refl _ _) hbase hl
    fun v1 w1 hr hb hg hat => h v1 w1 (Kd.own_of_R hr) hb hg hat
/-! ### Slice: what lies between two places -/
def sl (f p : Nat) (t : List Int) : List Int := (t.take p).drop f
theorem sl_le (f p : Nat) (t : List Int) : (sl f p t).length ≤ t.length := by
  unfold sl
  rw [List.length_drop, List.length_take]
  omega
theorem sl_append (f p : Nat) (s t : List Int) (hf : f ≤ p) : sl f p (s ++ t) = sl f p s ++ (t.take (p - s.length)).drop (f - s.length) := by
  unfold sl
  rw [List.take_append, List.drop_append, List.length_take]
  congr 1
  rcases Nat.le_total p s.length with h | h
  · rw [show p - s.length = 0 from by omega]
    simp
  · rw [Nat.min_eq_right h]
structure SlG (b pf pa pt po : Nat) (f p : Int) (w : World) (v : Value) (n : Int) (ys : List Int) : Prop where
  hf : w.heap[pf]? = some (.cells #[.int .i64 f] 3 (0, 0))
  ha : w.heap[pa]? = some (.cells #[.int .i64 n] 3 (0, 0))
  hp : w.heap[pt]? = some (.cells #[.int .i64 p] 3 (0, 0))
  ho : w.heap[po]? = some (.cells #[v] 22 (0, 0))
  own : w.ownsRow b 21 1 v ys.length (nums .i32 ys)
  bf : b ≤ pf
  ba : b ≤ pa
  bp : b ≤ pt
  bo : b ≤ po
  nf : pf ≠ pa
  np : pt ≠ pa
theorem SlG.bel {b pf pa pt po : Nat} {f p : Int} {w w' : World} {v : Value} {n : Int} {ys : List Int} (h : SlG b pf pa pt po f p w v n ys) (hb : Below w.heap.size w w') : SlG b pf pa pt po f p w' v n ys :=
  ⟨blk_below h.hf hb, blk_below h.ha hb, blk_below h.hp hb, blk_below h.ho hb, pw_own_below h.own hb, h.bf, h.ba, h.bp, h.bo, h.nf, h.np⟩
theorem SlG.at_ {b pf pa pt po : Nat} {f p : Int} {w : World} {v : Value} {n : Int} {ys : List Int} (h : SlG b pf pa pt po f p w v n ys) (m : Int) :
    SlG b pf pa pt po f p (w.setCell ⟨pa, 0, none⟩ (.int .i64 m)) v m ys ∧ Mg b (fun k => k = po ∨ k = pa) v v w (w.setCell ⟨pa, 0, none⟩ (.int .i64 m)) :=
  ⟨⟨blk_far h.hf (p := ⟨pa, 0, none⟩) h.nf _, by simpa using blk_set h.ha 0 (.int .i64 m), blk_far h.hp (p := ⟨pa, 0, none⟩) h.np _, blk_far h.ho (p := ⟨pa, 0, none⟩) (blk_ne h.ho h.ha (by decide)) _, own_setCell h.own (own_ne h.own h.ha (by decide)) _, h.bf, h.ba, h.bp, h.bo, h.nf, h.np⟩,
   ⟨(Below.refl _ _).setCell h.ba _, by simp [World.setCell], fun k _ hk _ => Below.heap_setCell w ⟨pa, 0, none⟩ _ k (fun he => hk (.inr he)), .inl rfl⟩⟩
theorem SlG.out_ {b pf pa pt po : Nat} {f p : Int} {w w1 : World} {v v1 : Value} {n : Int} {ys zs : List Int} (h : SlG b pf pa pt po f p w v n ys)
    (ho : w1.ownsRow b 21 1 v1 (ys ++ zs).length (nums .i32 (ys ++ zs))) (hb : Below b w w1) (hg : w.grownBy w1 v.ownBlock) (hat : v1.ownBlock = v.ownBlock ∨ ∃ k, v1.ownBlock = some k ∧ w.heap.size ≤ k) :
    w1.heap[po]? = some (.cells #[v] 22 (0, 0)) ∧ SlG b pf pa pt po f p (w1.setCell ⟨po, 0, none⟩ v1) v1 n (ys ++ zs) ∧ Mg b (fun k => k = po ∨ k = pa) v v1 w (w1.setCell ⟨po, 0, none⟩ v1) := by
  obtain ⟨s1, s2, s3, s4⟩ := acc_step h.ho h.bo h.own ho hb hg hat
  have k1 := blk_grown h.hf hg (own_ne h.own h.hf (by decide))
  have k2 := blk_grown h.ha hg (own_ne h.own h.ha (by decide))
  have k3 := blk_grown h.hp hg (own_ne h.own h.hp (by decide))
  exact ⟨s1, ⟨blk_far k1 (p := ⟨po, 0, none⟩) (blk_ne k1 s1 (by decide)) _, blk_far k2 (p := ⟨po, 0, none⟩) (blk_ne k2 s1 (by decide)) _, blk_far k3 (p := ⟨po, 0, none⟩) (blk_ne k3 s1 (by decide)) _, s2, s3, h.bf, h.ba, h.bp, h.bo, h.nf, h.np⟩, s4 _ (.inl rfl)⟩
def accSlice (b pf pa pt po : Nat) (f p : Int) : Acc where
  b0 := b
  G := fun k => k = po ∨ k = pa
  I := fun w v acc => SlG b pf pa pt po f p w v acc.length (sl f.toNat p.toNat acc)
  lt := by
    rintro w v acc k h ((rfl | rfl) | hk)
    · exact ⟨h.bo, blk_lt h.ho⟩
    · exact ⟨h.ba, blk_lt h.ha⟩
    · exact ⟨own_base h.own k hk.symm, own_lt h.own k hk.symm⟩
  bel := fun w w' v acc h hb => h.bel hb
def sliceA.T0 : Bool × List (List Nat × List Nat) := (true, [([], []), ([], []), ([0, 1], [0, 1]), ([2], [2]), ([], []), ([], []), ([4, 5], [4, 5]), ([], []), ([7], [7]), ([6, 8], [6, 8]), ([3, 0, 1, 2, 3], [3]), ([9, 10, 0, 1, 2, 3, 4, 5, 6, 7, 8, 9, 10], [9])])
def sliceA.B0 : List Nat := [0, 0, 3, 7, 0, 0, 48, 0, 128, 496, 15, 2047]
theorem sliceA.tab0 : rtab .any (opsOf Try.f33 0) = sliceA.T0 := by kernel_rfl
theorem sliceA.bits0 : waitsOk sliceA.T0.2 sliceA.B0 = true := by kernel_rfl
def sliceB.T2 : Bool × List (List Nat × List Nat) := (true, [([], []), ([], []), ([], []), ([], []), ([1, 2, 3], [1, 2, 3]), ([0, 4], [0, 4]), ([5, 5, 0, 1, 2, 3, 4, 5], [5])])
def sliceB.B2 : List Nat := [0, 0, 0, 0, 14, 31, 63]
theorem sliceB.tab2 : rtab .any (opsOf Try.f33 2) = sliceB.T2 := by kernel_rfl
theorem sliceB.bits2 : waitsOk sliceB.T2.2 sliceB.B2 = true := by kernel_rfl

theorem tail_nil (t : List Int) (n f p : Nat) (h : min (p - n) t.length ≤ f - n) : (t.take (p - n)).drop (f - n) = [] := List.drop_of_length_le (by rw [List.length_take]; exact h)
theorem tail_mid (t : List Int) (n f p y : Nat) (h : y = min (p - n) t.length) : (t.take y).drop (f - n) = (t.take (p - n)).drop (f - n) := by
  rw [h]
  congr 1
  rcases Nat.le_total (p - n) t.length with h | h
  · rw [Nat.min_eq_left h]
  · rw [Nat.min_eq_right h, List.take_of_length_le (Nat.le_refl _), List.take_of_length_le h]
set_option maxHeartbeats 4000000 in
theorem tell33 (b pf pa pt po : Nat) (f p : Int) (hf0 : 0 ≤ f) (hfp : f ≤ p) (hp1 : p ≤ 1000000) (w : World) (v : Value) (acc : List Int) (A : Option Addr) (t : List Int) (c : Nat) (hI : (accSlice b pf pa pt po f p).I w v acc) (hr : RI w A t) (hc : t.length ≤ c) (hl : acc.length + t.length ≤ 1000000) :
    Calls Try.prog 33 #[.slice A t.length c, .pointer (some ⟨pf, 0, none⟩), .pointer (some ⟨pa, 0, none⟩), .pointer (some ⟨pt, 0, none⟩), .pointer (some ⟨po, 0, none⟩)] w (TellR (accSlice b pf pa pt po f p) v acc t w) := by
  have HI : Aside0 (SlG b pf pa pt po f p w v acc.length (sl f.toNat p.toNat acc)) := ⟨hI⟩
  have HR := Aside0.mk hr
  have HC := Aside0.mk hc
  obtain ⟨x, hx⟩ : ∃ x : Int, (if f - acc.length < 0 then 0 else f - acc.length) = x := ⟨_, rfl⟩
  obtain ⟨y, hy⟩ : ∃ y : Int, (if (t.length : Int) < p - acc.length then (t.length : Int) else p - acc.length) = y := ⟨_, rfl⟩
  have X0 : 0 ≤ x ∧ x ≤ 1000000 := by omega
  have Y0 : -1000000 ≤ y ∧ y ≤ t.length := by omega
  have XN : Aside0 (x.toNat = f.toNat - acc.length ∧ (x ≤ f)) := ⟨by omega⟩
  have YN : Aside0 (y.toNat = min (p.toNat - acc.length) t.length) := ⟨by omega⟩
  clear hI hr hc
  by_cases hxy : x < y
  · have hxb : decide (x < y) = true := decide_eq_true hxy
    have hlen : (acc.length : Int) + t.length ≤ 1000000 := by omega
    obtain ⟨A', hsm, hA', hcm⟩ := slice_mid A c t x y X0.1 (by omega) Y0.2 HC.out
    have HA' := Aside0.mk hA'
    obtain ⟨A1, c1, rfl⟩ := own_slice HI.out.own
    have HP : Aside0 (b ≤ w.heap.size) := ⟨Nat.le_trans HI.out.bo (Nat.le_of_lt (blk_lt HI.out.ho))⟩
    have HLL : Aside0 (((sl f.toNat p.toNat acc).length + ((t.take y.toNat).drop x.toNat).length) * 4 ≤ 140737488355328) := ⟨by have h1 := sl_le f.toNat p.toNat acc; have h2 := sl_le x.toNat y.toNat t; unfold sl at h2; omega⟩
    clear hA' hcm
    go_enter Try.func33, Try.ntmps33
    go_wp2_with fail
    refine start_ (n := 12) (S := fun w' => w'.cell? ⟨pf, 0, none⟩ = some (.int .i64 f) ∧ w'.cell? ⟨pa, 0, none⟩ = some (.int .i64 acc.length) ∧ w'.cell? ⟨pt, 0, none⟩ = some (.int .i64 p)) (ds := []) #[false, false, false, false, false, false, false, false, false, false, false, false] (by kernel_rfl) rfl rfl ⟨(blk_cell (blk_drew HI.out.hf) 0).trans rfl, (blk_cell (blk_drew HI.out.ha) 0).trans rfl, (blk_cell (blk_drew HI.out.hp) 0).trans rfl⟩ (fun hHeld => ?_); refine with_tabW sliceA.tab0 sliceA.bits0 (fun HT_ HW_ => ?_)
    refine take_ (i := 0) (N := some 8) (v := ?_) (a' := ?_) #[true, false, false, false, false, false, false, false, false, false, false, false] rfl rfl (take_ofW HT_.out HW_.out (by kernel_rfl)) (fun _ _ _ h => h) (Or.inl ⟨by rfl, ?_⟩) hHeld ?_ ?_
    rotate_left
    · rintro w' ⟨s0, s1, s2⟩
      go_simp
      with_reducible rfl
    rotate_left
    · simp only [Act.put, List.setIfInBounds_toArray, List.set_cons_zero, List.set_cons_succ, i64_w, i32_w]
      rfl
    refine take_ (i := 1) (N := some 9) (v := ?_) (a' := ?_) #[true, true, false, false, false, false, false, false, false, false, false, false] rfl rfl (take_ofW HT_.out HW_.out (by kernel_rfl)) (fun _ _ _ h => h) (Or.inl ⟨by rfl, ?_⟩) hHeld ?_ ?_
    rotate_left
    · rintro w' ⟨s0, s1, s2⟩
      go_simp
      with_reducible rfl
    rotate_left
    · simp only [Act.put, List.setIfInBounds_toArray, List.set_cons_zero, List.set_cons_succ, i64_w, i32_w]
      rfl
    refine pure_ (i := 2) (N := some 10) (v := .int .i64 (f - acc.length)) (a' := ?pasliceA_2_1) #[true, true, true, false, false, false, false, false, false, false, false, false] rfl rfl (any_of HT_.out (by kernel_rfl)) (fun _ _ _ h => h) (Or.inl ⟨by rfl, ?pysliceA_2_1⟩) ?pesliceA_2_1 ?prsliceA_2_1
    case pesliceA_2_1 =>
      simp only [Act.put, List.setIfInBounds_toArray, List.set_cons_zero, List.set_cons_succ, i64_w, i32_w]
      rfl
    case pysliceA_2_1 =>
      intro w'
      go_simp
      exact IntWalk.i64_in _ (by omega)
    refine pure_ (i := 3) (N := some 11) (v := .int .i64 x) (a' := ?pasliceA_3_2) #[true, true, true, true, false, false, false, false, false, false, false, false] rfl rfl (any_of HT_.out (by kernel_rfl)) (fun _ _ _ h => h) (Or.inl ⟨by rfl, ?pysliceA_3_2⟩) ?pesliceA_3_2 ?prsliceA_3_2
    case pesliceA_3_2 =>
      simp only [Act.put, List.setIfInBounds_toArray, List.set_cons_zero, List.set_cons_succ, i64_w, i32_w]
      rfl
    case pysliceA_3_2 =>
      intro w'
      go_simp
    refine take_ (i := 4) (N := some 12) (v := ?_) (a' := ?_) #[true, true, true, true, true, false, false, false, false, false, false, false] rfl rfl (take_ofW HT_.out HW_.out (by kernel_rfl)) (fun _ _ _ h => h) (Or.inl ⟨by rfl, ?_⟩) hHeld ?_ ?_
    rotate_left
    · rintro w' ⟨s0, s1, s2⟩
      go_simp
      with_reducible rfl
    rotate_left
    · simp only [Act.put, List.setIfInBounds_toArray, List.set_cons_zero, List.set_cons_succ, i64_w, i32_w]
      rfl
    refine take_ (i := 5) (N := some 13) (v := ?_) (a' := ?_) #[true, true, true, true, true, true, false, false, false, false, false, false] rfl rfl (take_ofW HT_.out HW_.out (by kernel_rfl)) (fun _ _ _ h => h) (Or.inl ⟨by rfl, ?_⟩) hHeld ?_ ?_
    rotate_left
    · rintro w' ⟨s0, s1, s2⟩
      go_simp
      with_reducible rfl
    rotate_left
    · simp only [Act.put, List.setIfInBounds_toArray, List.set_cons_zero, List.set_cons_succ, i64_w, i32_w]
      rfl
    refine pure_ (i := 6) (N := some 14) (v := .int .i64 (p - acc.length)) (a' := ?pasliceA_6_3) #[true, true, true, true, true, true, true, false, false, false, false, false] rfl rfl (any_of HT_.out (by kernel_rfl)) (fun _ _ _ h => h) (Or.inl ⟨by rfl, ?pysliceA_6_3⟩) ?pesliceA_6_3 ?prsliceA_6_3
    case pesliceA_6_3 =>
      simp only [Act.put, List.setIfInBounds_toArray, List.set_cons_zero, List.set_cons_succ, i64_w, i32_w]
      rfl
    case pysliceA_6_3 =>
      intro w'
      go_simp
      exact IntWalk.i64_in _ (by omega)
    refine pure_ (i := 7) (N := some 15) (v := ?_) (a' := ?_) #[true, true, true, true, true, true, true, true, false, false, false, false] rfl rfl (any_of HT_.out (by kernel_rfl)) (fun _ _ _ h => h) (Or.inl ⟨by rfl, ?_⟩) ?_ ?_
    rotate_left
    · intro w'
      go_simp
      with_reducible rfl
    rotate_left
    · simp only [Act.put, List.setIfInBounds_toArray, List.set_cons_zero, List.set_cons_succ, i64_w, i32_w]
      rfl
    refine pure_ (i := 8) (N := some 16) (v := ?_) (a' := ?_) #[true, true, true, true, true, true, true, true, true, false, false, false] rfl rfl (any_of HT_.out (by kernel_rfl)) (fun _ _ _ h => h) (Or.inl ⟨by rfl, ?_⟩) ?_ ?_
    rotate_left
    · intro w'
      go_simp
      with_reducible rfl
    rotate_left
    · simp only [Act.put, List.setIfInBounds_toArray, List.set_cons_zero, List.set_cons_succ, i64_w, i32_w]
      rfl
    refine pure_ (i := 9) (N := some 17) (v := .int .i64 y) (a' := ?pasliceA_9_4) #[true, true, true, true, true, true, true, true, true, true, false, false] rfl rfl (any_of HT_.out (by kernel_rfl)) (fun _ _ _ h => h) (Or.inl ⟨by rfl, ?pysliceA_9_4⟩) ?pesliceA_9_4 ?prsliceA_9_4
    case pesliceA_9_4 =>
      simp only [Act.put, List.setIfInBounds_toArray, List.set_cons_zero, List.set_cons_succ, i64_w, i32_w]
      rfl
    case pysliceA_9_4 =>
      intro w'
      go_simp
    refine pure_ (i := 10) (N := some 6) (v := ?_) (a' := ?_) #[true, true, true, true, true, true, true, true, true, true, true, false] rfl rfl (any_of HT_.out (by kernel_rfl)) (fun _ _ _ h => h) (Or.inl ⟨by rfl, ?_⟩) ?_ ?_
    rotate_left
    · intro w'
      go_simp
      with_reducible rfl
    rotate_left
    · simp only [Act.put, List.setIfInBounds_toArray, List.set_cons_zero, List.set_cons_succ, i64_w, i32_w]
      rfl
    refine pure_ (i := 11) (N := some 7) (v := ?_) (a' := ?_) #[true, true, true, true, true, true, true, true, true, true, true, true] rfl rfl (any_of HT_.out (by kernel_rfl)) (fun _ _ _ h => h) (Or.inl ⟨by rfl, ?_⟩) ?_ ?_
    rotate_left
    · intro w'
      go_simp
      with_reducible rfl
    rotate_left
    · simp only [Act.put, List.setIfInBounds_toArray, List.set_cons_zero, List.set_cons_succ, i64_w, i32_w]
      rfl
    refine done_ (done_of HT_.out (by kernel_rfl)) ?_
    skip
    go_wp2_with fail
    refine start_ (n := 7) (S := fun w' => w'.cell? ⟨po, 0, none⟩ = some (.slice A1 (sl f.toNat p.toNat acc).length c1)) (ds := [6]) #[false, false, false, false, false, false, false] (by kernel_rfl) rfl rfl ((blk_cell (blk_drew (blk_drew HI.out.ho)) 0).trans rfl) (fun hHeld => ?_); refine with_tabW sliceB.tab2 sliceB.bits2 (fun HT_ HW_ => ?_)
    refine take_ (i := 0) (N := some 21) (v := ?_) (a' := ?_) #[true, false, false, false, false, false, false] rfl rfl (take_ofW HT_.out HW_.out (by kernel_rfl)) (fun _ _ _ h => h) (Or.inl ⟨by rfl, ?_⟩) hHeld ?_ ?_
    rotate_left
    · rintro w' s0
      go_simp
      with_reducible rfl
    rotate_left
    · simp only [Act.put, List.setIfInBounds_toArray, List.set_cons_zero, List.set_cons_succ, i64_w, i32_w]
      rfl
    refine pure_ (i := 1) (N := some 22) (v := ?_) (a' := ?_) #[true, true, false, false, false, false, false] rfl rfl (any_of HT_.out (by kernel_rfl)) (fun _ _ _ h => h) (Or.inl ⟨by rfl, ?_⟩) ?_ ?_
    rotate_left
    · intro w'
      go_simp
      with_reducible rfl
    rotate_left
    · simp only [Act.put, List.setIfInBounds_toArray, List.set_cons_zero, List.set_cons_succ, i64_w, i32_w]
      rfl
    refine pure_ (i := 2) (N := some 23) (v := ?_) (a' := ?_) #[true, true, true, false, false, false, false] rfl rfl (any_of HT_.out (by kernel_rfl)) (fun _ _ _ h => h) (Or.inl ⟨by rfl, ?_⟩) ?_ ?_
    rotate_left
    · intro w'
      go_simp
      with_reducible rfl
    rotate_left
    · simp only [Act.put, List.setIfInBounds_toArray, List.set_cons_zero, List.set_cons_succ, i64_w, i32_w]
      rfl
    refine pure_ (i := 3) (N := some 24) (v := ?_) (a' := ?_) #[true, true, true, true, false, false, false] rfl rfl (any_of HT_.out (by kernel_rfl)) (fun _ _ _ h => h) (Or.inl ⟨by rfl, ?_⟩) ?_ ?_
    rotate_left
    · intro w'
      go_simp
      with_reducible rfl
    rotate_left
    · simp only [Act.put, List.setIfInBounds_toArray, List.set_cons_zero, List.set_cons_succ, i64_w, i32_w]
      rfl
    refine pure_ (i := 4) (N := some 25) (v := .slice A' ((t.take y.toNat).drop x.toNat).length (c - x.toNat)) (a' := ?pasliceB_4_9) #[true, true, true, true, true, false, false] rfl rfl (any_of HT_.out (by kernel_rfl)) (fun _ _ _ h => h) (Or.inl ⟨by rfl, ?pysliceB_4_9⟩) ?pesliceB_4_9 ?prsliceB_4_9
    case pesliceB_4_9 =>
      simp only [Act.put, List.setIfInBounds_toArray, List.set_cons_zero, List.set_cons_succ, i64_w, i32_w]
      rfl
    case pysliceB_4_9 =>
      intro w'
      go_simp
    refine one_ (i := 5) (N := some 26) #[true, true, true, true, true, true, false] rfl rfl (one_of HT_.out (by kernel_rfl)) (by decide) (fun K hK => ?_)
    refine step_append_i32 b (by rfl) _ _ (by rfl) (.slice A1 (sl f.toNat p.toNat acc).length c1) (sl f.toNat p.toNat acc) ((t.take y.toNat).drop x.toNat) A' (c - x.toNat) (by rfl) (by rfl) HI.out.own (HA'.out _ HR.out) HP.out HLL.out ?_
    intro v1 w1 ho hb hg hat
    have HS := Aside0.mk ((HI.out.bel (below_drew (below_drew (Below.refl _ _)))).out_ ho hb hg hat)
    obtain ⟨A2, c2, hv⟩ := own_slice ho
    obtain ⟨n2, hn2⟩ : ∃ n2, (sl f.toNat p.toNat acc ++ (t.take y.toNat).drop x.toNat).length = n2 := ⟨_, rfl⟩
    rw [hn2] at hv
    subst hv
    clear ho hb hg hat hn2
    have hq1 : w1.cell? ⟨po, 0, none⟩ = some (.slice A1 (sl f.toNat p.toNat acc).length c1) := (blk_cell HS.out.1 0).trans rfl
    have hf1 : w1.frozen? ⟨po, 0, none⟩ = false := blk_frozen HS.out.1 0
    refine hK.out _ _ hq1 (fun hHeld => ?_)
    clear hK K
    refine norm_ (a' := ?_) ?_ ?_
    rotate_left
    · show Act.put _ (some 26) _ = _
      simp only [Act.put, List.setIfInBounds_toArray, List.set_cons_zero, List.set_cons_succ, i64_w, i32_w]
      rfl
    refine last_ (i := 6) (N := none) #[true, true, true, true, true, true, true] rfl rfl (one_of HT_.out (by kernel_rfl)) (by decide) (fun K hK => ?_)
    refine skip_ (by rfl) rfl (w1 := w1.setCell ⟨po, 0, none⟩ (.slice A2 n2 c2)) ?hr ?_
    case hr => go_simp
    refine hK.out _ _ ?_
    clear hK K
    refine done_ (done_of HT_.out (by kernel_rfl)) ?_
    skip
    have ha1 := (blk_cell HS.out.2.1.ha 0).trans rfl
    have fa1 := blk_frozen HS.out.2.1.ha 0
    go_wp2_with fail
    go_end0
    rw [show (acc.length : Int) + t.length = ((acc ++ t).length : Int) from by rw [List.length_append]; omega]
    have E : sl f.toNat p.toNat (acc ++ t) = sl f.toNat p.toNat acc ++ (t.take y.toNat).drop x.toNat := by
      rw [sl_append _ _ _ _ (by omega), ← tail_mid t acc.length f.toNat p.toNat y.toNat YN.out, ← XN.out.1]
    exact ⟨_, rfl, by show SlG _ _ _ _ _ _ _ _ _ _ (sl f.toNat p.toNat (acc ++ t)); rw [E]; exact (HS.out.2.1.at_ _).1, ((Mg.of_below (below_drew (below_drew (Below.refl _ w))) HP.out).trans HS.out.2.2).trans (HS.out.2.1.at_ _).2⟩
  · have hxb : decide (x < y) = false := decide_eq_false hxy
    have hlen : (acc.length : Int) + t.length ≤ 1000000 := by omega
    go_enter Try.func33, Try.ntmps33
    go_wp2_with fail
    refine start_ (n := 12) (S := fun w' => w'.cell? ⟨pf, 0, none⟩ = some (.int .i64 f) ∧ w'.cell? ⟨pa, 0, none⟩ = some (.int .i64 acc.length) ∧ w'.cell? ⟨pt, 0, none⟩ = some (.int .i64 p)) (ds := []) #[false, false, false, false, false, false, false, false, false, false, false, false] (by kernel_rfl) rfl rfl ⟨(blk_cell (blk_drew HI.out.hf) 0).trans rfl, (blk_cell (blk_drew HI.out.ha) 0).trans rfl, (blk_cell (blk_drew HI.out.hp) 0).trans rfl⟩ (fun hHeld => ?_); refine with_tabW sliceA.tab0 sliceA.bits0 (fun HT_ HW_ => ?_)
    refine take_ (i := 0) (N := some 8) (v := ?_) (a' := ?_) #[true, false, false, false, false, false, false, false, false, false, false, false] rfl rfl (take_ofW HT_.out HW_.out (by kernel_rfl)) (fun _ _ _ h => h) (Or.inl ⟨by rfl, ?_⟩) hHeld ?_ ?_
    rotate_left
    · rintro w' ⟨s0, s1, s2⟩
      go_simp
      with_reducible rfl
    rotate_left
    · simp only [Act.put, List.setIfInBounds_toArray, List.set_cons_zero, List.set_cons_succ, i64_w, i32_w]
      rfl
    refine take_ (i := 1) (N := some 9) (v := ?_) (a' := ?_) #[true, true, false, false, false, false, false, false, false, false, false, false] rfl rfl (take_ofW HT_.out HW_.out (by kernel_rfl)) (fun _ _ _ h => h) (Or.inl ⟨by rfl, ?_⟩) hHeld ?_ ?_
    rotate_left
    · rintro w' ⟨s0, s1, s2⟩
      go_simp
      with_reducible rfl
    rotate_left
    · simp only [Act.put, List.setIfInBounds_toArray, List.set_cons_zero, List.set_cons_succ, i64_w, i32_w]
      rfl
    refine pure_ (i := 2) (N := some 10) (v := .int .i64 (f - acc.length)) (a' := ?pasliceA_2_5) #[true, true, true, false, false, false, false, false, false, false, false, false] rfl rfl (any_of HT_.out (by kernel_rfl)) (fun _ _ _ h => h) (Or.inl ⟨by rfl, ?pysliceA_2_5⟩) ?pesliceA_2_5 ?prsliceA_2_5
    case pesliceA_2_5 =>
      simp only [Act.put, List.setIfInBounds_toArray, List.set_cons_zero, List.set_cons_succ, i64_w, i32_w]
      rfl
    case pysliceA_2_5 =>
      intro w'
      go_simp
      exact IntWalk.i64_in _ (by omega)
    refine pure_ (i := 3) (N := some 11) (v := .int .i64 x) (a' := ?pasliceA_3_6) #[true, true, true, true, false, false, false, false, false, false, false, false] rfl rfl (any_of HT_.out (by kernel_rfl)) (fun _ _ _ h => h) (Or.inl ⟨by rfl, ?pysliceA_3_6⟩) ?pesliceA_3_6 ?prsliceA_3_6
    case pesliceA_3_6 =>
      simp only [Act.put, List.setIfInBounds_toArray, List.set_cons_zero, List.set_cons_succ, i64_w, i32_w]
      rfl
    case pysliceA_3_6 =>
      intro w'
      go_simp
    refine take_ (i := 4) (N := some 12) (v := ?_) (a' := ?_) #[true, true, true, true, true, false, false, false, false, false, false, false] rfl rfl (take_ofW HT_.out HW_.out (by kernel_rfl)) (fun _ _ _ h => h) (Or.inl ⟨by rfl, ?_⟩) hHeld ?_ ?_
    rotate_left
    · rintro w' ⟨s0, s1, s2⟩
      go_simp
      with_reducible rfl
    rotate_left
    · simp only [Act.put, List.setIfInBounds_toArray, List.set_cons_zero, List.set_cons_succ, i64_w, i32_w]
      rfl
    refine take_ (i := 5) (N := some 13) (v := ?_) (a' := ?_) #[true, true, true, true, true, true, false, false, false, false, false, false] rfl rfl (take_ofW HT_.out HW_.out (by kernel_rfl)) (fun _ _ _ h => h) (Or.inl ⟨by rfl, ?_⟩) hHeld ?_ ?_
    rotate_left
    · rintro w' ⟨s0, s1, s2⟩
      go_simp
      with_reducible rfl
    rotate_left
    · simp only [Act.put, List.setIfInBounds_toArray, List.set_cons_zero, List.set_cons_succ, i64_w, i32_w]
      rfl
    refine pure_ (i := 6) (N := some 14) (v := .int .i64 (p - acc.length)) (a' := ?pasliceA_6_7) #[true, true, true, true, true, true, true, false, false, false, false, false] rfl rfl (any_of HT_.out (by kernel_rfl)) (fun _ _ _ h => h) (Or.inl ⟨by rfl, ?pysliceA_6_7⟩) ?pesliceA_6_7 ?prsliceA_6_7
    case pesliceA_6_7 =>
      simp only [Act.put, List.setIfInBounds_toArray, List.set_cons_zero, List.set_cons_succ, i64_w, i32_w]
      rfl
    case pysliceA_6_7 =>
      intro w'
      go_simp
      exact IntWalk.i64_in _ (by omega)
    refine pure_ (i := 7) (N := some 15) (v := ?_) (a' := ?_) #[true, true, true, true, true, true, true, true, false, false, false, false] rfl rfl (any_of HT_.out (by kernel_rfl)) (fun _ _ _ h => h) (Or.inl ⟨by rfl, ?_⟩) ?_ ?_
    rotate_left
    · intro w'
      go_simp
      with_reducible rfl
    rotate_left
    · simp only [Act.put, List.setIfInBounds_toArray, List.set_cons_zero, List.set_cons_succ, i64_w, i32_w]
      rfl
    refine pure_ (i := 8) (N := some 16) (v := ?_) (a' := ?_) #[true, true, true, true, true, true, true, true, true, false, false, false] rfl rfl (any_of HT_.out (by kernel_rfl)) (fun _ _ _ h => h) (Or.inl ⟨by rfl, ?_⟩) ?_ ?_
    rotate_left
    · intro w'
      go_simp
      with_reducible rfl
    rotate_left
    · simp only [Act.put, List.setIfInBounds_toArray, List.set_cons_zero, List.set_cons_succ, i64_w, i32_w]
      rfl
    refine pure_ (i := 9) (N := some 17) (v := .int .i64 y) (a' := ?pasliceA_9_8) #[true, true, true, true, true, true, true, true, true, true, false, false] rfl rfl (any_of HT_.out (by kernel_rfl)) (fun _ _ _ h => h) (Or.inl ⟨by rfl, ?pysliceA_9_8⟩) ?pesliceA_9_8 ?prsliceA_9_8
    case pesliceA_9_8 =>
      simp only [Act.put, List.setIfInBounds_toArray, List.set_cons_zero, List.set_cons_succ, i64_w, i32_w]
      rfl
    case pysliceA_9_8 =>
      intro w'
      go_simp
    refine pure_ (i := 10) (N := some 6) (v := ?_) (a' := ?_) #[true, true, true, true, true, true, true, true, true, true, true, false] rfl rfl (any_of HT_.out (by kernel_rfl)) (fun _ _ _ h => h) (Or.inl ⟨by rfl, ?_⟩) ?_ ?_
    rotate_left
    · intro w'
      go_simp
      with_reducible rfl
    rotate_left
    · simp only [Act.put, List.setIfInBounds_toArray, List.set_cons_zero, List.set_cons_succ, i64_w, i32_w]
      rfl
    refine pure_ (i := 11) (N := some 7) (v := ?_) (a' := ?_) #[true, true, true, true, true, true, true, true, true, true, true, true] rfl rfl (any_of HT_.out (by kernel_rfl)) (fun _ _ _ h => h) (Or.inl ⟨by rfl, ?_⟩) ?_ ?_
    rotate_left
    · intro w'
      go_simp
      with_reducible rfl
    rotate_left
    · simp only [Act.put, List.setIfInBounds_toArray, List.set_cons_zero, List.set_cons_succ, i64_w, i32_w]
      rfl
    refine done_ (done_of HT_.out (by kernel_rfl)) ?_
    skip
    have ha1 := (blk_cell (blk_drew HI.out.ha) 0).trans rfl
    have fa1 := blk_frozen (blk_drew HI.out.ha) 0
    go_wp2_with fail
    go_end0
    rw [show (acc.length : Int) + t.length = ((acc ++ t).length : Int) from by rw [List.length_append]; omega]
    have E : sl f.toNat p.toNat (acc ++ t) = sl f.toNat p.toNat acc := by
      rw [sl_append _ _ _ _ (by omega), tail_nil _ _ _ _ (by have := XN.out.1; have := YN.out; omega), List.append_nil]
    have HD : SlG b pf pa pt po f p w.drew v acc.length (sl f.toNat p.toNat acc) := HI.out.bel (below_drew (Below.refl _ _))
    exact ⟨_, rfl, by show SlG _ _ _ _ _ _ _ _ _ _ (sl f.toNat p.toNat (acc ++ t)); rw [E]; exact (HD.at_ _).1, (Mg.of_below (below_drew (Below.refl _ w)) (Nat.le_trans HI.out.bo (Nat.le_of_lt (blk_lt HI.out.ho)))).trans (HD.at_ _).2⟩
end Go.Proofs.Ytepcdjkpmchobaa.Rope
