/- rope.add puts a node at the arena's end and answers its index. For an arena of at most 1000000 nodes. -/
import Derived.Test.YtepcdjkpmchobaaRopeA
namespace Go.Proofs.Ytepcdjkpmchobaa.Rope
open Go.RowKit Go.Proofs.YtepcdjkpmchobaaW.PrintWords Go.Proofs.YtepcdjkpmchobaaW.PrintLast Go.Proofs.YtepcdjkpmchobaaW.PrintMore
attribute [local go_sem] max2_int min2_int max_two min_two max_three min_three max_four min_four
set_option linter.unusedVariables false
set_option linter.unusedSimpArgs false

theorem info67 : (Try.prog.info? 67).map (fun i => (i.zero, i.size, i.bytes)) = some (some (.agg #[.int .i64 0, .int .i64 0, .int .i64 0, .int .i64 0, .int .i64 0, .slice none 0 0]), 6, 64) := by kernel_rfl

theorem ropeAt_set0 {base g : Nat} {v v1 : Value} {ns : List Node} {root : Int} {x : Node} {W w1 : World} {o : Obj} {cs : List Value} (h : RopeAt base W g v ns root) (hx : NodeAt W x cs)
    (hown : OwnRow (NodeAt W) 67 6 w1 base v1 (ns ++ [x])) (hgr : ((W.alloc o).drew).grownBy w1 v.ownBlock) (hat : v1.ownBlock = v.ownBlock ∨ ∃ b, v1.ownBlock = some b ∧ ((W.alloc o).drew).heap.size ≤ b)
    (hbg : w1.heap[g]? = some (.cells #[v, .int .i64 root] 55 (0, 0))) : RopeAt base (w1.setCell ⟨g, 0, none⟩ v1) g v1 (ns ++ [x]) root := by
  refine ⟨by simpa using blk_set hbg 0 v1, h.2.1, (hown.set_ hbg (by decide) 0 v1).imp_ fun _ _ hp => hp.blk fun k cur hk => ?_⟩
  have hne := h.apart hk (by decide) (by decide)
  exact blk_far (blk_grown (blk_drew (blk_alloc hk _)) hgr hne.2) (p := ⟨g, 0, none⟩) hne.1 v1
theorem mv_set0 {base g : Nat} {v v1 : Value} {ns : List Node} {root : Int} {W w1 : World} {o : Obj} (h : RopeAt base W g v ns root)
    (hgr : ((W.alloc o).drew).grownBy w1 v.ownBlock) (hat : v1.ownBlock = v.ownBlock ∨ ∃ b, v1.ownBlock = some b ∧ ((W.alloc o).drew).heap.size ≤ b) : Mv base g v v1 W (w1.setCell ⟨g, 0, none⟩ v1) := by
  have hbW : base ≤ W.heap.size := Nat.le_trans h.2.1 (Nat.le_of_lt h.lt)
  refine ⟨?_, ?_, ?_⟩
  · exact (((Below.refl base W).alloc hbW o).drew.grown hgr (by simpa using Nat.le_succ_of_le hbW) (fun k hk => (h.row k hk).1)).setCell h.2.1 _
  · exact (((KeepBut.of_grown (World.grownBy_alloc W o v.ownBlock) g).trans (KeepBut.of_grown (w := (W.alloc o).drew) hgr g) (.inl rfl))).set_ 0 v1
  · intro k hk
    rcases hat with hat | ⟨b, hb, hlb⟩
    · exact .inl (hat ▸ hk)
    · rw [hb] at hk
      injection hk with hk
      subst hk
      exact .inr (Nat.le_trans (by simp) hlb)
def add.T1 : Bool × List (List Nat × List Nat) := (true, [([], []), ([], []), ([1], [1]), ([2], [2]), ([3], [3]), ([], []), ([5], [5]), ([4, 6], [4, 6]), ([0, 0, 1, 2, 3, 4, 5, 6, 7], [0]), ([8, 0, 1, 2, 3, 4, 5, 6, 7], [8]), ([9, 7, 7, 0, 1, 2, 3, 4, 5, 6, 7], [7, 9])])
def add.B1 : List Nat := [0, 0, 2, 6, 14, 0, 32, 126, 255, 511, 1023]
theorem add.tab1 : rtab .any (opsOf Try.f38 1) = add.T1 := by kernel_rfl
theorem add.bits1 : waitsOk add.T1.2 add.B1 = true := by kernel_rfl

set_option maxHeartbeats 1000000 in
theorem add_calls (base g : Nat) (v : Value) (ns : List Node) (root : Int) (x : Node) (T : Option Addr) (tc : Nat) (W : World) (h : RopeAt base W g v ns root)
    (hx : NodeAt W x [.int .i64 x.rn, .int .i64 x.ln, .int .i64 x.bn, .int .i64 x.lf, .int .i64 x.rt, .slice T x.tx.length tc]) (hl : ns.length ≤ 1000000) :
    Calls Try.prog 38 #[.pointer (some ⟨g, 0, none⟩), .agg #[.int .i64 x.rn, .int .i64 x.ln, .int .i64 x.bn, .int .i64 x.lf, .int .i64 x.rt, .slice T x.tx.length tc]] W
      fun e w' => ∃ v', e = .returned (.int .i64 ns.length) ∧ RopeAt base w' g v' (ns ++ [x]) root ∧ Mv base g v v' W w' := by
  obtain ⟨A, c, rfl, hc, hc0, hc1, hf0, hf1, hr⟩ := h.open_
  have HB := Aside0.mk h
  have HX := Aside0.mk hx
  clear h hx hr
  go_enter Try.func38, Try.ntmps38
  go_wp2
  refine start_ (n := 11) (S := fun w' => w'.cell? ⟨g, 0, none⟩ = some (.slice A ns.length c) ∧ w'.cell? ⟨W.heap.size, 0, none⟩ = some (.int .i64 x.rn) ∧ w'.cell? ⟨W.heap.size, 1, none⟩ = some (.int .i64 x.ln) ∧ w'.cell? ⟨W.heap.size, 2, none⟩ = some (.int .i64 x.bn) ∧ w'.cell? ⟨W.heap.size, 3, none⟩ = some (.int .i64 x.lf) ∧ w'.cell? ⟨W.heap.size, 4, none⟩ = some (.int .i64 x.rt) ∧ w'.cell? ⟨W.heap.size, 5, none⟩ = some (.slice T x.tx.length tc)) (ds := [10]) #[false, false, false, false, false, false, false, false, false, false, false] (by kernel_rfl) rfl rfl ⟨(blk_cell (blk_drew (blk_alloc HB.out.1 _)) 0).trans rfl, (blk_cell (blk_drew (blk_new W _)) 0).trans rfl, (blk_cell (blk_drew (blk_new W _)) 1).trans rfl, (blk_cell (blk_drew (blk_new W _)) 2).trans rfl, (blk_cell (blk_drew (blk_new W _)) 3).trans rfl, (blk_cell (blk_drew (blk_new W _)) 4).trans rfl, (blk_cell (blk_drew (blk_new W _)) 5).trans rfl⟩ (fun hHeld => ?_); refine with_tabW add.tab1 add.bits1 (fun HT_ HW_ => ?_)
  refine pure_ (i := 0) (N := some 5) (v := ?_) (a' := ?_) #[true, false, false, false, false, false, false, false, false, false, false] rfl rfl (any_of HT_.out (by kernel_rfl)) (fun _ _ _ h => h) (Or.inl ⟨by rfl, ?_⟩) ?_ ?_
  rotate_left
  · intro w'
    go_simp
    with_reducible rfl
  rotate_left
  · simp only [Act.put, List.setIfInBounds_toArray, List.set_cons_zero, List.set_cons_succ, i64_w, i32_w]
    rfl
  refine pure_ (i := 1) (N := some 6) (v := ?_) (a' := ?_) #[true, true, false, false, false, false, false, false, false, false, false] rfl rfl (any_of HT_.out (by kernel_rfl)) (fun _ _ _ h => h) (Or.inl ⟨by rfl, ?_⟩) ?_ ?_
  rotate_left
  · intro w'
    go_simp
    with_reducible rfl
  rotate_left
  · simp only [Act.put, List.setIfInBounds_toArray, List.set_cons_zero, List.set_cons_succ, i64_w, i32_w]
    rfl
  refine pure_ (i := 2) (N := some 7) (v := ?_) (a' := ?_) #[true, true, true, false, false, false, false, false, false, false, false] rfl rfl (any_of HT_.out (by kernel_rfl)) (fun _ _ _ h => h) (Or.inl ⟨by rfl, ?_⟩) ?_ ?_
  rotate_left
  · intro w'
    go_simp
    with_reducible rfl
  rotate_left
  · simp only [Act.put, List.setIfInBounds_toArray, List.set_cons_zero, List.set_cons_succ, i64_w, i32_w]
    rfl
  refine pure_ (i := 3) (N := some 8) (v := ?_) (a' := ?_) #[true, true, true, true, false, false, false, false, false, false, false] rfl rfl (any_of HT_.out (by kernel_rfl)) (fun _ _ _ h => h) (Or.inl ⟨by rfl, ?_⟩) ?_ ?_
  rotate_left
  · intro w'
    go_simp
    with_reducible rfl
  rotate_left
  · simp only [Act.put, List.setIfInBounds_toArray, List.set_cons_zero, List.set_cons_succ, i64_w, i32_w]
    rfl
  refine take_ (i := 4) (N := some 9) (v := ?_) (a' := ?_) #[true, true, true, true, true, false, false, false, false, false, false] rfl rfl (take_ofW HT_.out HW_.out (by kernel_rfl)) (fun _ _ _ h => h) (Or.inl ⟨by rfl, ?_⟩) hHeld ?_ ?_
  rotate_left
  · rintro w' ⟨s0, s1, s2, s3, s4, s5, s6⟩
    go_simp
    with_reducible rfl
  rotate_left
  · simp only [Act.put, List.setIfInBounds_toArray, List.set_cons_zero, List.set_cons_succ, i64_w, i32_w]
    rfl
  refine take_ (i := 5) (N := some 10) (v := ?_) (a' := ?_) #[true, true, true, true, true, true, false, false, false, false, false] rfl rfl (take_ofW HT_.out HW_.out (by kernel_rfl)) (fun _ _ _ h => h) (Or.inl ⟨by rfl, ?_⟩) hHeld ?_ ?_
  rotate_left
  · rintro w' ⟨s0, s1, s2, s3, s4, s5, s6⟩
    go_simp
    with_reducible rfl
  rotate_left
  · simp only [Act.put, List.setIfInBounds_toArray, List.set_cons_zero, List.set_cons_succ, i64_w, i32_w]
    rfl
  refine one_ (i := 6) (N := some 11) #[true, true, true, true, true, true, true, false, false, false, false] rfl rfl (one_of HT_.out (by kernel_rfl)) (by decide) (fun K hK => ?_)
  refine value_ (by rfl) rfl (v := .slice (some ⟨W.heap.size + 1, 0, none⟩) 1 1) (w1 := ((W.alloc (.cells #[.int .i64 x.rn, .int .i64 x.ln, .int .i64 x.bn, .int .i64 x.lf, .int .i64 x.rt, .slice T x.tx.length tc] 67)).drew).alloc (.cells #[.int .i64 x.rn, .int .i64 x.ln, .int .i64 x.bn, .int .i64 x.lf, .int .i64 x.rt, .slice T x.tx.length tc] 67)) ?hr ?_
  case hr => go_simp
  refine hK.out _ _ ⟨(blk_cell (blk_alloc (blk_drew (blk_alloc HB.out.1 _)) _) 0).trans rfl, (blk_cell (blk_alloc (blk_drew (blk_new W _)) _) 0).trans rfl, (blk_cell (blk_alloc (blk_drew (blk_new W _)) _) 1).trans rfl, (blk_cell (blk_alloc (blk_drew (blk_new W _)) _) 2).trans rfl, (blk_cell (blk_alloc (blk_drew (blk_new W _)) _) 3).trans rfl, (blk_cell (blk_alloc (blk_drew (blk_new W _)) _) 4).trans rfl, (blk_cell (blk_alloc (blk_drew (blk_new W _)) _) 5).trans rfl⟩ (fun hHeld => ?_)
  clear hK K
  refine norm_ (a' := ?_) ?_ ?_
  rotate_left
  · show Act.put _ (some 11) _ = _
    simp only [Act.put, List.setIfInBounds_toArray, List.set_cons_zero, List.set_cons_succ, i64_w, i32_w]
    rfl
  refine one_ (i := 7) (N := some 12) #[true, true, true, true, true, true, true, true, false, false, false] rfl rfl (one_of HT_.out (by kernel_rfl)) (by decide) (fun K hK => ?_)
  have hW : Aside0 (Below W.heap.size W ((W.alloc (.cells #[.int .i64 x.rn, .int .i64 x.ln, .int .i64 x.bn, .int .i64 x.lf, .int .i64 x.rt, .slice T x.tx.length tc] 67)).drew)) := ⟨(below_alloc (Below.refl _ _) _).drew⟩
  refine OwnRow.append_step (R := NodeAt W) (w0 := W) base (by rfl) _ _ 53 67 _ 6 64 (by rfl) Try.underlying53 info67 (by rfl) (by decide) (by decide) (.slice A ns.length c) ns x [.int .i64 x.rn, .int .i64 x.ln, .int .i64 x.bn, .int .i64 x.lf, .int .i64 x.rt, .slice T x.tx.length tc] (by rfl) (by simp [Act.eval]) HX.out rfl (by simp [Value.oneCell']) (HB.out.2.2.below hW.out) (below_lower hW.out (Nat.le_trans HB.out.2.1 (Nat.le_of_lt HB.out.lt))) (Nat.le_trans (Nat.le_trans HB.out.2.1 (Nat.le_of_lt HB.out.lt)) hW.out.size) (by omega) ?_
  intro v1 w1 hown hbel hgr hat
  have hbg : w1.heap[g]? = some (.cells #[.slice A ns.length c, .int .i64 root] 55 (0, 0)) := blk_grown (blk_drew (blk_alloc HB.out.1 _)) hgr (HB.out.2.2.ne_block HB.out.1 (by decide))
  have hbx : w1.heap[W.heap.size]? = some (.cells #[.int .i64 x.rn, .int .i64 x.ln, .int .i64 x.bn, .int .i64 x.lf, .int .i64 x.rt, .slice T x.tx.length tc] 67 (0, 0)) := blk_grown (blk_drew (blk_new W _)) hgr (fun he => Nat.lt_irrefl _ (HB.out.row _ he.symm).2.1)
  obtain ⟨A1, c1, rfl, hc1⟩ := hown.slice_
  have hlen : (ns ++ [x]).length = ns.length + 1 := by simp
  rw [hlen] at hown hat ⊢
  refine hK.out _ _ ⟨(blk_cell hbg 0).trans rfl, (blk_cell hbx 0).trans rfl, (blk_cell hbx 1).trans rfl, (blk_cell hbx 2).trans rfl, (blk_cell hbx 3).trans rfl, (blk_cell hbx 4).trans rfl, (blk_cell hbx 5).trans rfl⟩ (fun hHeld => ?_)
  have HN := Aside0.mk hown
  have HG := Aside0.mk hgr
  have HA := Aside0.mk hat
  have HBG := Aside0.mk hbg
  have HBB := Aside0.mk hbel
  clear hown hgr hat hbg hbx hbel
  clear hK K
  refine norm_ (a' := ?_) ?_ ?_
  rotate_left
  · show Act.put _ (some 12) _ = _
    simp only [Act.put, List.setIfInBounds_toArray, List.set_cons_zero, List.set_cons_succ, i64_w, i32_w]
    rfl
  refine pure_ (i := 8) (N := some 13) (v := ?_) (a' := ?_) #[true, true, true, true, true, true, true, true, true, false, false] rfl rfl (any_of HT_.out (by kernel_rfl)) (fun _ _ _ h => h) (Or.inl ⟨by rfl, ?_⟩) ?_ ?_
  rotate_left
  · intro w'
    go_simp
    with_reducible rfl
  rotate_left
  · simp only [Act.put, List.setIfInBounds_toArray, List.set_cons_zero, List.set_cons_succ, i64_w, i32_w]
    rfl
  refine pure_ (i := 9) (N := some 14) (v := ?_) (a' := ?_) #[true, true, true, true, true, true, true, true, true, true, false] rfl rfl (any_of HT_.out (by kernel_rfl)) (fun _ _ _ h => h) (Or.inl ⟨by rfl, ?_⟩) ?_ ?_
  rotate_left
  · intro w'
    go_simp
    with_reducible rfl
  rotate_left
  · simp only [Act.put, List.setIfInBounds_toArray, List.set_cons_zero, List.set_cons_succ, i64_w, i32_w]
    rfl
  refine last_ (i := 10) (N := none) #[true, true, true, true, true, true, true, true, true, true, true] rfl rfl (one_of HT_.out (by kernel_rfl)) (by decide) (fun K hK => ?_)
  have hfz : w1.frozen? ⟨g, 0, none⟩ = false := blk_frozen HBG.out 0
  have hcz : w1.cell? ⟨g, 0, none⟩ = some (.slice A ns.length c) := (blk_cell HBG.out 0).trans rfl
  refine skip_ (by rfl) rfl (w1 := w1.setCell ⟨g, 0, none⟩ (.slice A1 (ns.length + 1) c1)) ?hr ?_
  case hr => go_simp
  refine hK.out _ _ ?_
  clear hK K
  refine done_ (done_of HT_.out (by kernel_rfl)) ?_
  have hR : RopeAt base (w1.setCell ⟨g, 0, none⟩ (.slice A1 (ns.length + 1) c1)) g (.slice A1 (ns.length + 1) c1) (ns ++ [x]) root := ropeAt_set0 HB.out HX.out HN.out HG.out HA.out HBG.out
  have hM : Mv base g (.slice A ns.length c) (.slice A1 (ns.length + 1) c1) W (w1.setCell ⟨g, 0, none⟩ (.slice A1 (ns.length + 1) c1)) := mv_set0 HB.out HG.out HA.out
  go_wp2
  go_ret
  exact ⟨_, by go_num, hR, hM⟩

end Go.Proofs.Ytepcdjkpmchobaa.Rope
