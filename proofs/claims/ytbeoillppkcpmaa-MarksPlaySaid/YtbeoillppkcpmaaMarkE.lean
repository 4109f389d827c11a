/- slices.Delete of one place moves what lies behind it, and clears the last one. -/
import Derived.Laws.Cover3
import Derived.Deep.RegionLaw
import Derived.Lib.SliceRun
import Derived.Test.YtbeoillppkcpmaaMarkD
namespace Go.Proofs.Ytbeoillppkcpmaa.Mark
open Go.RowKit Go.Proofs.YtbeoillppkcpmaaW.PrintWords Go.Proofs.YtbeoillppkcpmaaW.PrintLast Go.Proofs.YtbeoillppkcpmaaW.PrintMore Go.Proofs.Ytbeoillppkcpmaa.PMarksPlay
attribute [local go_sem] max2_int min2_int max_two min_two max_three min_three max_four min_four
set_option linter.unusedVariables false
set_option linter.unusedSimpArgs false
/-! ### Cells that are laid over a block's cells -/
def putAt (cur : Array Value) (o : Nat) : List Value → Array Value
  | [] => cur
  | v :: r => putAt (cur.setIfInBounds o v) (o + 1) r
theorem putAt_size (vs : List Value) : ∀ (cur : Array Value) (o : Nat), (putAt cur o vs).size = cur.size := by
  induction vs with
  | nil => intro cur o; rfl
  | cons v r ih => intro cur o; rw [putAt, ih]; simp
theorem putAt_get (vs : List Value) : ∀ (cur : Array Value) (o k : Nat), o + vs.length ≤ cur.size → (putAt cur o vs)[k]? = if o ≤ k ∧ k < o + vs.length then vs[k - o]? else cur[k]? := by
  induction vs with
  | nil =>
    intro cur o k h
    rw [if_neg (by simp only [List.length_nil]; omega)]
    rfl
  | cons v r ih =>
    intro cur o k h
    simp only [List.length_cons] at h ⊢
    rw [putAt, ih _ _ _ (by simp only [Array.size_setIfInBounds]; omega)]
    by_cases h1 : k = o
    · subst h1
      rw [if_neg (by omega), if_pos (by omega), Nat.sub_self, List.getElem?_cons_zero]
      have hk : k < cur.size := by omega
      simp [Array.getElem?_setIfInBounds, hk]
    · by_cases h2 : o + 1 ≤ k ∧ k < o + 1 + r.length
      · rw [if_pos h2, if_pos (by omega)]
        obtain ⟨m, rfl⟩ : ∃ m, k = o + 1 + m := ⟨k - (o + 1), by omega⟩
        rw [show o + 1 + m - (o + 1) = m from by omega, show o + 1 + m - o = m + 1 from by omega, List.getElem?_cons_succ]
      · rw [if_neg h2, if_neg (by omega)]
        rw [Array.getElem?_setIfInBounds_ne (by omega)]
theorem blk_setCells (b : Nat) (t : TypeId) (vs : List Value) : ∀ (cur : Array Value) (o : Nat) (w : World), w.heap[b]? = some (.cells cur t (0, 0)) → (w.setCells b o vs).heap[b]? = some (.cells (putAt cur o vs) t (0, 0)) := by
  induction vs with
  | nil => intro cur o w h; exact h
  | cons v r ih => intro cur o w h; rw [World.setCells, putAt]; exact ih _ _ _ (by simpa using blk_set h o v)
theorem below_setCells (b : Nat) (vs : List Value) : ∀ (o : Nat) {base : Nat} {w0 w : World}, Below base w0 w → base ≤ b → Below base w0 (w.setCells b o vs) := by
  induction vs with
  | nil => intro o base w0 w h _; exact h
  | cons v r ih => intro o base w0 w h hb; rw [World.setCells]; exact ih _ (h.setCell hb _) hb
theorem far_setCells (b : Nat) (vs : List Value) : ∀ (o : Nat) (w : World) (k : Nat), k ≠ b → (w.setCells b o vs).heap[k]? = w.heap[k]? := by
  induction vs with
  | nil => intro o w k _; rfl
  | cons v r ih => intro o w k hk; rw [World.setCells, ih _ _ _ hk]; exact Below.heap_setCell w ⟨b, o, none⟩ v k hk
theorem size_setCells (b : Nat) (vs : List Value) : ∀ (o : Nat) (w : World), (w.setCells b o vs).heap.size = w.heap.size := by
  induction vs with
  | nil => intro o w; rfl
  | cons v r ih => intro o w; rw [World.setCells, ih]; simp [World.setCell]
def z5 : List Value := [.int .i64 0, .int .i64 0, .bool false, .bool false, .int .i64 0]
theorem zero64 (w : World) : (zeroValue 64).run Try.prog w = .ok (.agg #[.int .i64 0, .int .i64 0, .bool false, .bool false, .int .i64 0]) w := by kernel_rfl
theorem clear_one (w : World) (ty : TypeId) (gb o c : Nat) (cur : Array Value) (hb : w.heap[gb]? = some (.cells cur 64 (0, 0))) (ho : o + 5 ≤ cur.size) :
    (Builtin.clear_ #[58] ty #[.slice (some ⟨gb, o, none⟩) 1 c]).run Try.prog w = .ok (.tuple #[]) (w.setCells gb o z5) := by
  have hst := run_storeCells_cells (P := Try.prog) gb o z5 0 w (fun j hj => by rw [blk_cell hb]; simp only [z5, List.length_cons, List.length_nil] at hj; rw [Array.getElem?_eq_getElem (by omega)]; rfl) (fun j _ => blk_frozen hb _) (by simp [z5, Value.oneCell'])
  simp only [Nat.add_zero] at hst
  have hz : (Builtin.zeroCells (Value.agg #[.int .i64 0, .int .i64 0, .bool false, .bool false, .int .i64 0]).cells 1).toList = z5 := by kernel_rfl
  simp [Builtin.clear_, run_underlying Try.underlying58, zero64, hz, hst]
def delM.T5 : Bool × List (List Nat × List Nat) := (true, [([], []), ([], []), ([0, 1], [0, 1]), ([], []), ([], []), ([3, 4], [3, 4]), ([2, 5], [2, 5]), ([6, 6, 0, 1, 2, 3, 4, 5, 6], [0, 3, 6])])
def delM.B5 : List Nat := [0, 0, 3, 0, 0, 24, 63, 127]
theorem delM.tab5 : rtab .any (opsOf Try.f24 5) = delM.T5 := by kernel_rfl
theorem delM.bits5 : waitsOk delM.T5.2 delM.B5 = true := by kernel_rfl

/-- What slices.Delete of one place leaves in the row's block. -/
def cutCells (cur : Array Value) (i m : Nat) : Array Value := putAt (putAt cur (i * 5) ((cur.toList.drop ((i + 1) * 5)).take (m * 5))) ((i + m) * 5) z5
set_option maxHeartbeats 4000000 in
theorem delete_one (gb cap i m : Nat) (cur : Array Value) (W : World) (hb : W.heap[gb]? = some (.cells cur 64 (0, 0))) (hs : cur.size = cap * 5) (hn : i + m + 1 ≤ cap) (hcap : cap ≤ 9223372036854775807) (h1c : ∀ u ∈ (cur.toList.drop ((i + 1) * 5)).take (m * 5), u.oneCell' = true) (hsm : i + m + 1 ≤ 1000000) :
    Calls Try.prog 24 #[.slice (some ⟨gb, 0, none⟩) (i + m + 1) cap, .int .i64 (i : Int), .int .i64 ((i : Int) + 1)] W fun e w' => e = .returned (.slice (some ⟨gb, 0, none⟩) (i + m) cap) ∧
      w'.heap[gb]? = some (.cells (cutCells cur i m) 64 (0, 0)) ∧ (∀ k, k ≠ gb → w'.heap[k]? = W.heap[k]?) ∧ w'.heap.size = W.heap.size ∧ (∀ base, base ≤ gb → Below base W w') := by
  have HB := Aside0.mk hb
  have HS := Aside0.mk hs
  have h1 : i ≤ cap := by omega
  have h3 : i + 1 ≤ cap := by omega
  have hne : ((i : Int) == (i : Int) + 1) = false := beq_eq_false_iff_ne.mpr (by omega)
  obtain ⟨i0, hi, hz0, hz1, hz2⟩ := info_parts info64
  have hi0 := Aside0.mk hi
  have hz1 := Aside0.mk hz1
  obtain ⟨news, hnews⟩ : ∃ news, (cur.toList.drop ((i + 1) * 5)).take (m * 5) = news := ⟨_, rfl⟩
  have hnl : Aside0 (news.length = m * 5) := ⟨by rw [← hnews, List.length_take, List.length_drop, Array.length_toList, hs]; omega⟩
  have hno : Aside0 (∀ u ∈ news, u.oneCell' = true) := ⟨fun u hu => h1c u (by rw [hnews]; exact hu)⟩
  have hget : ∀ t u, news[t]? = some u → cur[(i + 1) * 5 + t]? = some u := by
    intro t u hu
    rw [← hnews, List.getElem?_take] at hu
    split at hu
    · rw [List.getElem?_drop, Array.getElem?_toList] at hu
      exact hu
    · cases hu
  have hto := cut_to (P := Try.prog) 58 64 .i64 Try.underlying58 hi (some ⟨gb, 0, none⟩) (i + m + 1) cap (i : Int) (by omega) (by omega) hn
  have hfr := cut_from (P := Try.prog) 58 64 .i64 Try.underlying58 hi 5 hz1.out (some ⟨gb, 0, none⟩) (i + m + 1) cap ((i : Int) + 1) (by omega) (by omega)
  rw [show ((i : Int)).toNat = i from by omega] at hto
  rw [show ((i : Int) + 1).toNat = i + 1 from by omega, show i + m + 1 - (i + 1) = m from by omega] at hfr
  obtain ⟨A', hA', hnc⟩ : ∃ A' : Addr, (if cap = i + 1 then (some ⟨gb, 0, none⟩ : Option Addr) else (some (⟨gb, 0, none⟩ : Addr)).map (·.add ((i + 1) * 5))) = some A' ∧ Aside0 (∀ j u, news[j]? = some u → W.drew.cell? (A'.add j) = some u) := by
    by_cases hc : cap = i + 1
    · refine ⟨⟨gb, 0, none⟩, by simp [hc], ⟨fun j u hu => ?_⟩⟩
      have : news.length = 0 := by rw [hnl.out]; omega
      rw [List.getElem?_eq_none (by omega)] at hu
      cases hu
    · refine ⟨⟨gb, (i + 1) * 5, none⟩, ?_, ⟨fun j u hu => ?_⟩⟩
      · rw [if_neg hc]
        simp [Addr.add]
      · have := hget j u hu
        have e : (⟨gb, (i + 1) * 5, none⟩ : Addr).add j = ⟨gb, (i + 1) * 5 + j, none⟩ := by unfold Addr.add; split <;> simp_all
        rw [e]
        exact (blk_cell (blk_drew hb) _).trans this
  rw [hA'] at hfr
  have hsp : Aside0 (∀ j, j < news.length → (W.drew.cell? ⟨gb, 0 + i * 5 + j, none⟩).isSome = true ∧ W.drew.frozen? ⟨gb, 0 + i * 5 + j, none⟩ = false) := ⟨fun j hj => by
    rw [hnl.out] at hj
    refine ⟨?_, blk_frozen (blk_drew hb) _⟩
    rw [blk_cell (blk_drew hb), Array.getElem?_eq_getElem (by omega)]
    rfl⟩
  obtain ⟨W2, hW2⟩ : ∃ W2, (W.drew).setCells gb (0 + i * 5) news = W2 := ⟨_, rfl⟩
  have HB2 : Aside0 (W2.heap[gb]? = some (.cells (putAt cur (i * 5) news) 64 (0, 0))) := ⟨by rw [← hW2, Nat.zero_add]; exact blk_setCells gb 64 news cur _ _ (blk_drew hb)⟩
  have hsz2 : (putAt cur (i * 5) news).size = cap * 5 := by rw [putAt_size, hs]
  have hcl := fun ty => clear_one W2 ty gb ((i + m) * 5) (cap - (i + m)) _ HB2.out (by rw [hsz2]; omega)
  have HW2 := Aside0.mk hW2
  have HN := Aside0.mk hnews
  clear hb hs h1c hget hi hz0 hz2 hA' hW2 hnews hsz2
  go_enter Try.func24, Try.ntmps24
  go_wp2_with fail
  refine start_ (n := 8) (S := fun _ => True) (ds := []) #[false, false, false, false, false, false, false, false] (by kernel_rfl) rfl rfl trivial (fun hHeld => ?_); refine with_tabW delM.tab5 delM.bits5 (fun HT_ HW_ => ?_)
  refine pure_ (i := 0) (N := some 20) (v := ?_) (a' := ?_) #[true, false, false, false, false, false, false, false] rfl rfl (any_of HT_.out (by kernel_rfl)) (fun _ _ _ h => h) (Or.inl ⟨by rfl, ?_⟩) ?_ ?_
  rotate_left
  · intro w'
    go_simp
    with_reducible rfl
  rotate_left
  · simp only [Act.put, List.setIfInBounds_toArray, List.set_cons_zero, List.set_cons_succ, i64_w, i32_w]
    rfl
  refine pure_ (i := 1) (N := some 21) (v := ?_) (a' := ?_) #[true, true, false, false, false, false, false, false] rfl rfl (any_of HT_.out (by kernel_rfl)) (fun _ _ _ h => h) (Or.inl ⟨by rfl, ?_⟩) ?_ ?_
  rotate_left
  · intro w'
    go_simp
    with_reducible rfl
  rotate_left
  · simp only [Act.put, List.setIfInBounds_toArray, List.set_cons_zero, List.set_cons_succ, i64_w, i32_w]
    rfl
  refine pure_ (i := 2) (N := some 22) (v := .slice (some ⟨gb, 0, none⟩) i cap) (a' := ?padelM_2_1) #[true, true, true, false, false, false, false, false] rfl rfl (any_of HT_.out (by kernel_rfl)) (fun _ _ _ h => h) (Or.inl ⟨by rfl, ?pydelM_2_1⟩) ?pedelM_2_1 ?prdelM_2_1
  case pedelM_2_1 =>
    simp only [Act.put, List.setIfInBounds_toArray, List.set_cons_zero, List.set_cons_succ, i64_w, i32_w]
    rfl
  case pydelM_2_1 =>
    intro w'
    go_simp
  refine pure_ (i := 3) (N := some 23) (v := ?_) (a' := ?_) #[true, true, true, true, false, false, false, false] rfl rfl (any_of HT_.out (by kernel_rfl)) (fun _ _ _ h => h) (Or.inl ⟨by rfl, ?_⟩) ?_ ?_
  rotate_left
  · intro w'
    go_simp
    with_reducible rfl
  rotate_left
  · simp only [Act.put, List.setIfInBounds_toArray, List.set_cons_zero, List.set_cons_succ, i64_w, i32_w]
    rfl
  refine pure_ (i := 4) (N := some 24) (v := ?_) (a' := ?_) #[true, true, true, true, true, false, false, false] rfl rfl (any_of HT_.out (by kernel_rfl)) (fun _ _ _ h => h) (Or.inl ⟨by rfl, ?_⟩) ?_ ?_
  rotate_left
  · intro w'
    go_simp
    with_reducible rfl
  rotate_left
  · simp only [Act.put, List.setIfInBounds_toArray, List.set_cons_zero, List.set_cons_succ, i64_w, i32_w]
    rfl
  refine pure_ (i := 5) (N := some 25) (v := .slice (some A') m (cap - (i + 1))) (a' := ?padelM_5_2) #[true, true, true, true, true, true, false, false] rfl rfl (any_of HT_.out (by kernel_rfl)) (fun _ _ _ h => h) (Or.inl ⟨by rfl, ?pydelM_5_2⟩) ?pedelM_5_2 ?prdelM_5_2
  case pedelM_5_2 =>
    simp only [Act.put, List.setIfInBounds_toArray, List.set_cons_zero, List.set_cons_succ, i64_w, i32_w]
    rfl
  case pydelM_5_2 =>
    intro w'
    go_simp
  refine one_ (i := 6) (N := some 26) #[true, true, true, true, true, true, true, false] rfl rfl (one_of HT_.out (by kernel_rfl)) (by decide) (fun K hK => ?_)
  refine step_append_room rfl _ _ 58 rfl 64 i0 5 Try.underlying58 hi0.out hz1.out gb 0 i cap (by rfl) A' m (cap - (i + 1)) news (by rfl) hnl.out hnc.out hno.out (by omega) hsp.out ?_
  refine hK.out _ _ trivial (fun hHeld => ?_)
  clear hK K
  refine norm_ (a' := ?_) ?_ ?_
  rotate_left
  · show Act.put _ (some 26) _ = _
    simp only [Act.put, List.setIfInBounds_toArray, List.set_cons_zero, List.set_cons_succ, i64_w, i32_w]
    rfl
  refine pure_ (i := 7) (N := some 0) (v := ?_) (a' := ?_) #[true, true, true, true, true, true, true, true] rfl rfl (any_of HT_.out (by kernel_rfl)) (fun _ _ _ h => h) (Or.inl ⟨by rfl, ?_⟩) ?_ ?_
  rotate_left
  · intro w'
    go_simp
    with_reducible rfl
  rotate_left
  · simp only [Act.put, List.setIfInBounds_toArray, List.set_cons_zero, List.set_cons_succ, i64_w, i32_w]
    rfl
  refine done_ (done_of HT_.out (by kernel_rfl)) ?_
  skip
  rw [HW2.out]
  go_wp2_with fail
  go_ret
  refine ⟨rfl, ?_, fun k hk => ?_, ?_, fun base hbase => ?_⟩
  · unfold cutCells
    rw [HN.out]
    exact blk_setCells gb 64 z5 _ _ _ HB2.out
  · rw [far_setCells _ _ _ _ _ hk, ← HW2.out, far_setCells _ _ _ _ _ hk]; rfl
  · rw [size_setCells, ← HW2.out, size_setCells]; rfl
  · rw [← HW2.out]
    exact below_setCells gb z5 _ (below_setCells gb news _ ((Below.refl base W).drew) hbase) hbase
end Go.Proofs.Ytbeoillppkcpmaa.Mark
