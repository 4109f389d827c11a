/- rope.enc, rope.and and rope.count tell what is counted of runes: runes, line ends, bytes. -/
import Derived.Laws.Cover4
import Derived.Test.YtepcdjkpmchobaaRopeB
namespace Go.Proofs.Ytepcdjkpmchobaa.Rope
open Go.RowKit Go.Proofs.YtepcdjkpmchobaaW.PrintWords Go.Proofs.YtepcdjkpmchobaaW.PrintLast Go.Proofs.YtepcdjkpmchobaaW.PrintMore
attribute [local go_sem] max2_int min2_int max_two min_two max_three min_three max_four min_four
set_option linter.unusedVariables false
set_option linter.unusedSimpArgs false

/-! ### What is counted -/
def nl (t : List Int) : Nat := t.countP (· == 10)
def ub (t : List Int) : Nat := (runesBytes t).size
theorem nl_append (s t : List Int) : nl (s ++ t) = nl s + nl t := by simp [nl]
theorem nl_le (t : List Int) : nl t ≤ t.length := List.countP_le_length
theorem foldl_size (t : List Int) : ∀ s : ByteArray, (t.foldl (fun r n => r ++ Utf8.encode n) s).size = s.size + (runesBytes t).size := by
  unfold runesBytes
  induction t with
  | nil => intro s; simp
  | cons x t ih =>
    intro s
    simp only [List.foldl_cons]
    rw [ih, ih (ByteArray.empty ++ Utf8.encode x)]
    simp only [ByteArray.size_append]
    have : ByteArray.empty.size = 0 := rfl
    omega
theorem ub_append (s t : List Int) : ub (s ++ t) = ub s + ub t := by
  unfold ub
  conv => lhs; unfold runesBytes
  rw [List.foldl_append, foldl_size]
  rfl
theorem ub_le (t : List Int) : ub t ≤ 4 * t.length := runesBytes_size_le t
theorem ub_nil : ub [] = 0 := rfl
theorem nl_nil : nl [] = 0 := rfl

/-- Runes that are read. -/
abbrev RI (W : World) (A : Option Addr) (t : List Int) : Prop := Kd.C (Kd.int .i32) W A t.length t
theorem RI.nil (W : World) : RI W none [] := Kd.C_nil _ _
theorem RI.below {W W' : World} {A : Option Addr} {t : List Int} (h : RI W A t) (hb : Below W.heap.size W W') : RI W' A t := Kd.C_below h hb

theorem conv_runes {w : World} {A : Option Addr} {t : List Int} {c : Nat} (h : RI w A t) : (convert 22 9 (.slice A t.length c)).run Try.prog w = .ok (.string (runesBytes t)) w := by
  have hr := Kd.reads_of_C (d := (0 : Int)) h
  rcases A with _ | a
  · have h0 : t = [] := by
      rcases Nat.eq_zero_or_pos t.length with h0 | h0
      · exact List.eq_nil_of_length_eq_zero h0
      · obtain ⟨ad, he, _⟩ := hr.2.2 h0
        cases he
    subst h0
    exact run_convert_runes_nil w 22 9 21 _ _ Try.underlying22 Try.underlying21 Try.underlying9
  · have := run_convert_runes (P := Try.prog) w 22 9 21 a t.length c t (Nat.le_refl _) Try.underlying22 Try.underlying21 Try.underlying9 (fun j hj => by
      obtain ⟨ad, he, hc⟩ := hr.2.2 (by omega)
      injection he with he
      subst he
      exact hc j hj)
    rwa [List.take_length] at this

theorem enc_calls (t : List Int) (A : Option Addr) (c : Nat) (w : World) (h : RI w A t) :
    Calls Try.prog 45 #[.slice A t.length c] w fun e w' => ∃ cb, e = .returned (.slice (some ⟨w.heap.size, 0, none⟩) (ub t) cb) ∧ Below w.heap.size w w' := by
  have k1 := conv_runes (c := c) h
  have k2 := fun (s : ByteArray) => Lib.run_convert_string_bytes (P := Try.prog) w 9 70 5 s Try.underlying9 Try.underlying70 Try.underlying5
  clear h
  go_enter Try.func45, Try.ntmps45
  go_wp2
  go_ret
  exact ⟨_, rfl, bytes_below (Below.refl _ _) (Nat.le_refl _) _ _⟩

theorem and_calls (a0 a1 a2 b0 b1 b2 : Int) (w : World) (ha0 : 0 ≤ a0) (ha1 : 0 ≤ a1) (ha2 : 0 ≤ a2) (hb0 : 0 ≤ b0) (hb1 : 0 ≤ b1) (hb2 : 0 ≤ b2)
    (ka0 : a0 ≤ 1000000000) (ka1 : a1 ≤ 1000000000) (ka2 : a2 ≤ 1000000000) (kb0 : b0 ≤ 1000000000) (kb1 : b1 ≤ 1000000000) (kb2 : b2 ≤ 1000000000) :
    Calls Try.prog 42 #[.agg #[.int .i64 a0, .int .i64 a1, .int .i64 a2], .agg #[.int .i64 b0, .int .i64 b1, .int .i64 b2]] w
      fun e w' => e = .returned (.agg #[.int .i64 (a0 + b0), .int .i64 (a1 + b1), .int .i64 (a2 + b2)]) ∧ Below w.heap.size w w' := by
  go_enter Try.func42, Try.ntmps42
  go_wp2
  refine bodyPost_ret (v := .agg #[.int .i64 (a0 + b0), .int .i64 (a1 + b1), .int .i64 (a2 + b2)]) (by simp [results, Try.results42, go_sem]) rfl ⟨rfl, ?_⟩
  exact (((Below.refl _ _).alloc (Nat.le_refl _) _).alloc (by simp) _).alloc (by simp; omega) _

theorem take_snoc (t : List Int) (k : Nat) (h : k < t.length) : t.take (k + 1) = t.take k ++ [t.getD k 0] := by
  rw [List.take_succ_eq_append_getElem h]
  simp [List.getD_eq_getElem?_getD, List.getElem?_eq_getElem h]
theorem nl_take_succ (t : List Int) (k : Nat) (h : k < t.length) : nl (t.take (k + 1)) = nl (t.take k) + (if t.getD k 0 = 10 then 1 else 0) := by
  rw [take_snoc t k h, nl_append]
  congr 1
  by_cases hc : t.getD k 0 = 10 <;> simp [nl, hc]
theorem nl_take_le (t : List Int) (k : Nat) : nl (t.take k) ≤ k := Nat.le_trans (nl_le _) (List.length_take_le _ _)

set_option maxHeartbeats 1000000 in
theorem count_calls (t : List Int) (A : Option Addr) (c : Nat) (w : World) (h : RI w A t) (hl : t.length ≤ 1000000) :
    Calls Try.prog 39 #[.slice A t.length c] w fun e w' => e = .returned (.agg #[.int .i64 t.length, .int .i64 (nl t), .int .i64 (ub t)]) ∧ Below w.heap.size w w' := by
  have HR := Aside0.mk h
  clear h
  go_enter Try.func39, Try.ntmps39
  go_wp2_with (go_at_call 45; refine (enc_calls t A c _ (HR.out.below (below_alloc (Below.refl _ _) _))).mono ?_; rintro e w1 ⟨cb, rfl, hb1⟩; have hz : w.heap.size + 1 ≤ w1.heap.size := by have := hb1.size; simpa using this)
  have hub := ub_le t
  have hnlt := nl_le t
  have HB1 : Aside0 (Below w.heap.size w w1) := ⟨below_then (below_alloc (Below.refl _ _) _) (by simp) (below_lower hb1 (by simp))⟩
  have HB0 : Aside0 (w1.heap[w.heap.size]? = some (.cells #[.int .i64 0, .int .i64 0, .int .i64 0] 64 (0, 0))) := ⟨blk_below (blk_new w _) hb1⟩
  clear hb1
  go_loopg [5, 14] (t.length + 1) (fun kq v5 v14 wr => ∃ i : Nat, i ≤ t.length ∧ v14 = .int .i64 (i : Int) ∧ kq + i = t.length + 1 ∧ wr.heap[w1.heap.size]? = some (.cells #[.int .i64 t.length, .int .i64 (nl (t.take i)), .int .i64 (ub t)] 64 (0, 0)) ∧
      wr.heap[w.heap.size]? = some (.cells #[.int .i64 0, .int .i64 0, .int .i64 0] 64 (0, 0)) ∧ Below w.heap.size w wr)
  case atStart => exact ⟨0, Nat.zero_le _, rfl, rfl, blk_new w1 _, blk_alloc HB0.out _, HB1.out.alloc (by omega) _⟩
  case round =>
    obtain ⟨i, hi, rfl, hk, hb, hb0, hbel⟩ := hrel
    have HRW := Aside0.mk (HR.out.below hbel)
    have hs1 := (blk_cell hb 1).trans rfl
    have hs0 := (blk_cell hb 0).trans rfl
    have hs2 := (blk_cell hb 2).trans rfl
    have hf1 := blk_frozen hb 1
    have hr0 := (blk_cell hb0 0).trans rfl
    have hr1 := (blk_cell hb0 1).trans rfl
    have hr2 := (blk_cell hb0 2).trans rfl
    have hg0 := blk_frozen hb0 0
    have hg1 := blk_frozen hb0 1
    have hg2 := blk_frozen hb0 2
    have hnli := nl_take_le t i
    have HBE := Aside0.mk hbel
    have HB := Aside0.mk hb
    have HB0' := Aside0.mk hb0
    have HK := Aside0.mk hk
    clear hk hb hb0 hbel
    by_cases hlt : i < t.length
    · obtain ⟨ad, rfl, hcell⟩ := Kd.at_int HRW.out (i : Int) (by omega) (by omega)
      have hcell' : wr.cell? (ad.add i) = some (.int .i32 (rd t i)) := hcell
      clear hcell
      cases gk with
      | zero => exact absurd HK.out (by omega)
      | succ k1 =>
        by_cases hc : rd t i = 10
        · have hc1 : (rd t i == 10) = true := beq_iff_eq.mpr hc
          have HC := Aside0.mk hc
          clear hc
          go_wp2
          go_roundg k1
          case measure => omega
          case rel => exact ⟨i + 1, by omega, by go_num, by have := HK.out; omega, by rw [nl_take_succ t i hlt, if_pos (show t.getD i 0 = 10 from HC.out)]; simpa using blk_set HB.out 1 _, blk_far HB0'.out (p := ⟨w1.heap.size, 1, none⟩) (by show w.heap.size ≠ w1.heap.size; omega) _, HBE.out.setCell (by show w.heap.size ≤ w1.heap.size; omega) _⟩
        · have hc1 : (rd t i == 10) = false := beq_eq_false_iff_ne.mpr hc
          have HC := Aside0.mk hc
          clear hc
          go_wp2
          go_roundg k1
          case measure => omega
          case rel => exact ⟨i + 1, by omega, by go_num, by have := HK.out; omega, by rw [nl_take_succ t i hlt, if_neg (show ¬ t.getD i 0 = 10 from HC.out), Nat.add_zero]; exact HB.out, HB0'.out, HBE.out⟩
    · obtain rfl : i = t.length := by omega
      rw [List.take_length] at hs1
      go_wp2
      refine bodyPost_ret (results_cell_row rfl _ _ w.heap.size 64 #[.int .i64 t.length, .int .i64 (nl t), .int .i64 (ub t)] (0, 0) _ rfl (blk_put (blk_put (blk_put HB0'.out 0 _ rfl) 1 _ rfl) 2 _ rfl) Try.underlying64 rfl (by kernel_rfl)) rfl ⟨rfl, ?_⟩
      exact ((HBE.out.setCell (by simp) _).setCell (by simp) _).setCell (by simp) _
end Go.Proofs.Ytepcdjkpmchobaa.Rope
