/- styluslaw04.MarksPlay returns true, and writes no memory that was there before. -/
import Derived.Laws.Cover3
import Derived.Deep.CutBlock
import Derived.Deep.DeepCutAuto
import Derived.Test.YtbeoillppkcpmaaMarkT
import Derived.Test.YtbeoillppkcpmaaMarkV
import Derived.Test.YtbeoillppkcpmaaMarkW
import Derived.Test.YtbeoillppkcpmaaMarkY
import Derived.Test.YtbeoillppkcpmaaMarkZ
namespace Go.Proofs.Ytbeoillppkcpmaa.Mark
open Go.RowKit Go.Proofs.YtbeoillppkcpmaaW.PrintWords Go.Proofs.YtbeoillppkcpmaaW.PrintLast Go.Proofs.YtbeoillppkcpmaaW.PrintMore Go.Proofs.Ytbeoillppkcpmaa.PMarksPlay
attribute [local go_sem] max2_int min2_int max_two min_two max_three min_three max_four min_four
attribute [local go_sem high] eqA28 eqA42
set_option linter.unusedVariables false
set_option linter.unusedSimpArgs false

theorem new_calls (W : World) : Calls Try.prog 4 #[] W fun e w' => ∃ g, e = .returned (.pointer (some ⟨g, 0, none⟩)) ∧ MarksAt W.heap.size w' g (.slice none 0 0) [] 0 ∧ Below W.heap.size W w' := by
  go_enter Try.func4, Try.ntmps4
  go_wp2_with fail
  go_ret
  exact ⟨W.heap.size, rfl, ⟨blk_new W _, Nat.le_refl _, Kd.R_nil _ _ _ _ _⟩, below_alloc (Below.refl _ _) _⟩
theorem wp_then {P : Program} {c : Code} {Q : Exit → Act → World → Prop} {a : Act} {w : World} (h : Code.wp P c (Exit.then (Q .normal) Q) a w) : Code.wp P c Q a w :=
  Code.wp_mono (fun e a w q => by cases e <;> exact q) h
set_option maxHeartbeats 16000000 in
set_option maxRecDepth 100000 in
theorem plays_calls (ds : List S35) (B : Option Addr) (d : Nat) (W : World) (hm : Kd.C k35 W B ds.length ds) (hd : ds.length ≤ d) (hn : ds.length ≤ 9223372036854775807) :
    Calls Try.prog 3 #[.slice B ds.length d] W fun e w' => e = .returned (.bool true) ∧ Below W.heap.size W w' := by
  have HM := Aside0.mk hm
  have HD := Aside0.mk hd
  clear hm hd
  by_cases c1 : (100 : Int) < ds.length
  · have c1b : decide ((100 : Int) < ds.length) = true := decide_eq_true c1
    go_enter Try.func3, Try.ntmps3
    go_wp2_with fail
    refine (new_calls _).mono ?_
    rintro e w1 ⟨g, rfl, hm1, hb1⟩
    have HB := Aside0.mk hb1
    clear hm1 hb1
    go_wp2_with fail
    refine (knows_calls _).mono ?_
    rintro e w9 ⟨rfl, hb9⟩
    go_wp2_with fail
    go_ret
    exact ⟨rfl, below_then HB.out HB.out.size hb9⟩
  have c1b : decide ((100 : Int) < ds.length) = false := decide_eq_false c1
  have hds : ds.length ≤ 100 := by omega
  go_enter Try.func3, Try.ntmps3
  go_wp2_with fail
  refine (new_calls _).mono ?_
  rintro e w1 ⟨g, rfl, hm1, hb1⟩
  have HB1 := Aside0.mk hb1
  have HM1 := Aside0.mk hm1
  clear hm1 hb1
  go_wp2_with fail
  go_loopg [4, 5, 6] (ds.length + 1) (fun kq v4 v5 v6 wr => ∃ (i : Nat) (ms : List S64) (last : Int) (v : Value), v6 = .int .i64 (i : Int) ∧ v5 = .int .i64 last ∧ i ≤ ds.length ∧ kq + i = ds.length + 1 ∧ Aside0 (MarksAt W.heap.size wr g v ms last) ∧ Aside0 (Ro wr W.heap.size v4 ms) ∧ Aside0 (Good ms last i) ∧ Aside0 (Below W.heap.size W wr))
  case atStart => exact ⟨0, [], 0, .slice none 0 0, rfl, rfl, by omega, by omega, HM1, ⟨Kd.R_nil _ _ _ _ _⟩, ⟨Good.nil⟩, HB1⟩
  case round =>
    obtain ⟨i, ms, last, v, rfl, rfl, hi, hkq, HG0, HO0, HGD, HB0⟩ := hrel
    have HK := Aside0.mk hkq
    clear hkq HM1 HB1
    by_cases hlt : i < ds.length
    · have hlb : decide ((i : Int) < ds.length) = true := decide_eq_true (by omega)
      obtain ⟨ad, A3, c3, rfl, y0, y1, y2, y3, y4, y5, y6, y7, y8, l3, r3⟩ := at_T35 HM.out (i : Int) (by omega) (by omega)
      have y0' := pw_cell_below HB0.out y0
      have y1' := pw_cell_below HB0.out y1
      have y2' := pw_cell_below HB0.out y2
      have y3' := pw_cell_below HB0.out y3
      have y4' := pw_cell_below HB0.out y4
      have y5' := pw_cell_below HB0.out y5
      have y6' := pw_cell_below HB0.out y6
      have y7' := pw_cell_below HB0.out y7
      have y8' := pw_cell_below HB0.out y8
      obtain ⟨⟨x0, x1, x2, x3, x4, x5, x6, x7, xl⟩, hx⟩ : ∃ x, rd_T35 ds i = x := ⟨_, rfl⟩
      rw [hx] at y0' y1' y2' y3' y4' y5' y6' y7' y8' l3 r3
      have L3 := Aside0.mk l3
      have R3 := Aside0.mk r3
      simp only at y0' y1' y2' y3' y4' y5' y6' y7' y8' L3 R3
      rw [Int.toNat_natCast] at y0' y1' y2' y3' y4' y5' y6' y7' y8'
      clear y0 y1 y2 y3 y4 y5 y6 y7 y8 hx l3 r3
      have hib : decide ((i : Int) < (ds.length : Int)) = true := decide_eq_true (by omega)
      have hi0 := eq_true (show (0 : Int) ≤ (i : Int) by omega)
      have hi1 := eq_true (show (i : Int) < (ds.length : Int) by omega)
      have HZ1 : Aside0 ((wr.alloc (.cells #[.int .i64 x0, .int .i64 x1, .int .i64 x2, .int .i64 x3, .bool x4, .bool x5, .int .i64 x6, .int .i64 x7, .slice A3 xl.length c3] 35)).heap[wr.heap.size]? = some (.cells #[.int .i64 x0, .int .i64 x1, .int .i64 x2, .int .i64 x3, .bool x4, .bool x5, .int .i64 x6, .int .i64 x7, .slice A3 xl.length c3] 35)) := ⟨blk_new wr _⟩
      have HA1 : Aside0 (Below wr.heap.size wr (wr.alloc (.cells #[.int .i64 x0, .int .i64 x1, .int .i64 x2, .int .i64 x3, .bool x4, .bool x5, .int .i64 x6, .int .i64 x7, .slice A3 xl.length c3] 35))) := ⟨below_alloc (Below.refl _ _) _⟩
      have HB1 := Aside0.mk (below_then HB0.out HB0.out.size HA1.out)
      have HG1 := Aside0.mk (HG0.out.below HA1.out)
      have HO1 : Aside0 (Ro (wr.alloc (.cells #[.int .i64 x0, .int .i64 x1, .int .i64 x2, .int .i64 x3, .bool x4, .bool x5, .int .i64 x6, .int .i64 x7, .slice A3 xl.length c3] 35)) W.heap.size u4 ms) := ⟨Kd.R_below HO0.out HA1.out⟩
      obtain ⟨A4, c4, rfl, hc4, hr4⟩ := HO1.out.open_
      have HC4 := Aside0.mk hc4
      have HR4 := Aside0.mk hr4
      have hfew := HGD.out.few
      clear hc4 hr4
      obtain ⟨p, hp⟩ := low_is ms x1 HGD.out.rise
      have HP := Aside0.mk hp
      clear hp
      cases gk with
      | zero => exact absurd HK.out (by omega)
      | succ k1 =>
        by_cases c2 : (300 : Int) < xl.length
        · have c2b : decide ((300 : Int) < xl.length) = true := decide_eq_true c2
          have HB := HB1
          go_wp2_with fail
          refine (knows_calls _).mono ?_
          rintro e w9 ⟨rfl, hb9⟩
          go_wp2_with fail
          go_ret
          exact ⟨rfl, below_then HB.out HB.out.size hb9⟩
        have c2b : decide ((300 : Int) < xl.length) = false := decide_eq_false c2
        have HXL : Aside0 (xl.length ≤ 300) := ⟨by omega⟩
        have HI : Aside0 (i ≤ 100) := ⟨by omega⟩
        go_wp2_with fail
        refine (lfind_calls ms x1 p HP.out HGD.out.rise (by omega) A4 c4 _ HR4.out HC4.out).mono ?_
        rintro e w2 ⟨rfl, hb2⟩
        have HB2 := Aside0.mk (below_then HB1.out HB1.out.size hb2)
        have HG2 := Aside0.mk (HG1.out.below hb2)
        have HO2 : Aside0 (Ro w2 W.heap.size (.slice A4 ms.length c4) ms) := ⟨Kd.R_below HO1.out hb2⟩
        have HZ2 := Aside0.mk (blk_below HZ1.out hb2)
        have z0 := (blk_cell HZ2.out 0).trans rfl
        clear hb2 y0' y1' y2' y3' y4' y5' y6' y7' y8' HR4 HZ1 HA1 HB1 HG1 HO1
        go_upto_block 2 with fail
        refine wp_cut (SwR W g i (.slice (some ad) ds.length d) undef (.int .i64 (i : Int)) (.pointer (some ⟨g, 0, none⟩)) (.pointer (some ⟨g, 0, none⟩)) (.bool false) (.bool false) (.slice (some ad) ds.length d) (.int .i64 (ds.length : Int)) (.bool false) (.bool false) undef undef undef undef undef undef) ?_ ?_
        rotate_left
        · intro J K' hJ hMt
          have hk : ∀ a' w', (SwR W g i (.slice (some ad) ds.length d) undef (.int .i64 (i : Int)) (.pointer (some ⟨g, 0, none⟩)) (.pointer (some ⟨g, 0, none⟩)) (.bool false) (.bool false) (.slice (some ad) ds.length d) (.int .i64 (ds.length : Int)) (.bool false) (.bool false) undef undef undef undef undef undef) a' w' → K' a' w' := fun a' w' h => hMt a' w' (Met.intro (hJ a' w' h))
          by_cases q0 : x0 = 0
          · subst q0
            exact arm_add HG2 HO2 HGD HB2 HZ2 L3 R3 HXL HI HP (fun _ _ M _ _ h => by cases M <;> exact h) hk
          by_cases q1 : x0 = 1
          · subst q1
            exact arm_remove HG2 HO2 HGD HB2 HZ2 L3 R3 HXL HI HP (fun _ _ M _ _ h => by cases M <;> exact h) hk
          by_cases q2 : x0 = 2
          · subst q2
            exact arm_edit HG2 HO2 HGD HB2 HZ2 L3 R3 HXL HI HP (fun _ _ M _ _ h => by cases M <;> exact h) hk
          by_cases q3 : x0 = 3
          · subst q3
            exact arm_get HG2 HO2 HGD HB2 HZ2 L3 R3 HXL HI HP (fun _ _ M _ _ h => by cases M <;> exact h) hk
          by_cases q4 : x0 = 4
          · subst q4
            exact arm_stab HG2 HO2 HGD HB2 HZ2 L3 R3 HXL HI HP (fun _ _ M _ _ h => by cases M <;> exact h) hk
          by_cases q5 : x0 = 5
          · subst q5
            exact arm_over HG2 HO2 HGD HB2 HZ2 L3 R3 HXL HI HP (fun _ _ M _ _ h => by cases M <;> exact h) hk
          by_cases q6 : x0 = 6
          · subst q6
            exact arm_parent HG2 HO2 HGD HB2 HZ2 L3 R3 HXL HI HP (fun _ _ M _ _ h => by cases M <;> exact h) hk
          exact arm_none (beq_eq_false_iff_ne.mpr q0) (beq_eq_false_iff_ne.mpr q1) (beq_eq_false_iff_ne.mpr q2) (beq_eq_false_iff_ne.mpr q3) (beq_eq_false_iff_ne.mpr q4) (beq_eq_false_iff_ne.mpr q5) (beq_eq_false_iff_ne.mpr q6) HG2 HO2 HGD HB2 HZ2 L3 R3 HXL HI HP (fun _ _ M _ _ h => by cases M <;> exact h) hk
        · clear HG2 HO2 HB2 HZ2 z0 HP
          rintro _ w3 ⟨f3, s3, ms3, last3, v3, HG3, HO3, HD3, HB3, rfl⟩
          obtain ⟨A5, c5, rfl, _, _⟩ := HO3.out.open_
          go_step
          refine wp_then ?_
          refine wp_cut (SwR W g i (.slice (some ad) ds.length d) undef (.int .i64 (i : Int)) (.pointer (some ⟨g, 0, none⟩)) (.pointer (some ⟨g, 0, none⟩)) (.bool false) (.bool false) (.slice (some ad) ds.length d) (.int .i64 (ds.length : Int)) (.bool false) (.bool false) undef undef undef undef undef undef) ?_ ?_
          rotate_left
          · intro J K' hJ hMt
            exact tail_wp HG3 HO3 HD3 HB3 (fun a' w' h => hMt a' w' (Met.intro (hJ a' w' h)))
          · clear HG3 HO3 HD3 HB3
            rintro _ w4 ⟨f4, s4, ms4, last4, v4, HG4, HO4, HD4, HB4, rfl⟩
            go_wp2_with fail
            go_roundg k1
            case measure => omega
            case rel => exact ⟨i + 1, ms4, last4, v4, by go_num, rfl, by omega, by have := HK.out; omega, HG4, HO4, HD4, HB4⟩
    · have hlb : decide ((i : Int) < ds.length) = false := decide_eq_false (by omega)
      have HB := HB0
      go_wp2_with fail
      refine (knows_calls _).mono ?_
      rintro e w9 ⟨rfl, hb9⟩
      go_wp2_with fail
      go_ret
      exact ⟨rfl, below_then HB.out HB.out.size hb9⟩
end Go.Proofs.Ytbeoillppkcpmaa.Mark
