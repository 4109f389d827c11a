/- MarksPlay: for every input the call returns true, and each argument reads afterwards as it read before. No conditions. -/
import Derived.Test.YtbeoillppkcpmaaRows
import Derived.Test.YtbeoillppkcpmaaMarkPlays
import Derived.WalkKit
import Derived.ProofKit
import Derived.OpenShut
import Derived.ShutString
import Derived.ChangeOld
import Derived.Below
import Derived.SizedLaws
import Derived.Deep.Slices
import Derived.Lib.SmallJoins
import Derived.ChangeSlices
namespace Go.Proofs.Ytbeoillppkcpmaa.marksPlay
open Go.ChangeShapes Go.WideShapes Go.ChangeAt Go.RowKit Go.Proofs.YtbeoillppkcpmaaW.PrintWords
set_option linter.unusedVariables false
theorem own : ownKnob Try.prog.godebug = none := by kernel_rfl
theorem laidOut : laidOutB Try.prog = true := by kernel_rfl
def IsRow (k : IntKind) (w : World) (a : Option Addr) (len cap : Nat) (zs : List Int) : Prop :=
  (a = none ∧ len = 0 ∧ cap = 0 ∧ zs = []) ∨
  ∃ x, a = some x ∧ len ≤ cap ∧ cap ≤ maxLen ∧ zs.length = cap ∧ (∀ i, i < zs.length → w.cell? (x.add i) = some (.int k (zs.getD i 0))) ∧ ∀ n ∈ zs, (Lit.int k n).wf = true
theorem cells35 : Try.prog.cellsOf 35 = 9 := by kernel_rfl
theorem cells30 : Try.prog.cellsOf 30 = 4 := by kernel_rfl
theorem cells33 : Try.prog.cellsOf 33 = 3 := by kernel_rfl
theorem cells28 : Try.prog.cellsOf 28 = 2 := by kernel_rfl
theorem cells3 : Try.prog.cellsOf 3 = 1 := by kernel_rfl
theorem cells4 : Try.prog.cellsOf 4 = 1 := by kernel_rfl
theorem cells31 : Try.prog.cellsOf 31 = 1 := by kernel_rfl
/-- A slice of runes, read. -/
theorem open_runes {H : Type} {enc : TypeId × Value → H} {w : World} {base fuel : Nat} {v : Value} {y : DataW H × List MemPlace} (h : DataW.trod enc Try.prog w base (fun _ => true) true fuel 31 [v] = some y) :
    ∃ (a : Option Addr) (l : List Int) (c : Nat), v = .slice a l.length c ∧ l.length ≤ c ∧ Kd.C (Kd.int .i32) w a l.length l := by
  have hz : ∃ a len cap zs, v = .slice a len cap ∧ IsRow .i32 w a len cap zs := by
    rcases open_ints Try.underlying31 Try.underlying21 (by kernel_rfl) h with ⟨hcs, _⟩ | ⟨x, l, c, zs, hcs, _, hl, hm, hz, _, hcell, hwz⟩
    · injection hcs with hcs _
      exact ⟨none, 0, 0, [], hcs, .inl ⟨rfl, rfl, rfl, rfl⟩⟩
    · injection hcs with hcs _
      exact ⟨some x, l, c, zs, hcs, .inr ⟨_, rfl, hl, hm, by simpa using hz, hcell, hwz⟩⟩
  obtain ⟨a, len, cap, zs, rfl, hr⟩ := hz
  obtain ⟨l0, rfl, hr0, hm0, hw0, hc0⟩ := ReadsInt.ofRowC hr
  exact ⟨a, l0, cap, rfl, hc0, Kd.C_of_reads (d := (0 : Int)) (h1 := fun _ => rfl) hr0⟩
/-- A deed, read. -/
theorem open_deed {H : Type} {enc : TypeId × Value → H} {w : World} {base fuel : Nat} {cs : List Value} {y : DataW H × List MemPlace} (h : DataW.trod enc Try.prog w base (fun _ => true) true fuel 35 cs = some y) : ∃ x : Mark.S35, cs.length = 9 ∧ Mark.k35.K w x cs := by
  obtain ⟨y0, y1, y2, y3, n, _, hl, g0, g1, g2, g3⟩ := Go.Joins.trod_struct4 Try.underlying35 h
  rw [cells35] at hl
  match cs, hl with
  | [v0, v1, v2, v3, v4, v5, v6, v7, v8], _ =>
    simp [cells3, cells30, cells33] at g0 g1 g2 g3
    obtain ⟨n0, e0, _⟩ := DataW.trod_int Try.underlying3 g0
    obtain ⟨n1, e1, _⟩ := DataW.trod_int Try.underlying3 g1
    obtain ⟨_, _, _, _, _, _, r0, r1, r2⟩ := Go.Deep.trod_struct3 Try.underlying30 g2
    obtain ⟨_, _, _, _, _, _, s0, s1, s2⟩ := Go.Deep.trod_struct3 Try.underlying33 g3
    simp [cells28, cells4] at r0 r1 r2
    simp [cells3, cells31] at s0 s1 s2
    obtain ⟨_, _, _, _, _, t0, t1⟩ := Go.ChangeShapes.trod_struct2 Try.underlying28 r0
    simp [cells3] at t0 t1
    obtain ⟨n2, e2, _⟩ := DataW.trod_int Try.underlying3 t0
    obtain ⟨n3, e3, _⟩ := DataW.trod_int Try.underlying3 t1
    obtain ⟨b4, e4, _⟩ := DataW.trod_bool Try.underlying4 r1
    obtain ⟨b5, e5, _⟩ := DataW.trod_bool Try.underlying4 r2
    obtain ⟨n6, e6, _⟩ := DataW.trod_int Try.underlying3 s0
    obtain ⟨n7, e7, _⟩ := DataW.trod_int Try.underlying3 s1
    obtain ⟨a, l, c, rfl, hc, hr⟩ := open_runes s2
    injection e0 with e0 _
    injection e1 with e1 _
    injection e2 with e2 _
    injection e3 with e3 _
    injection e4 with e4 _
    injection e5 with e5 _
    injection e6 with e6 _
    injection e7 with e7 _
    subst e0
    subst e1
    subst e2
    subst e3
    subst e4
    subst e5
    subst e6
    subst e7
    exact ⟨⟨n0, n1, n2, n3, b4, b5, n6, n7, l⟩, rfl, Mark.k35_mk w ⟨n0, n1, n2, n3, b4, b5, n6, n7, l⟩ hc hr⟩
theorem add_addr (a : Addr) (i j : Nat) : (a.add i).add j = a.add (i + j) := Go.Deep.add_add a i j
/-- A slice of deeds, read. -/
theorem open_deeds {H : Type} {enc : TypeId × Value → H} {w : World} {base fuel : Nat} {cs : List Value} {y : DataW H × List MemPlace} (h : DataW.trod enc Try.prog w base (fun _ => true) true fuel 22 cs = some y) :
    ∃ (a : Option Addr) (ds : List Mark.S35) (c : Nat), cs = [.slice a ds.length c] ∧ ds.length ≤ c ∧ Kd.C Mark.k35 w a ds.length ds ∧ ds.length ≤ 9223372036854775807 := by
  rcases Go.Deep.open_slice Try.underlying22 h with ⟨rfl, _⟩ | ⟨ad, len, cap, m, n, D, Pl, rfl, hb, hl, hm, hmm, _, hx⟩
  · exact ⟨none, [], 0, rfl, Nat.le_refl _, Kd.C_nil _ _, by simp⟩
  · rw [if_pos rfl] at hmm
    subst hmm
    have each : ∀ i, i < m → ∃ q : Mark.S35 × List Value, q.2.length = 9 ∧ Mark.k35.K w q.1 q.2 ∧ ∀ j u, q.2[j]? = some u → w.cell? (ad.add (i * 9 + j)) = some u := by
      intro i hi
      obtain ⟨cs', h1, h2⟩ := hx i hi
      rw [cells35] at h1
      obtain ⟨x, hlen, hK⟩ := open_deed h2
      obtain ⟨_, _, hcell⟩ := World.cells?_some h1
      refine ⟨(x, cs'), hlen, hK, fun j u hu => ?_⟩
      have hj : j < 9 := by
        rcases Nat.lt_or_ge j 9 with h4 | h4
        · exact h4
        · rw [List.getElem?_eq_none (show cs'.length ≤ j by omega)] at hu; cases hu
      have := hcell j hj
      rw [add_addr] at this
      rw [this]
      exact hu
    haveI : Inhabited (Mark.S35 × List Value) := ⟨(Mark.z35, [])⟩
    obtain ⟨q, hq⟩ := Go.Deep.choose_lt each
    have hml : m ≤ 9223372036854775807 := by simpa [maxLen] using hm
    have hlen : ((List.range len).map fun i => (q i).1).length = len := by simp
    refine ⟨some ad, (List.range len).map fun i => (q i).1, m, by rw [hlen], by rw [hlen]; exact hl, ⟨rfl, by rw [hlen]; omega, fun _ => ⟨ad, rfl, fun j p hp => ?_⟩⟩, by rw [hlen]; omega⟩
    have hj : j < len := by
      rcases Nat.lt_or_ge j len with h4 | h4
      · exact h4
      · rw [List.getElem?_eq_none (by rw [hlen]; exact h4)] at hp; cases hp
    have hp' : (q j).1 = p := by simpa [hj] using hp
    subst hp'
    obtain ⟨h1, h2, h3⟩ := hq j (by omega)
    exact ⟨(q j).2, h1, h2, h3⟩
set_option maxRecDepth 100000 in
theorem lifted (os : Os) (started : os.Started) (H : Type) (enc : TypeId × Value → H) :
    ReturnsInHanded {} Try.checked os 3 .any (Rows.marksPlaySpec.pre6 enc Try.prog Try.f3 Rows.marksPlayRow.domain false) (Rows.marksPlaySpec.post enc Try.prog Try.f3 false true false false) := by
  refine returnsInHanded_of_change_sized (C := Try.checked) own started (by kernel_rfl) Try.func3
    (ChangeSpec.witness6 (enc := enc) (C := Try.checked) false ⟨#[], #[.slice none 0 0], []⟩ 8 (by kernel_rfl) (by kernel_rfl) (by kernel_rfl) (by kernel_rfl)) ?_
  intro W base args ds gs before hval0 hW hcnd hsz0 _
  have hval : ∀ (j : Nat) t v, Try.f3.params[j]? = some t → args[j]? = some v → Value.okWide Try.prog W .any base t v := hval0
  have hW' := hW
  obtain ⟨p, q, hA0, hV, rfl, hfz, hnd⟩ := hW
  have hA : DataW.TrodAll enc Try.prog W 0 (fun _ => true) true Try.f3.params.toList args.toList ds p := hA0
  rw [Try.params3] at hA hval
  obtain ⟨v0, vs0, d0, ds0, p0, q0, hargs, rfl, rfl, h0, r0⟩ := trodAll_cons hA
  obtain ⟨rfl, rfl, rfl⟩ := trodAll_nil r0
  obtain rfl : args = #[v0] := by cases args; simp_all
  obtain ⟨rfl, rfl⟩ := trodVars_none hV
  obtain ⟨a0, len0, cap0, rfl⟩ := okWide_slice Try.underlying22 (hval 0 22 v0 rfl rfl)
  have k0 := h0
  have lt0 : ∀ x ∈ p0, x.block < W.heap.size := by obtain ⟨m, hm⟩ := k0; exact DataW.trod_lt m _ _ _ hm
  obtain ⟨fuel0, hf0⟩ := h0
  obtain ⟨b0, l0, c0, e0, hc0, hr0, hn0⟩ := open_deeds (cs := [.slice a0 len0 cap0]) hf0
  injection e0 with e0 _
  injection e0 with e0 e1 e2
  subst e0
  subst e1
  subst e2
  clear hA0 hval0 hsz0
  refine (Mark.plays_calls l0 a0 cap0 W hr0 hc0 hn0).mono fun e W' ⟨he, bel⟩ => ?_
  subst he
  exact ⟨_, rfl, _, _, _, [], _, [], hW', trodAll_mk1 (shut_bool Try.underlying4 _), (trodAll_cons_mk (Below.trod laidOut (by kernel_rfl) (of_decide_eq_true (by kernel_rfl)) k0 bel lt0) trodAll_mk0), rfl, bel.frame _, fun h => by cases h⟩
theorem over : Rows.marksPlayRow.holds Try.pinned (OpenSpec.ofChange Rows.marksPlaySpec) :=
  OpenClaim.holds_of_wide 3 Try.f3 rfl rfl rfl rfl rfl rfl rfl ⟨rfl, rfl, rfl, rfl, rfl⟩ rfl rfl rfl rfl rfl (by kernel_rfl) Try.func3 (by kernel_rfl)
    (of_decide_eq_true (by kernel_rfl)) (by unfold Func.isWrapper; first | (rw [if_pos (by decide +kernel)]; kernel_rfl) | (rw [if_neg (by decide +kernel)]; exact ⟨rfl, rfl⟩))
    (fun os started H enc _ => lifted os started H enc)
theorem proved : Rows.MarksPlaySaid := over
#print axioms proved
end Go.Proofs.Ytbeoillppkcpmaa.marksPlay
namespace Go.Proofs.Ytbeoillppkcpmaa
/-- The row, under a short name, for the claim. -/
theorem marksPlay_holds : Rows.MarksPlaySaid := marksPlay.proved
end Go.Proofs.Ytbeoillppkcpmaa
