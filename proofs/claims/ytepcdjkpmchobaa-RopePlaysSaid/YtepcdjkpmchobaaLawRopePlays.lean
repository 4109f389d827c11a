/- RopePlays: for every input the call returns true, and each argument reads afterwards as it read before. No conditions. -/
import Derived.Test.YtepcdjkpmchobaaRows
import Derived.Test.YtepcdjkpmchobaaRopeZ
import Derived.WalkKit
import Derived.ProofKit
import Derived.OpenShut
import Derived.ShutString
import Derived.ChangeOld
import Derived.Below
import Derived.SizedLaws
import Derived.Deep.Slices
import Derived.Lib.SmallJoins
import Derived.ChangeSlices
namespace Go.Proofs.Ytepcdjkpmchobaa.ropePlays
open Go.ChangeShapes Go.WideShapes Go.ChangeAt Go.RowKit Go.Proofs.YtepcdjkpmchobaaW.PrintWords
set_option linter.unusedVariables false
theorem own : ownKnob Try.prog.godebug = none := by kernel_rfl
theorem laidOut : laidOutB Try.prog = true := by kernel_rfl
def IsRow (k : IntKind) (w : World) (a : Option Addr) (len cap : Nat) (zs : List Int) : Prop :=
  (a = none ∧ len = 0 ∧ cap = 0 ∧ zs = []) ∨
  ∃ x, a = some x ∧ len ≤ cap ∧ cap ≤ maxLen ∧ zs.length = cap ∧ (∀ i, i < zs.length → w.cell? (x.add i) = some (.int k (zs.getD i 0))) ∧ ∀ n ∈ zs, (Lit.int k n).wf = true
theorem cells43 : Try.prog.cellsOf 43 = 4 := by kernel_rfl
theorem cells3 : Try.prog.cellsOf 3 = 1 := by kernel_rfl
theorem cells22 : Try.prog.cellsOf 22 = 1 := by kernel_rfl
/-- A slice of runes, read. -/
theorem open_runes {H : Type} {enc : TypeId × Value → H} {w : World} {base fuel : Nat} {v : Value} {y : DataW H × List MemPlace} (h : DataW.trod enc Try.prog w base (fun _ => true) true fuel 22 [v] = some y) :
    ∃ (a : Option Addr) (l : List Int) (c : Nat), v = .slice a l.length c ∧ l.length ≤ c ∧ Kd.C (Kd.int .i32) w a l.length l := by
  have hz : ∃ a len cap zs, v = .slice a len cap ∧ IsRow .i32 w a len cap zs := by
    rcases open_ints Try.underlying22 Try.underlying21 (by kernel_rfl) h with ⟨hcs, _⟩ | ⟨x, l, c, zs, hcs, _, hl, hm, hz, _, hcell, hwz⟩
    · injection hcs with hcs _
      exact ⟨none, 0, 0, [], hcs, .inl ⟨rfl, rfl, rfl, rfl⟩⟩
    · injection hcs with hcs _
      exact ⟨some x, l, c, zs, hcs, .inr ⟨_, rfl, hl, hm, by simpa using hz, hcell, hwz⟩⟩
  obtain ⟨a, len, cap, zs, rfl, hr⟩ := hz
  obtain ⟨l0, rfl, hr0, hm0, hw0, hc0⟩ := ReadsInt.ofRowC hr
  exact ⟨a, l0, cap, rfl, hc0, Kd.C_of_reads (d := (0 : Int)) (h1 := fun _ => rfl) hr0⟩
/-- A deed, read. -/
theorem open_deed {H : Type} {enc : TypeId × Value → H} {w : World} {base fuel : Nat} {cs : List Value} {y : DataW H × List MemPlace} (h : DataW.trod enc Try.prog w base (fun _ => true) true fuel 43 cs = some y) : ∃ x : Leaf.S43, cs.length = 4 ∧ Leaf.k43.K w x cs := by
  obtain ⟨y0, y1, y2, y3, n, _, hl, g0, g1, g2, g3⟩   := Go.Joins.trod_struct4 Try.underlying43 h
  rw [cells43] at hl
  match cs, hl with
  | [v0, v1, v2, v3], _ =>
    simp [cells3, cells22] at g0 g1 g2 g3
    obtain ⟨n0, e0, _⟩ := DataW.trod_int Try.underlying3 g0
    obtain ⟨n1, e1, _⟩ := DataW.trod_int Try.underlying3 g1
    obtain ⟨n2, e2, _⟩ := DataW.trod_int Try.underlying3 g2
    obtain ⟨a, l, c, rfl, hc, hr⟩ := open_runes g3
    injection e0 with e0 _
    injection e1 with e1 _
    injection e2 with e2 _
    subst e0
    subst e1
    subst e2
    exact ⟨⟨n0, n1, n2, l⟩, rfl, Leaf.k43_mk w ⟨n0, n1, n2, l⟩ hc hr⟩
theorem add_addr (a : Addr) (i j : Nat) : (a.add i).add j = a.add (i + j) := Go.Deep.add_add a i j
/-- A slice of deeds, read. -/
theorem open_deeds {H : Type} {enc : TypeId × Value → H} {w : World} {base fuel : Nat} {cs : List Value} {y : DataW H × List MemPlace} (h : DataW.trod enc Try.prog w base (fun _ => true) true fuel 39 cs = some y) :
    ∃ (a : Option Addr) (ds : List Leaf.S43) (c : Nat), cs = [.slice a ds.length c] ∧ ds.length ≤ c ∧ Kd.C Leaf.k43 w a ds.length ds ∧ ds.length ≤ 9223372036854775807 := by
  rcases Go.Deep.open_slice Try.underlying39 h with ⟨rfl, _⟩ | ⟨ad, len, cap, m, n, D, Pl, rfl, hb, hl, hm, hmm, _, hx⟩
  · exact ⟨none, [], 0, rfl, Nat.le_refl _, Kd.C_nil _ _, by simp⟩
  · rw [if_pos rfl] at hmm
    subst hmm
    have each : ∀ i, i < m → ∃ q : Leaf.S43 × List Value, q.2.length = 4 ∧ Leaf.k43.K w q.1 q.2 ∧ ∀ j u, q.2[j]? = some u → w.cell? (ad.add (i * 4 + j)) = some u := by
      intro i hi
      obtain ⟨cs', h1, h2⟩ := hx i hi
      rw [cells43] at h1
      obtain ⟨x, hlen, hK⟩ := open_deed h2
      obtain ⟨_, _, hcell⟩ := World.cells?_some h1
      refine ⟨(x, cs'), hlen, hK, fun j u hu => ?_⟩
      have hj : j < 4 := by
        rcases Nat.lt_or_ge j 4 with h4 | h4
        · exact h4
        · rw [List.getElem?_eq_none (show cs'.length ≤ j by omega)] at hu; cases hu
      have := hcell j hj
      rw [add_addr] at this
      rw [this]
      exact hu
    haveI : Inhabited (Leaf.S43 × List Value) := ⟨(Leaf.z43, [])⟩
    obtain ⟨q, hq⟩ := Go.Deep.choose_lt each
    have hml : m ≤ 9223372036854775807 := by simpa [maxLen] using hm
    have hlen : ((List.range len).map fun i => (q i).1).length = len := by simp
    refine ⟨some ad, (List.range len).map fun i => (q i).1, m, by rw [hlen], by rw [hlen]; exact hl, ⟨rfl, by rw [hlen]; omega, fun _ => ⟨ad, rfl, fun j p hp => ?_⟩⟩, by rw [hlen]; omega⟩
    have hj : j < len := by
      rcases Nat.lt_or_ge j len with h4 | h4
      · exact h4
      · rw [List.getElem?_eq_none (by rw [hlen]; exact h4)] at hp; cases hp
    have hp' : (q j).1 = p := by simpa [hj] using hp
    subst hp'
    obtain ⟨h1, h2, h3⟩ := hq j (by omega)
    exact ⟨(q j).2, h1, h2, h3⟩
set_option maxRecDepth 100000 in
theorem lifted (os : Os) (started : os.Started) (H : Type) (enc : TypeId × Value → H) :
    ReturnsInHanded {} Try.checked os 4 .any (Rows.ropePlaysSpec.pre6 enc Try.prog Try.f4 Rows.ropePlaysRow.domain false) (Rows.ropePlaysSpec.post enc Try.prog Try.f4 false true false false) := by
  refine returnsInHanded_of_change_sized (C := Try.checked) own started (by kernel_rfl) Try.func4
    (ChangeSpec.witness6 (enc := enc) (C := Try.checked) false ⟨#[], #[.slice none 0 0, .slice none 0 0], []⟩ 8 (by kernel_rfl) (by kernel_rfl) (by kernel_rfl) (by kernel_rfl)) ?_
  intro W base args ds gs before hval0 hW hcnd hsz0 _
  have hval : ∀ (j : Nat) t v, Try.f4.params[j]? = some t → args[j]? = some v → Value.okWide Try.prog W .any base t v := hval0
  have hW' := hW
  obtain ⟨p, q, hA0, hV, rfl, hfz, hnd⟩ := hW
  have hA : DataW.TrodAll enc Try.prog W 0 (fun _ => true) true Try.f4.params.toList args.toList ds p := hA0
  rw [Try.params4] at hA hval
  obtain ⟨v0, vs0, d0, ds0, p0, q0, hargs, rfl, rfl, h0, r0⟩ := trodAll_cons hA
  obtain ⟨v1, vs1, d1, ds1, p1, q1, rfl, rfl, rfl, h1, r1⟩ := trodAll_cons r0
  obtain ⟨rfl, rfl, rfl⟩ := trodAll_nil r1
  obtain rfl : args = #[v0, v1] := by cases args; simp_all
  obtain ⟨rfl, rfl⟩ := trodVars_none hV
  obtain ⟨a0, len0, cap0, rfl⟩ := okWide_slice Try.underlying22 (hval 0 22 v0 rfl rfl)
  have k0 := h0
  have lt0 : ∀ x ∈ p0, x.block < W.heap.size := by obtain ⟨m, hm⟩ := k0; exact DataW.trod_lt m _ _ _ hm
  obtain ⟨fuel0, hf0⟩ := h0
  obtain ⟨a1, len1, cap1, rfl⟩ := okWide_slice Try.underlying39 (hval 1 39 v1 rfl rfl)
  have k1 := h1
  have lt1 : ∀ x ∈ p1, x.block < W.heap.size := by obtain ⟨m, hm⟩ := k1; exact DataW.trod_lt m _ _ _ hm
  obtain ⟨fuel1, hf1⟩ := h1
  obtain ⟨b0, l0, c0, e0, hc0, hr0⟩ := open_runes (v := .slice a0 len0 cap0) hf0
  injection e0 with e0 e1 e2
  subst e0
  subst e1
  subst e2
  obtain ⟨b1, l1, c1, e3, hc1, hr1, hn1⟩ := open_deeds (cs := [.slice a1 len1 cap1]) hf1
  injection e3 with e3 _
  injection e3 with e3 e4 e5
  subst e3
  subst e4
  subst e5
  clear hA0 hval0 hsz0
  refine (Rope.plays_calls l0 a0 cap0 l1 a1 cap1 W hr0 hc0 hr1 hc1 hn1).mono fun e W' ⟨he, bel⟩ => ?_
  subst he
  exact ⟨_, rfl, _, _, _, [], _, [], hW', trodAll_mk1 (shut_bool Try.underlying4 _), (trodAll_cons_mk (Below.trod laidOut (by kernel_rfl) (of_decide_eq_true (by kernel_rfl)) k0 bel lt0) (trodAll_cons_mk (Below.trod laidOut (by kernel_rfl) (of_decide_eq_true (by kernel_rfl)) k1 bel lt1) trodAll_mk0)), rfl, bel.frame _, fun h => by cases h⟩
theorem over : Rows.ropePlaysRow.holds Try.pinned (OpenSpec.ofChange Rows.ropePlaysSpec) :=
  OpenClaim.holds_of_wide 4 Try.f4 rfl rfl rfl rfl rfl rfl rfl ⟨rfl, rfl, rfl, rfl, rfl⟩ rfl rfl rfl rfl rfl (by kernel_rfl) Try.func4 (by kernel_rfl)
    (of_decide_eq_true (by kernel_rfl)) (by unfold Func.isWrapper; first | (rw [if_pos (by decide +kernel)]; kernel_rfl) | (rw [if_neg (by decide +kernel)]; exact ⟨rfl, rfl⟩))
    (fun os started H enc _ => lifted os started H enc)
theorem proved : Rows.RopePlaysSaid := over
#print axioms proved
end Go.Proofs.Ytepcdjkpmchobaa.ropePlays
namespace Go.Proofs.Ytepcdjkpmchobaa
/-- The row, under a short name, for the claim. -/
theorem ropePlays_holds : Rows.RopePlaysSaid := ropePlays.proved
end Go.Proofs.Ytepcdjkpmchobaa
