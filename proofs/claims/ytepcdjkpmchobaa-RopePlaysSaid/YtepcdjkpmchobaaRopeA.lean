/- What a rope's memory holds (an arena of nodes and a root), and what of it lasts when other memory is written. -/
import Derived.Test.YtepcdjkpmchobaaLeafA
namespace Go.Proofs.Ytepcdjkpmchobaa.Rope
open Go.RowKit Go.Proofs.YtepcdjkpmchobaaW.PrintWords Go.Proofs.YtepcdjkpmchobaaW.PrintLast Go.Proofs.YtepcdjkpmchobaaW.PrintMore
set_option linter.unusedVariables false
set_option linter.unusedSimpArgs false

/-! ### The arena's nodes -/
structure Node where
  rn : Int
  ln : Int
  bn : Int
  lf : Int
  rt : Int
  tx : List Int
def zn : Node := ⟨0, 0, 0, 0, 0, []⟩

/-- Runes that lie whole in a block of runes. -/
def TextAt (W : World) (A : Option Addr) (t : List Int) : Prop :=
  t = [] ∨ ∃ g cur, A = some ⟨g, 0, none⟩ ∧ W.heap[g]? = some (.cells cur 21 (0, 0)) ∧ cur.toList.take t.length = nums .i32 t

def NodeAt (W : World) (x : Node) (cs : List Value) : Prop :=
  ∃ A c, cs = [.int .i64 x.rn, .int .i64 x.ln, .int .i64 x.bn, .int .i64 x.lf, .int .i64 x.rt, .slice A x.tx.length c] ∧ x.tx.length ≤ c ∧ TextAt W A x.tx ∧ (x.lf ≠ -1 → A = none ∧ x.tx = [] ∧ c = 0)

/-- A rope's state: the block g, the arena's slice v, its nodes, the root. -/
def RopeAt (base : Nat) (W : World) (g : Nat) (v : Value) (ns : List Node) (root : Int) : Prop :=
  W.heap[g]? = some (.cells #[v, .int .i64 root] 55 (0, 0)) ∧ base ≤ g ∧ OwnRow (NodeAt W) 67 6 W base v ns

/-- What a call that writes the rope leaves: all but the block g and the arena's row is as it was. -/
structure Mv (base g : Nat) (v v' : Value) (W W' : World) : Prop where
  below : Below base W W'
  keep : KeepBut W W' g v.ownBlock
  mv : ∀ k, v'.ownBlock = some k → v.ownBlock = some k ∨ W.heap.size ≤ k

theorem Mv.refl (base g : Nat) (v : Value) (W : World) : Mv base g v v W W := ⟨Below.refl _ _, KeepBut.refl _ _ _, fun _ hk => .inl hk⟩
theorem Mv.trans {base g : Nat} {v v1 v2 : Value} {W W1 W2 : World} (h : Mv base g v v1 W W1) (k : Mv base g v1 v2 W1 W2) : Mv base g v v2 W W2 := by
  refine ⟨h.below.trans k.below, ⟨Nat.le_trans h.keep.1 k.keep.1, fun i hi hg hr => (k.keep.2 i (Nat.lt_of_lt_of_le hi h.keep.1) hg fun he => ?_).trans (h.keep.2 i hi hg hr)⟩, fun i hi => ?_⟩
  · rcases h.mv i he.symm with hm | hm
    · exact hr hm.symm
    · omega
  · rcases k.mv i hi with hm | hm
    · exact h.mv i hm
    · exact .inr (Nat.le_trans h.keep.1 hm)
theorem below_lower {b b' : Nat} {w w1 : World} (h : Below b w w1) (hb : b' ≤ b) : Below b' w w1 := ⟨h.os, h.tape, h.output, h.size, fun i hi => h.block i (Nat.lt_of_lt_of_le hi hb)⟩
theorem Mv.of_below {base g : Nat} {v : Value} {W W' : World} (h : Below W.heap.size W W') (hb : base ≤ W.heap.size) : Mv base g v v W W' :=
  ⟨below_lower h hb, KeepBut.of_below h _ _, fun _ hk => .inl hk⟩

theorem TextAt.blk {W W' : World} {A : Option Addr} {t : List Int} (h : TextAt W A t) (hk : ∀ (k : Nat) (cur : Array Value), W.heap[k]? = some (.cells cur 21 (0, 0)) → W'.heap[k]? = some (.cells cur 21 (0, 0))) : TextAt W' A t := by
  rcases h with h | ⟨g, cur, hA, hg, ht⟩
  · exact .inl h
  · exact .inr ⟨g, cur, hA, hk g cur hg, ht⟩
theorem TextAt.below {W W' : World} {A : Option Addr} {t : List Int} (h : TextAt W A t) (hb : Below W.heap.size W W') : TextAt W' A t := h.blk fun _ _ hk => blk_below hk hb
theorem NodeAt.blk {W W' : World} {x : Node} {cs : List Value} (h : NodeAt W x cs) (hk : ∀ (k : Nat) (cur : Array Value), W.heap[k]? = some (.cells cur 21 (0, 0)) → W'.heap[k]? = some (.cells cur 21 (0, 0))) : NodeAt W' x cs := by
  obtain ⟨A, c, e, hc, ht, hn⟩ := h
  exact ⟨A, c, e, hc, ht.blk hk, hn⟩

theorem RopeAt.lt {base : Nat} {W : World} {g : Nat} {v : Value} {ns : List Node} {root : Int} (h : RopeAt base W g v ns root) : g < W.heap.size := blk_lt h.1
theorem RopeAt.row {base : Nat} {W : World} {g : Nat} {v : Value} {ns : List Node} {root : Int} (h : RopeAt base W g v ns root) (k : Nat) (hk : v.ownBlock = some k) : base ≤ k ∧ k < W.heap.size ∧ k ≠ g ∧ ∃ cells, W.heap[k]? = some (.cells cells 67 (0, 0)) := by
  obtain ⟨hg, hb, inner, ho, hr⟩ := h
  obtain ⟨cells, hc⟩ := own_typed ho k hk
  exact ⟨own_base ho k hk, own_lt ho k hk, blk_ne hc hg (by decide), cells, hc⟩
/-- A block of another type is none of the rope's. -/
theorem RopeAt.apart {base : Nat} {W : World} {g : Nat} {v : Value} {ns : List Node} {root : Int} (h : RopeAt base W g v ns root) {k : Nat} {cur : Array Value} {t : TypeId} (hk : W.heap[k]? = some (.cells cur t (0, 0))) (h1 : t ≠ 55) (h2 : t ≠ 67) : k ≠ g ∧ some k ≠ v.ownBlock := by
  refine ⟨blk_ne hk h.1 h1, fun he => ?_⟩
  obtain ⟨_, _, _, cells, hc⟩ := h.row k he.symm
  rw [hk] at hc
  injection hc with hc
  injection hc with _ hc
  exact h2 hc
theorem Mv.blk {base g : Nat} {v v' : Value} {W W' : World} {ns : List Node} {root : Int} (m : Mv base g v v' W W') (h : RopeAt base W g v ns root) {k : Nat} {cur : Array Value} {t : TypeId} (hk : W.heap[k]? = some (.cells cur t (0, 0))) (h1 : t ≠ 55) (h2 : t ≠ 67) : W'.heap[k]? = some (.cells cur t (0, 0)) :=
  m.keep.blk hk (h.apart hk h1 h2).1 (h.apart hk h1 h2).2
theorem RopeAt.below {base : Nat} {W W' : World} {g : Nat} {v : Value} {ns : List Node} {root : Int} (h : RopeAt base W g v ns root) (hb : Below W.heap.size W W') : RopeAt base W' g v ns root :=
  ⟨blk_below h.1 hb, h.2.1, (h.2.2.below hb).imp_ fun _ _ hp => hp.blk fun _ _ hk => blk_below hk hb⟩
theorem RopeAt.alloc {base : Nat} {W : World} {g : Nat} {v : Value} {ns : List Node} {root : Int} (h : RopeAt base W g v ns root) (o : Obj) : RopeAt base (W.alloc o) g v ns root := h.below (below_alloc (Below.refl _ _) o)
theorem RopeAt.drew {base : Nat} {W : World} {g : Nat} {v : Value} {ns : List Node} {root : Int} (h : RopeAt base W g v ns root) : RopeAt base W.drew g v ns root := h
theorem RopeAt.drewN {base : Nat} {W : World} {g : Nat} {v : Value} {ns : List Node} {root : Int} (h : RopeAt base W g v ns root) (n : Nat) : RopeAt base (W.drewN n) g v ns root := h
/-- The state's cells, and the row's form. -/
theorem RopeAt.open_ {base : Nat} {W : World} {g : Nat} {v : Value} {ns : List Node} {root : Int} (h : RopeAt base W g v ns root) : ∃ A c, v = .slice A ns.length c ∧ ns.length ≤ c ∧ W.cell? ⟨g, 0, none⟩ = some (.slice A ns.length c) ∧ W.cell? ⟨g, 1, none⟩ = some (.int .i64 root) ∧ W.frozen? ⟨g, 0, none⟩ = false ∧ W.frozen? ⟨g, 1, none⟩ = false ∧ ReadsRow (NodeAt W) 6 W A ns.length ns := by
  obtain ⟨A, c, rfl, hc, hr⟩ := h.2.2.reads
  exact ⟨A, c, rfl, hc, (blk_cell h.1 0).trans rfl, (blk_cell h.1 1).trans rfl, blk_frozen h.1 0, blk_frozen h.1 1, hr⟩

def nd (ns : List Node) (i : Int) : Node := ns.getD i.toNat zn
/-- A node's cells. -/
theorem at_node {w : World} {A : Option Addr} {n : Nat} {ns : List Node} (h : ReadsRow (NodeAt w) 6 w A n ns) (i : Int) (h0 : 0 ≤ i) (h1 : i < n) :
    ∃ ad A5 c5, A = some ad ∧ w.cell? (ad.add (i.toNat * 6)) = some (.int .i64 (nd ns i).rn) ∧ w.cell? ⟨(ad.add (i.toNat * 6)).block, (ad.add (i.toNat * 6)).off + 1, none⟩ = some (.int .i64 (nd ns i).ln) ∧ w.cell? ⟨(ad.add (i.toNat * 6)).block, (ad.add (i.toNat * 6)).off + 2, none⟩ = some (.int .i64 (nd ns i).bn) ∧ w.cell? ⟨(ad.add (i.toNat * 6)).block, (ad.add (i.toNat * 6)).off + 3, none⟩ = some (.int .i64 (nd ns i).lf) ∧ w.cell? ⟨(ad.add (i.toNat * 6)).block, (ad.add (i.toNat * 6)).off + 4, none⟩ = some (.int .i64 (nd ns i).rt) ∧ w.cell? ⟨(ad.add (i.toNat * 6)).block, (ad.add (i.toNat * 6)).off + 5, none⟩ = some (.slice A5 (nd ns i).tx.length c5) ∧ (nd ns i).tx.length ≤ c5 ∧ TextAt w A5 (nd ns i).tx ∧ ((nd ns i).lf ≠ -1 → A5 = none ∧ (nd ns i).tx = [] ∧ c5 = 0) := by
  obtain ⟨ad, c, e, _, hK, hc0⟩ := ReadsRow.get_ h zn i h0 h1
  have hc : ∀ j u, c[j]? = some u → w.cell? (ad.add (i.toNat * 6 + j)) = some u := hc0
  obtain ⟨A5, c5, rfl, l5, t5, n5⟩ := hK
  exact ⟨ad, A5, c5, e, hc 0 _ rfl, by rw [← add_field _ _ 1 (by omega)]; exact hc 1 _ rfl, by rw [← add_field _ _ 2 (by omega)]; exact hc 2 _ rfl, by rw [← add_field _ _ 3 (by omega)]; exact hc 3 _ rfl, by rw [← add_field _ _ 4 (by omega)]; exact hc 4 _ rfl, by rw [← add_field _ _ 5 (by omega)]; exact hc 5 _ rfl, l5, t5, n5⟩
end Go.Proofs.Ytepcdjkpmchobaa.Rope
