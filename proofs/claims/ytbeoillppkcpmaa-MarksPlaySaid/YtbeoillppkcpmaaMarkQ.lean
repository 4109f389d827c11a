/- What the law's own words come to (a deed, find, same), and what holds of the ranges between the deeds. -/
import Derived.Laws.Cover3
import Derived.Test.YtbeoillppkcpmaaMarkP
namespace Go.Proofs.Ytbeoillppkcpmaa.Mark
open Go.RowKit Go.Proofs.YtbeoillppkcpmaaW.PrintWords Go.Proofs.YtbeoillppkcpmaaW.PrintLast Go.Proofs.YtbeoillppkcpmaaW.PrintMore Go.Proofs.Ytbeoillppkcpmaa.PMarksPlay
set_option linter.unusedVariables false
set_option linter.unusedSimpArgs false
/-! ### The law's words: a deed, find, same -/
structure S35 where
  what : Int
  n : Int
  fr : Int
  up : Int
  lf : Bool
  rt : Bool
  at_ : Int
  del : Int
  ins : List Int
def z35 : S35 := ⟨0, 0, 0, 0, false, false, 0, 0, []⟩
def k35 : Kd S35 := Kd.iso (Kd.pair (Kd.int .i64) (Kd.pair (Kd.int .i64) (Kd.pair (Kd.int .i64) (Kd.pair (Kd.int .i64) (Kd.pair Kd.bool (Kd.pair Kd.bool (Kd.pair (Kd.int .i64) (Kd.pair (Kd.int .i64) (Kd.slice 21 (Kd.int .i32)))))))))) (fun x : S35 => (x.what, x.n, x.fr, x.up, x.lf, x.rt, x.at_, x.del, x.ins))
theorem k35_open {w : World} {x : S35} {cs : List Value} (h : k35.K w x cs) : ∃ A c, cs = [.int .i64 x.what, .int .i64 x.n, .int .i64 x.fr, .int .i64 x.up, .bool x.lf, .bool x.rt, .int .i64 x.at_, .int .i64 x.del, .slice A x.ins.length c] ∧ x.ins.length ≤ c ∧ (Kd.int .i32).C w A x.ins.length x.ins := by
  obtain ⟨_, _, rfl, rfl, ⟨_, _, rfl, rfl, ⟨_, _, rfl, rfl, ⟨_, _, rfl, rfl, ⟨_, _, rfl, rfl, ⟨_, _, rfl, rfl, ⟨_, _, rfl, rfl, ⟨_, _, rfl, rfl, ⟨A, c, rfl, l3, g3⟩⟩⟩⟩⟩⟩⟩⟩⟩ := h
  exact ⟨A, c, rfl, l3, g3⟩
theorem k35_mk (w : World) (x : S35) {A : Option Addr} {c : Nat} (l3 : x.ins.length ≤ c) (g3 : (Kd.int .i32).C w A x.ins.length x.ins) : k35.K w x [.int .i64 x.what, .int .i64 x.n, .int .i64 x.fr, .int .i64 x.up, .bool x.lf, .bool x.rt, .int .i64 x.at_, .int .i64 x.del, .slice A x.ins.length c] :=
  ⟨[.int .i64 x.what], _, rfl, rfl, ⟨[.int .i64 x.n], _, rfl, rfl, ⟨[.int .i64 x.fr], _, rfl, rfl, ⟨[.int .i64 x.up], _, rfl, rfl, ⟨[.bool x.lf], _, rfl, rfl, ⟨[.bool x.rt], _, rfl, rfl, ⟨[.int .i64 x.at_], _, rfl, rfl, ⟨[.int .i64 x.del], [.slice A x.ins.length c], rfl, rfl, ⟨A, c, rfl, l3, g3⟩⟩⟩⟩⟩⟩⟩⟩⟩
def rd_T35 (xs : List S35) (i : Int) : S35 := xs.getD i.toNat z35
theorem at_T35 {w : World} {A : Option Addr} {n : Nat} {xs : List S35} (h : Kd.C k35 w A n xs) (i : Int) (h0 : 0 ≤ i) (h1 : i < n) : ∃ ad A3 c3, A = some ad ∧ w.cell? (ad.add (i.toNat * 9)) = some (.int .i64 (rd_T35 xs i).what) ∧ w.cell? ⟨(ad.add (i.toNat * 9)).block, (ad.add (i.toNat * 9)).off + 1, none⟩ = some (.int .i64 (rd_T35 xs i).n) ∧ w.cell? ⟨(ad.add (i.toNat * 9)).block, (ad.add (i.toNat * 9)).off + 2, none⟩ = some (.int .i64 (rd_T35 xs i).fr) ∧ w.cell? ⟨(ad.add (i.toNat * 9)).block, (ad.add (i.toNat * 9)).off + 3, none⟩ = some (.int .i64 (rd_T35 xs i).up) ∧
    w.cell? ⟨(ad.add (i.toNat * 9)).block, (ad.add (i.toNat * 9)).off + 4, none⟩ = some (.bool (rd_T35 xs i).lf) ∧ w.cell? ⟨(ad.add (i.toNat * 9)).block, (ad.add (i.toNat * 9)).off + 5, none⟩ = some (.bool (rd_T35 xs i).rt) ∧ w.cell? ⟨(ad.add (i.toNat * 9)).block, (ad.add (i.toNat * 9)).off + 6, none⟩ = some (.int .i64 (rd_T35 xs i).at_) ∧ w.cell? ⟨(ad.add (i.toNat * 9)).block, (ad.add (i.toNat * 9)).off + 7, none⟩ = some (.int .i64 (rd_T35 xs i).del) ∧
    w.cell? ⟨(ad.add (i.toNat * 9)).block, (ad.add (i.toNat * 9)).off + 8, none⟩ = some (.slice A3 (rd_T35 xs i).ins.length c3) ∧ (rd_T35 xs i).ins.length ≤ c3 ∧ (Kd.int .i32).C w A3 (rd_T35 xs i).ins.length (rd_T35 xs i).ins := by
  obtain ⟨ad, c, e, _, hK, hc0⟩ := Kd.C_get h z35 i h0 h1
  have hc : ∀ j u, c[j]? = some u → w.cell? (ad.add (i.toNat * 9 + j)) = some u := hc0
  obtain ⟨A3, c3, rfl, l3, g3⟩ := k35_open hK
  exact ⟨ad, A3, c3, e, hc 0 _ rfl, by rw [← add_field _ _ 1 (by omega)]; exact hc 1 _ rfl, by rw [← add_field _ _ 2 (by omega)]; exact hc 2 _ rfl, by rw [← add_field _ _ 3 (by omega)]; exact hc 3 _ rfl, by rw [← add_field _ _ 4 (by omega)]; exact hc 4 _ rfl, by rw [← add_field _ _ 5 (by omega)]; exact hc 5 _ rfl, by rw [← add_field _ _ 6 (by omega)]; exact hc 6 _ rfl, by rw [← add_field _ _ 7 (by omega)]; exact hc 7 _ rfl, by rw [← add_field _ _ 8 (by omega)]; exact hc 8 _ rfl, l3, g3⟩
/-! ### Low is there, and is one -/
theorem low_one {ms : List S64} {n : Int} {i j : Nat} (h1 : Low ms n i) (h2 : Low ms n j) : i = j := by
  rcases Nat.lt_trichotomy i j with h | h | h
  · have a := h2.2.1 i h
    have b := h1.2.2 i (Nat.le_refl _) (Nat.lt_of_lt_of_le h h2.1)
    omega
  · exact h
  · have a := h1.2.1 j h
    have b := h2.2.2 j (Nat.le_refl _) (Nat.lt_of_lt_of_le h h1.1)
    omega
theorem low_is (ms : List S64) (n : Int) (hs : Rising ms) : ∃ i, Low ms n i := by
  have key : ∀ j, j ≤ ms.length → ∃ i, i ≤ j ∧ (∀ k, k < i → idAt ms k < n) ∧ (∀ k, i ≤ k → k < j → n ≤ idAt ms k) := by
    intro j
    induction j with
    | zero => intro _; exact ⟨0, Nat.le_refl _, fun k hk => by omega, fun k _ h => by omega⟩
    | succ j ih =>
      intro hj
      obtain ⟨i, h1, h2, h3⟩ := ih (by omega)
      rcases Nat.lt_or_ge i j with h | h
      · refine ⟨i, by omega, h2, fun k ha hb => ?_⟩
        rcases Nat.lt_or_ge k j with hk | hk
        · exact h3 k ha hk
        · obtain rfl : k = j := by omega
          have := hs i k h (by omega)
          have := h3 i (Nat.le_refl _) h
          omega
      · obtain rfl : i = j := by omega
        by_cases hn : idAt ms i < n
        · refine ⟨i + 1, Nat.le_refl _, fun k hk => ?_, fun k ha hb => by omega⟩
          rcases Nat.lt_or_ge k i with h4 | h4
          · exact h2 k h4
          · obtain rfl : k = i := by omega
            exact hn
        · refine ⟨i, by omega, h2, fun k ha hb => ?_⟩
          obtain rfl : k = i := by omega
          omega
  exact key ms.length (Nat.le_refl _)
/-- Where the document's find is. -/
def atF (ms : List S64) (n : Int) (i : Nat) : Int := if hit ms i n = true then (i : Int) else -1
theorem idAt_toR (ms : List S64) (j : Nat) (hj : j < ms.length) : (rd_T42 (ms.map toR) (j : Int)).f4 = idAt ms j := by rw [rd_map ms j hj]; rfl
theorem find_loop (ms : List S64) (n : Int) (i : Nat) (hlow : Low ms n i) (hs : Rising ms) (hl : ms.length ≤ 100000) : ∀ m j, m + j = ms.length → (∀ q, q < j → idAt ms q ≠ n) → ∃ k, styluslaw04_find.l0 k (ms.map toR) n (j : Int) = some (atF ms n i) := by
  intro m
  induction m with
  | zero =>
    intro j hj hne
    obtain rfl : j = ms.length := by omega
    refine ⟨1, ?_⟩
    rw [styluslaw04_find.l0, if_neg (by rw [List.length_map]; omega)]
    have : hit ms i n = false := decide_eq_false (fun h => hne i h.1 h.2)
    unfold atF
    rw [this]
    rfl
  | succ m ih =>
    intro j hj hne
    have hlt : j < ms.length := by omega
    by_cases hn : idAt ms j = n
    · refine ⟨1, ?_⟩
      rw [styluslaw04_find.l0, if_pos (by rw [List.length_map]; omega), if_pos (by omega), if_pos (by rw [idAt_toR ms j hlt]; exact hn)]
      have hij : i = j := by
        rcases Nat.lt_trichotomy i j with h | h | h
        · have a := hlow.2.2 i (Nat.le_refl _) (by omega)
          have b := hs i j h hlt
          have c := hne i h
          omega
        · exact h
        · have := hlow.2.1 j h
          omega
      subst hij
      have : hit ms i n = true := decide_eq_true ⟨hlt, hn⟩
      unfold atF
      rw [if_pos this]
    · obtain ⟨k, hk⟩ := ih (j + 1) (by omega) (fun q hq => by
        rcases Nat.lt_or_ge q j with h | h
        · exact hne q h
        · obtain rfl : q = j := by omega
          exact hn)
      refine ⟨k + 1, ?_⟩
      rw [styluslaw04_find.l0, if_pos (by rw [List.length_map]; omega), if_pos (by omega), if_neg (by rw [idAt_toR ms j hlt]; exact hn), show wrap64 ((j : Int) + 1) = ((j + 1 : Nat) : Int) by unfold wrap64; omega]
      exact hk
/-- find, called. -/
theorem lfind_calls (ms : List S64) (n : Int) (i : Nat) (hlow : Low ms n i) (hs : Rising ms) (hl : ms.length ≤ 100000) (A : Option Addr) (c : Nat) (W : World) (hr : Kd.C k42 W A ms.length (ms.map toR)) (hc : ms.length ≤ c) :
    Calls Try.prog 6 #[.slice A ms.length c, .int .i64 n] W fun e w' => e = .returned (.int .i64 (atF ms n i)) ∧ Below W.heap.size W w' := by
  obtain ⟨k, hk⟩ := find_loop ms n i hlow hs hl ms.length 0 (by omega) (fun q hq => by omega)
  have h := styluslaw04_find.calls k A c (ms.map toR) n _ W (by rw [List.length_map]; exact hr) (by rw [List.length_map]; exact hc) hk
  rw [List.length_map] at h
  exact h.mono fun e w' hh => ⟨hh.1, hh.2.below⟩
theorem same_loop (l : List Int) (hl : l.length ≤ 100000) : ∀ m j, m + j = l.length → ∃ k, styluslaw04_same.l0 k l l (j : Int) = some true := by
  intro m
  induction m with
  | zero =>
    intro j hj
    refine ⟨1, ?_⟩
    rw [styluslaw04_same.l0, if_neg (by omega)]
  | succ m ih =>
    intro j hj
    obtain ⟨k, hk⟩ := ih (j + 1) (by omega)
    refine ⟨k + 1, ?_⟩
    rw [styluslaw04_same.l0, if_pos (by omega), if_pos (by omega), if_pos (by omega), if_pos rfl, show wrap64 ((j : Int) + 1) = ((j + 1 : Nat) : Int) by unfold wrap64; omega]
    exact hk
/-- same of one list and itself, called. -/
theorem lsame_calls (l : List Int) (hl : l.length ≤ 100000) (A B : Option Addr) (c d : Nat) (W : World) (hr : Kd.C (Kd.int .i64) W A l.length l) (hc : l.length ≤ c) (hr2 : Kd.C (Kd.int .i64) W B l.length l) (hd : l.length ≤ d) :
    Calls Try.prog 17 #[.slice A l.length c, .slice B l.length d] W fun e w' => e = .returned (.bool true) ∧ Below W.heap.size W w' := by
  obtain ⟨k, hk⟩ := same_loop l hl l.length 0 (by omega)
  exact (styluslaw04_same.calls k A c l B d l true W hr hc hr2 hd (by unfold styluslaw04_same.f; rw [if_pos rfl]; exact hk)).mono fun e w' hh => ⟨hh.1, hh.2.below⟩
/-! ### The document's row -/
abbrev Ro (W : World) (base : Nat) (v : Value) (ms : List S64) : Prop := Kd.R k42 42 W base (fun _ => True) v (ms.map toR)
theorem row_mv {base g : Nat} {v v' v4 : Value} {ms ns : List S64} {last : Int} {W W' : World} (h : Ro W base v4 ns) (hm : MarksAt base W g v ms last) (m : Mv base g v v' W W') : Ro W' base v4 ns := by
  have h2 := Kd.R_tight rfl h
  refine Kd.R_mono (Kd.R_step h2 fun k hk hlt => ?_) (fun _ _ => trivial)
  obtain ⟨cells, hc⟩ := Kd.R_typed h k hk.symm
  obtain ⟨n1, n2⟩ := hm.apart hc (by decide) (by decide)
  exact m.keep.2 k hlt n1 n2
theorem Ro.open_ {W : World} {base : Nat} {v : Value} {ms : List S64} (h : Ro W base v ms) : ∃ A c, v = .slice A ms.length c ∧ ms.length ≤ c ∧ Kd.C k42 W A ms.length (ms.map toR) := by
  obtain ⟨A, c, e, hc, hr⟩ := Kd.R_reads h
  rw [List.length_map] at e hc hr
  exact ⟨A, c, e, hc, hr⟩
/-- What holds of the marks' ranges between the deeds. -/
structure Good (ms : List S64) (last : Int) (i : Nat) : Prop where
  rise : Rising ms
  ids : ∀ k, k < ms.length → 1 ≤ idAt ms k ∧ idAt ms k ≤ last
  may : ms.all mayX = true
  few : ms.length ≤ 60
  low : 0 ≤ last
  high : last ≤ (i : Int)
theorem Good.nil : Good [] 0 0 := ⟨fun a b _ h => by simp at h, fun k h => by simp at h, rfl, by simp, Int.le_refl _, Int.le_refl _⟩
theorem Good.next {ms : List S64} {last : Int} {i : Nat} (h : Good ms last i) : Good ms last (i + 1) := ⟨h.rise, h.ids, h.may, h.few, h.low, by have := h.high; omega⟩
theorem getD_append_left (ms : List S64) (x : S64) (k : Nat) (h : k < ms.length) : idAt (ms ++ [x]) k = idAt ms k := by
  unfold idAt
  rw [List.getD_eq_getElem?_getD, List.getD_eq_getElem?_getD, List.getElem?_append_left h]
theorem getD_append_last (ms : List S64) (x : S64) : idAt (ms ++ [x]) ms.length = x.f1 := by
  unfold idAt
  rw [List.getD_eq_getElem?_getD, List.getElem?_append_right (Nat.le_refl _), Nat.sub_self]
  rfl
theorem Good.add {ms : List S64} {last : Int} {i : Nat} (h : Good ms last i) (x : S64) (hx : mayX x = true) (hid : x.f1 = last + 1) (hl : ms.length < 60) : Good (ms ++ [x]) (last + 1) (i + 1) := by
  refine ⟨fun a b hab hb => ?_, fun k hk => ?_, ?_, ?_, by have := h.low; omega, by have := h.high; omega⟩
  · rw [List.length_append, List.length_singleton] at hb
    rw [getD_append_left ms x a (by omega)]
    rcases Nat.lt_or_ge b ms.length with h1 | h1
    · rw [getD_append_left ms x b h1]
      exact h.rise a b hab h1
    · obtain rfl : b = ms.length := by omega
      rw [getD_append_last, hid]
      have := (h.ids a hab).2
      omega
  · rw [List.length_append, List.length_singleton] at hk
    rcases Nat.lt_or_ge k ms.length with h1 | h1
    · rw [getD_append_left ms x k h1]
      have := h.ids k h1
      omega
    · obtain rfl : k = ms.length := by omega
      rw [getD_append_last, hid]
      have := h.low
      omega
  · rw [List.all_append, h.may]
    simp [hx]
  · rw [List.length_append, List.length_singleton]
    omega
theorem idAt_erase (ms : List S64) (i k : Nat) : idAt (ms.eraseIdx i) k = if k < i then idAt ms k else idAt ms (k + 1) := by
  unfold idAt
  rw [List.getD_eq_getElem?_getD, List.getElem?_eraseIdx]
  split
  · rw [List.getD_eq_getElem?_getD]
  · rw [List.getD_eq_getElem?_getD]
theorem Good.cut {ms : List S64} {last : Int} {i : Nat} (h : Good ms last i) (j : Nat) (hj : j < ms.length) : Good (ms.eraseIdx j) last (i + 1) := by
  have hlen : (ms.eraseIdx j).length = ms.length - 1 := List.length_eraseIdx_of_lt hj
  refine ⟨fun a b hab hb => ?_, fun k hk => ?_, ?_, by have := h.few; omega, h.low, by have := h.high; omega⟩
  · rw [idAt_erase, idAt_erase]
    split <;> split
    · exact h.rise a b hab (by omega)
    · exact h.rise a (b + 1) (by omega) (by omega)
    · omega
    · exact h.rise (a + 1) (b + 1) (by omega) (by omega)
  · rw [idAt_erase]
    split
    · exact h.ids k (by omega)
    · exact h.ids (k + 1) (by omega)
  · refine List.all_eq_true.2 fun x hx => List.all_eq_true.1 h.may x ?_
    exact List.mem_of_mem_eraseIdx hx
theorem idAt_map (f : S64 → S64) (hf : ∀ x, (f x).f1 = x.f1) (ms : List S64) (k : Nat) (hk : k < ms.length) : idAt (ms.map f) k = idAt ms k := by
  unfold idAt
  simp [List.getD_eq_getElem?_getD, List.getElem?_eq_getElem hk, hf]
theorem Good.moved {ms : List S64} {last : Int} {i : Nat} (h : Good ms last i) (f : S64 → S64) (hf : ∀ x, (f x).f1 = x.f1) (hm : (ms.map f).all mayX = true) : Good (ms.map f) last (i + 1) := by
  refine ⟨fun a b hab hb => ?_, fun k hk => ?_, hm, by rw [List.length_map]; exact h.few, h.low, by have := h.high; omega⟩
  · rw [List.length_map] at hb
    rw [idAt_map f hf ms a (by omega), idAt_map f hf ms b hb]
    exact h.rise a b hab hb
  · rw [List.length_map] at hk
    rw [idAt_map f hf ms k hk]
    exact h.ids k hk
end Go.Proofs.Ytbeoillppkcpmaa.Mark
