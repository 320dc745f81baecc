/- Words of my own for regions of open order: slots read and written, a world that one operation turns, facts carried over calls. No program in sight. -/
import Derived.Test.YtkgafogkeaaniaaDvAzm
import Derived.Test.YtkgafogkeaaniaaWInvWordszm
set_option linter.unusedVariables false
namespace Go.Proofs.Ytkgafogkeaaniaa.Kit4
open Go.RowKit Go.Proofs.Ytkgafogkeaaniaa.Kit
open Go.Proofs.YtkgafogkeaaniaaW.PrintLast
section
variable {b : Nat → Bool} {i : Nat} {t : Tmp} {v : Value} {a a0 : Act} {L : List (Nat × Tmp × Value)}
theorem pon (ha : a = putSel a0 b L) (k : Nat) (hb : b i = true) (hL : L[k]? = some (i, t, v)) (hd : ((L.drop (k + 1)).all fun x => !(x.2.1 == t)) = true) (ht : Nat.ble (t + 1) a0.tmps.size = true) : a.tmps[t]? = some v := by
  rw [ha]; exact putSel_on (e := (i, t, v)) k hL hd hb ht
theorem poff (ha : a = putSel a0 b L) (hd : (L.all fun e => !(e.2.1 == t)) = true) (h : a0.tmps[t]? = some v) : a.tmps[t]? = some v := by
  rw [ha]; exact (putSel_off hd).trans h
theorem upk (ha : a = putSel a0 b L) (k : Nat) (hb : b i = false) (hL : L[k]? = some (i, t, v)) (hd : ((L.take k ++ L.drop (k + 1)).all fun e => !(e.1 == i) && !(e.2.1 == t)) = true) : a.put (some t) v = putSel a0 (up b i) L := by
  rw [ha]
  refine putSel_upk k hb hL ?_ hd
  obtain ⟨hk, he⟩ := List.getElem?_eq_some_iff.1 hL
  rw [← he]; exact List.set_getElem_self hk
theorem ups (ha : a = putSel a0 b L) (hd : (L.all fun e => !(e.1 == i)) = true) : a = putSel a0 (up b i) L := by
  rw [ha]; exact (putSel_same hd).symm
end
/-- The world stands until operation j is done; then P holds of it. -/
structure One (W : World) (P : World → Prop) (j : Nat) (b : Nat → Bool) (w' : World) : Prop where
  n : b j = false → w' = W
  y : b j = true → P w'
theorem One.start {W : World} {P : World → Prop} {j : Nat} : One W P j (fun _ => false) W := ⟨fun _ => rfl, fun h => (by cases h)⟩
theorem One.low {W w' : World} {P : World → Prop} {j i : Nat} {b : Nat → Bool} (h : One W P j b w') (hi : j ≠ i) : One W P j (up b i) w' := by
  constructor
  · rw [up_ne hi]; exact h.n
  · rw [up_ne hi]; exact h.y
theorem One.set {W w' : World} {P : World → Prop} {j : Nat} {b : Nat → Bool} (h : P w') : One W P j (up b j) w' :=
  ⟨fun e => (by rw [up_self] at e; cases e), fun _ => h⟩
/-! ### two boxes made and filled -/
open Go.Proofs.YtkgafogkeaaniaaW.PrintWords (setCells_row setCells_far run_store_run)
def Own (W w : World) (T n p : Nat) : Prop := W.heap.size ≤ p ∧ ∃ cs : Array Value, cs.size = n ∧ w.heap[p]? = some (.cells cs T (0, 0))
def Val (w : World) (T p : Nat) (c : List Value) : Prop := ∃ cs : Array Value, cs.toList = c ∧ w.heap[p]? = some (.cells cs T (0, 0))
theorem Own.lt {W w : World} {T n p : Nat} (h : Own W w T n p) : p < w.heap.size := by
  obtain ⟨_, _, _, h⟩ := h
  exact (Array.getElem?_eq_some_iff.1 h).1
theorem Own.below {W w w' : World} {T n p : Nat} (h : Own W w T n p) (hb : Below w.heap.size w w') : Own W w' T n p := by
  have hl := h.lt
  obtain ⟨h0, cs, h1, h⟩ := h
  exact ⟨h0, cs, h1, (hb.block p hl).trans h⟩
theorem Val.lt {w : World} {T p : Nat} {c : List Value} (h : Val w T p c) : p < w.heap.size := by
  obtain ⟨_, _, h⟩ := h
  exact (Array.getElem?_eq_some_iff.1 h).1
theorem Val.move {w w' : World} {T p : Nat} {c : List Value} (h : Val w T p c) (he : w'.heap[p]? = w.heap[p]?) : Val w' T p c := by
  obtain ⟨cs, h1, h2⟩ := h
  exact ⟨cs, h1, he.trans h2⟩
theorem Val.below {w w' : World} {T p : Nat} {c : List Value} (h : Val w T p c) (hb : Below w.heap.size w w') : Val w' T p c := h.move (hb.block p h.lt)
theorem Val.cell {w : World} {T p : Nat} {c : List Value} (h : Val w T p c) (r : Nat) (v : Value) (hr : c[r]? = some v) : w.cell? ⟨p, r, none⟩ = some v := by
  obtain ⟨cs, rfl, h2⟩ := h
  rw [cell_of_row w p r cs T (0, 0) h2]
  simpa using hr
structure TB (W : World) (T n p q : Nat) (c d : List Value) (ia ib sa sb : Nat) (b : Nat → Bool) (w' : World) : Prop where
  bel : Below W.heap.size W w'
  o1 : b ia = true → Own W w' T n p
  o2 : b ib = true → Own W w' T n q
  ne : b ia = true → b ib = true → p ≠ q
  d1 : b sa = true → b ia = true
  d2 : b sb = true → b ib = true
  v1 : b sa = true → Val w' T p c
  v2 : b sb = true → Val w' T q d
section
variable {W w w' : World} {T n p q : Nat} {c d : List Value} {ia ib sa sb : Nat} {b : Nat → Bool}
theorem TB.start : TB W T n p q c d ia ib sa sb (fun _ => false) W := ⟨Below.refl _ _, fun h => (by cases h), fun h => (by cases h), fun h => (by cases h), fun h => (by cases h), fun h => (by cases h), fun h => (by cases h), fun h => (by cases h)⟩
theorem TB.low (h : TB W T n p q c d ia ib sa sb b w) (hb : Below w.heap.size w w') (i : Nat) (hi : (ia != i && ib != i && sa != i && sb != i) = true) : TB W T n p q c d ia ib sa sb (up b i) w' := by
  simp only [Bool.and_eq_true, bne_iff_ne, ne_eq] at hi
  obtain ⟨⟨⟨h0, h1⟩, h2⟩, h3⟩ := hi
  have e0 := up_ne (b := b) h0
  have e1 := up_ne (b := b) h1
  have e2 := up_ne (b := b) h2
  have e3 := up_ne (b := b) h3
  constructor
  · exact below_then h.bel h.bel.size hb
  · rw [e0]; exact fun x => (h.o1 x).below hb
  · rw [e1]; exact fun x => (h.o2 x).below hb
  · rw [e0, e1]; exact h.ne
  · rw [e0, e2]; exact h.d1
  · rw [e1, e3]; exact h.d2
  · rw [e2]; exact fun x => (h.v1 x).below hb
  · rw [e3]; exact fun x => (h.v2 x).below hb
theorem TB.al1 (h : TB W T n p q c d ia ib sa sb b w) (zs : Array Value) (hz : zs.size = n) (h2 : b sa = false) (hi : (ib != ia && sa != ia && sb != ia) = true) : TB W T n w.heap.size q c d ia ib sa sb (up b ia) (w.alloc (.cells zs T)) := by
  simp only [Bool.and_eq_true, bne_iff_ne, ne_eq] at hi
  obtain ⟨⟨i1, i2⟩, i3⟩ := hi
  have hb : Below w.heap.size w (w.alloc (.cells zs T)) := (Below.refl _ w).alloc (Nat.le_refl _) _
  have e0 := up_self b ia
  have e1 := up_ne (b := b) (i := ia) (j := ib) i1
  have e2 := up_ne (b := b) (i := ia) (j := sa) i2
  have e3 := up_ne (b := b) (i := ia) (j := sb) i3
  constructor
  · exact below_then h.bel h.bel.size hb
  · exact fun _ => ⟨h.bel.size, zs, hz, heap_alloc_new w _⟩
  · rw [e1]; exact fun x => (h.o2 x).below hb
  · rw [e1]; exact fun _ x => by have := (h.o2 x).lt; omega
  · exact fun _ => e0
  · rw [e1, e3]; exact h.d2
  · rw [e2, h2]; exact fun x => by cases x
  · rw [e3]; exact fun x => (h.v2 x).below hb
theorem store_own (h : Own W w T n p) (hc : c.length = n) : Val (w.setCells p 0 c) T p c := by
  obtain ⟨_, cs, h1, h2⟩ := h
  obtain ⟨cur', g1, g2, g3⟩ := setCells_row c 0 w cs h2 (by omega)
  refine ⟨cur', ?_, g1⟩
  rw [g3, List.take_zero, List.nil_append, List.drop_eq_nil_of_le (by rw [Array.length_toList]; omega), List.append_nil]
theorem TB.st1 (h : TB W T n p q c d ia ib sa sb b w) (hc : c.length = n) (h0 : b ia = true) (hi : (ia != sa && ib != sa && sb != sa) = true) : TB W T n p q c d ia ib sa sb (up b sa) (w.setCells p 0 c) := by
  simp only [Bool.and_eq_true, bne_iff_ne, ne_eq] at hi
  obtain ⟨⟨i1, i2⟩, i3⟩ := hi
  have e0 := up_self b sa
  have e1 := up_ne (b := b) (i := sa) (j := ia) i1
  have e2 := up_ne (b := b) (i := sa) (j := ib) i2
  have e3 := up_ne (b := b) (i := sa) (j := sb) i3
  have ho := h.o1 h0
  have hv := store_own ho hc
  have hfar : ∀ k, k ≠ p → (w.setCells p 0 c).heap[k]? = w.heap[k]? := fun k hk => setCells_far c 0 k hk
  obtain ⟨s1, s2, s3, s4⟩ := Go.Proofs.YtkgafogkeaaniaaW.PrintWords.setCells_same p c 0 w
  constructor
  · exact ⟨s1.trans h.bel.os, s2.trans h.bel.tape, s3.trans h.bel.output, by rw [s4]; exact h.bel.size, fun k hk => (hfar k (by have := ho.1; omega)).trans (h.bel.block k hk)⟩
  · exact fun _ => by
      obtain ⟨cs, hcs, hh⟩ := hv
      exact ⟨ho.1, cs, by rw [← Array.length_toList, hcs, hc], hh⟩
  · rw [e2]; exact fun x => by
      obtain ⟨hq, cs, h1, hd⟩ := h.o2 x
      exact ⟨hq, cs, h1, (hfar q (h.ne h0 x).symm).trans hd⟩
  · rw [e1, e2]; exact h.ne
  · rw [e1]; exact fun _ => h0
  · rw [e2, e3]; exact h.d2
  · exact fun _ => hv
  · rw [e3]; exact fun x => (h.v2 x).move (hfar q (h.ne h0 (h.d2 x)).symm)
theorem run_own {P : Program} (h : Own W w T n p) (u : Value) (hu : u.cells.toList = c) (ht : (P.info? T).map (·.size) = some c.length) (hc : c.length = n) (h1 : ∀ q ∈ c, q.oneCell' = true) : (Instr.storeAt T (.pointer (some ⟨p, 0, none⟩)) u).run P w = .ok () (w.setCells p 0 c) := by
  obtain ⟨_, cs, hs, hh⟩ := h
  exact run_store_run (o := 0) T u c hh hu ht (by omega) h1
end
theorem One.below {W w w' : World} {P : World → Prop} {j B : Nat} {b : Nat → Bool} (h : One W P j b w') (h1 : Below B w W) (h2 : ∀ w', P w' → Below B w w') : Below B w w' := by
  cases hb : b j
  · rw [h.n hb]; exact h1
  · exact h2 _ (h.y hb)
theorem bc {W w' : World} {p : Addr} {v : Value} (h : Below W.heap.size W w') (hp : p.block < W.heap.size) (hc : W.cell? p = some v) : w'.cell? p = some v := (h.cell hp).trans hc
theorem bz {W w' : World} {g : Nat} (h : Below W.heap.size W w') (hp : g < W.heap.size) : g < w'.heap.size := Nat.lt_of_lt_of_le hp h.size
end Go.Proofs.Ytkgafogkeaaniaa.Kit4
