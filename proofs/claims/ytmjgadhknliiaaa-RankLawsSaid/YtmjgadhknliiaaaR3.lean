/- Three boxes made in a region of open order: what holds whatever has come up. No condition. -/
import Derived.Test.YtmjgadhknliiaaaOwnOrders
import Derived.Test.YtmjgadhknliiaaaWInvWords
set_option linter.unusedVariables false
set_option linter.unusedSimpArgs false
namespace Go.Proofs.Ytmjgadhknliiaaa.R3
open Go.RowKit Go.Proofs.Ytmjgadhknliiaaa.Kit
open Go.Proofs.YtmjgadhknliiaaaW.PrintLast (up up_self up_ne)
/-- Four whole numbers lie in a block. -/
def At (w : World) (g : Nat) (f : Nat → Int) : Prop := w.cell? ⟨g, 0, none⟩ = some (.int .i64 (f 0)) ∧ w.cell? ⟨g, 1, none⟩ = some (.int .i64 (f 1)) ∧ w.cell? ⟨g, 2, none⟩ = some (.int .i64 (f 2)) ∧ w.cell? ⟨g, 3, none⟩ = some (.int .i64 (f 3)) ∧ g < w.heap.size
theorem At.below {w w' : World} {g : Nat} {f : Nat → Int} (h : At w g f) (hb : Below w.heap.size w w') : At w' g f := by
  obtain ⟨h0, h1, h2, h3, h4⟩ := h
  have hc := (bcell hb).1
  exact ⟨(hc _ _ h4).trans h0, (hc _ _ h4).trans h1, (hc _ _ h4).trans h2, (hc _ _ h4).trans h3, Nat.lt_of_lt_of_le h4 hb.size⟩
def Own (w : World) (t : TypeId) (m g : Nat) : Prop := m < g ∧ ∃ cs : Array Value, w.heap[g]? = some (.cells cs t (0, 0)) ∧ cs.size = 4
theorem Own.lt {w : World} {t : TypeId} {m g : Nat} (h : Own w t m g) : g < w.heap.size := by
  obtain ⟨_, cs, h, _⟩ := h
  exact (Array.getElem?_eq_some_iff.1 h).1
theorem Own.below {w w' : World} {t : TypeId} {m g : Nat} (h : Own w t m g) (hb : Below w.heap.size w w') : Own w' t m g := by
  have hl := h.lt
  obtain ⟨hm, cs, h, hs⟩ := h
  exact ⟨hm, cs, (hb.block _ hl).trans h, hs⟩
def four (f : Nat → Int) : List Value := [.int .i64 (f 0), .int .i64 (f 1), .int .i64 (f 2), .int .i64 (f 3)]
theorem set4 (w : World) (g : Nat) (f : Nat → Int) : w.setCells g 0 (four f) = (((w.setCell ⟨g, 0, none⟩ (.int .i64 (f 0))).setCell ⟨g, 1, none⟩ (.int .i64 (f 1))).setCell ⟨g, 2, none⟩ (.int .i64 (f 2))).setCell ⟨g, 3, none⟩ (.int .i64 (f 3)) := rfl
theorem set4_blk {w : World} {g : Nat} {t : TypeId} {cs : Array Value} (f : Nat → Int) (h : w.heap[g]? = some (.cells cs t (0, 0))) (hs : cs.size = 4) :
    (w.setCells g 0 (four f)).heap[g]? = some (.cells #[.int .i64 (f 0), .int .i64 (f 1), .int .i64 (f 2), .int .i64 (f 3)] t (0, 0)) := by
  rw [set4]
  have h1 := blk_set (blk_set (blk_set (blk_set h 0 (.int .i64 (f 0))) 1 (.int .i64 (f 1))) 2 (.int .i64 (f 2))) 3 (.int .i64 (f 3))
  rw [h1]
  obtain ⟨l⟩ := cs
  match l, hs with
  | [a, b, c, d], _ => rfl
theorem set4_far (w : World) {g k : Nat} (f : Nat → Int) (hk : k ≠ g) : (w.setCells g 0 (four f)).heap[k]? = w.heap[k]? := by
  rw [set4, blk_far _ hk, blk_far _ hk, blk_far _ hk, blk_far _ hk]
theorem set4_size (w : World) (g : Nat) (f : Nat → Int) : (w.setCells g 0 (four f)).heap.size = w.heap.size := by
  rw [set4]; simp
theorem at_of {w : World} {g : Nat} {t : TypeId} {f : Nat → Int} (h : w.heap[g]? = some (.cells #[.int .i64 (f 0), .int .i64 (f 1), .int .i64 (f 2), .int .i64 (f 3)] t (0, 0))) : At w g f :=
  ⟨cell_of_row w g 0 _ t (0, 0) h, cell_of_row w g 1 _ t (0, 0) h, cell_of_row w g 2 _ t (0, 0) h, cell_of_row w g 3 _ t (0, 0) h, (Array.getElem?_eq_some_iff.1 h).1⟩
theorem At.far {w w' : World} {g : Nat} {f : Nat → Int} (h : At w g f) (hh : w'.heap[g]? = w.heap[g]?) : At w' g f := by
  obtain ⟨h0, h1, h2, h3, h4⟩ := h
  have hc : ∀ o, w'.cell? ⟨g, o, none⟩ = w.cell? ⟨g, o, none⟩ := fun o => by simp [World.cell?, hh]
  exact ⟨(hc _).trans h0, (hc _).trans h1, (hc _).trans h2, (hc _).trans h3, by
    rw [Array.getElem?_eq_getElem h4] at hh
    exact (Array.getElem?_eq_some_iff.1 hh).1⟩
/-- What holds: the parameters lie in three blocks from W0's end on; a made box is its own; a filled one holds its rank. -/
structure R3 (w : World) (t : TypeId) (p : Nat → Nat → Int) (g : Nat → Nat) (b : Nat → Bool) (w' : World) : Prop where
  below : Below w.heap.size w w'
  params : ∀ i, i < 3 → At w' (w.heap.size + i) (p i)
  own : ∀ i, i < 3 → b (6 + i) = true → Own w' t (w.heap.size + 2) (g i)
  ne : ∀ i j, i < 3 → j < 3 → i ≠ j → b (6 + i) = true → b (6 + j) = true → g i ≠ g j
  val : ∀ i, i < 3 → b (9 + i) = true → At w' (g i) (p i)
  dep : ∀ i, i < 3 → b (9 + i) = true → b (6 + i) = true
variable {w W W' : World} {t : TypeId} {p : Nat → Nat → Int} {g : Nat → Nat} {b b' : Nat → Bool}
theorem R3.call (h : R3 w t p g b W) (hb : Below W.heap.size W W') (hu : ∀ k, 6 ≤ k → b' k = b k) : R3 w t p g b' W' where
  below := below_then h.below h.below.size hb
  params := fun i hi => (h.params i hi).below hb
  own := fun i hi hx => (h.own i hi (by rw [← hu _ (by omega)]; exact hx)).below hb
  ne := fun i j hi hj hij hx hy => h.ne i j hi hj hij (by rw [← hu _ (by omega)]; exact hx) (by rw [← hu _ (by omega)]; exact hy)
  val := fun i hi hx => (h.val i hi (by rw [← hu _ (by omega)]; exact hx)).below hb
  dep := fun i hi hx => by rw [hu _ (by omega)] at hx ⊢; exact h.dep i hi hx
theorem R3.made (h : R3 w t p g b W) (i : Nat) (hi : i < 3) (hf : b (9 + i) = false) (cs : Array Value) (hs : cs.size = 4) :
    R3 w t p (fun j => if j = i then W.heap.size else g j) (up b (6 + i)) (W.alloc (.cells cs t (0, 0))) := by
  have hb : Below W.heap.size W (W.alloc (.cells cs t (0, 0))) := (Below.refl _ _).alloc (Nat.le_refl _) _
  have h2 := (h.params 2 (by omega)).2.2.2.2
  have hne : ∀ j, j < 3 → j ≠ i → 6 + j ≠ 6 + i := fun j _ hj => by omega
  refine ⟨below_then h.below h.below.size hb, fun j hj => (h.params j hj).below hb, fun j hj hx => ?_, fun j k hj hk hjk hx hy => ?_, fun j hj hx => ?_, fun j hj hx => ?_⟩
  · by_cases he : j = i
    · subst he
      simp only [if_true]
      exact ⟨h2, cs, heap_alloc_new W _, hs⟩
    · rw [up_ne (hne j hj he)] at hx
      simp only [if_neg he]
      exact (h.own j hj hx).below hb
  · by_cases he : j = i
    · have hke : k ≠ i := fun e => hjk (he.trans e.symm)
      rw [up_ne (hne k hk hke)] at hy
      have := (h.own k hk hy).lt
      simp only [if_pos he, if_neg hke]
      omega
    · by_cases hke : k = i
      · rw [up_ne (hne j hj he)] at hx
        have := (h.own j hj hx).lt
        simp only [if_neg he, if_pos hke]
        omega
      · rw [up_ne (hne j hj he)] at hx
        rw [up_ne (hne k hk hke)] at hy
        simp only [if_neg he, if_neg hke]
        exact h.ne j k hj hk hjk hx hy
  · rw [up_ne (by omega)] at hx
    by_cases he : j = i
    · subst he
      rw [hf] at hx
      cases hx
    · simp only [if_neg he]
      exact (h.val j hj hx).below hb
  · rw [up_ne (by omega)] at hx
    by_cases he : j = i
    · subst he
      exact up_self _ _
    · rw [up_ne (hne j hj he)]
      exact h.dep j hj hx
theorem R3.put (h : R3 w t p g b W) (i : Nat) (hi : i < 3) (ho : b (6 + i) = true) : R3 w t p g (up b (9 + i)) (W.setCells (g i) 0 (four (p i))) := by
  obtain ⟨hm, cs, hc, hs⟩ := h.own i hi ho
  have hb : Below w.heap.size w (W.setCells (g i) 0 (four (p i))) := by
    rw [set4]
    (repeat (with_reducible first | exact h.below | refine Below.setCell ?_ ?_ _)) <;> (simp only; omega)
  refine ⟨hb, fun j hj => (h.params j hj).far (set4_far W _ (by omega)), fun j hj hx => ?_, fun j k hj hk hjk hx hy => ?_, fun j hj hx => ?_, fun j hj hx => ?_⟩
  · rw [up_ne (by omega)] at hx
    by_cases he : j = i
    · subst he
      exact ⟨hm, _, set4_blk _ hc hs, rfl⟩
    · obtain ⟨hm', cs', hc', hs'⟩ := h.own j hj hx
      exact ⟨hm', cs', (set4_far W _ (h.ne j i hj hi he hx ho)).trans hc', hs'⟩
  · rw [up_ne (by omega)] at hx hy
    exact h.ne j k hj hk hjk hx hy
  · by_cases he : j = i
    · subst he
      exact at_of (set4_blk _ hc hs)
    · rw [up_ne (by omega)] at hx
      exact (h.val j hj hx).far (set4_far W _ (h.ne j i hj hi he (h.dep j hj hx) ho))
  · rw [up_ne (by omega)]
    by_cases he : j = i
    · subst he
      exact ho
    · rw [up_ne (by omega)] at hx
      exact h.dep j hj hx
theorem R3.begin (hb : Below w.heap.size w W) (hp : ∀ i, i < 3 → At W (w.heap.size + i) (p i)) : R3 w t p g (fun _ => false) W :=
  ⟨hb, hp, fun _ _ h => (by cases h), fun _ _ _ _ _ h _ => (by cases h), fun _ _ h => (by cases h), fun _ _ h => (by cases h)⟩
end Go.Proofs.Ytmjgadhknliiaaa.R3
