/- Two boxes made in a region of open order: what holds whatever has come up. No condition. -/
import Derived.Test.YtpgecjedifcilaaRaB
import Derived.Test.YtpgecjedifcilaaWInvWords
import Derived.Test.YtpgecjedifcilaaWMore
set_option linter.unusedVariables false
set_option linter.unusedSimpArgs false
namespace Go.Proofs.Ytpgecjedifcilaa.RaI
open Go.RowKit Go.Proofs.Ytpgecjedifcilaa.Kit Go.Proofs.Ytpgecjedifcilaa.RaB
open Go.Proofs.YtpgecjedifcilaaW.PrintLast
/-- A call answers so, whatever the world. -/
abbrev CC (f : Nat) (args : Array Value) (v : Value) : Prop := ∀ w, Side (Calls Try.prog f args w fun r w' => r = .returned v ∧ Below w.heap.size w w')
theorem dr {W w' : World} (h : Below W.drew.heap.size W.drew w') : Below W.heap.size W w' := below_then (below_drew (Below.refl _ W)) (Nat.le_refl _) h
section
variable {b : Nat → Bool} {i : Nat} {t : Tmp} {v : Value} {a a0 : Act} {L : List (Nat × Tmp × Value)}
theorem pon (ha : a = putSel a0 b L) (k : Nat) (hb : b i = true) (hL : L[k]? = some (i, t, v)) (hd : ((L.drop (k + 1)).all fun x => !(x.2.1 == t)) = true) (ht : Nat.ble (t + 1) a0.tmps.size = true) : a.tmps[t]? = some v := by
  rw [ha]; exact putSel_on (e := (i, t, v)) k hL hd hb ht
theorem poff (ha : a = putSel a0 b L) (hd : (L.all fun e => !(e.2.1 == t)) = true) (h : a0.tmps[t]? = some v) : a.tmps[t]? = some v := by
  rw [ha]; exact (putSel_off hd).trans h
theorem upk (ha : a = putSel a0 b L) (k : Nat) (hb : b i = false) (hL : L[k]? = some (i, t, v)) (hd : ((L.take k ++ L.drop (k + 1)).all fun e => !(e.1 == i) && !(e.2.1 == t)) = true) : a.put (some t) v = putSel a0 (up b i) L := by
  rw [ha]
  refine putSel_upk k hb hL ?_ hd
  obtain ⟨hk, he⟩ := List.getElem?_eq_some_iff.1 hL
  rw [← he]; exact List.set_getElem_self hk
theorem ups (ha : a = putSel a0 b L) (hd : (L.all fun e => !(e.1 == i)) = true) : a = putSel a0 (up b i) L := by
  rw [ha]; exact (putSel_same hd).symm
end
def Own (W w : World) (p : Nat) : Prop := W.heap.size ≤ p ∧ ∃ c0 c1 : Value, w.heap[p]? = some (.cells #[c0, c1] 26 (0, 0))
def Val (w : World) (p : Nat) (x y : Int) : Prop := w.heap[p]? = some (.cells #[.int .i64 x, .int .i64 y] 26 (0, 0))
variable {W w w' : World} {p q : Nat} {x0 x1 y0 y1 : Int} {b : Nat → Bool}
theorem Own.lt (h : Own W w p) : p < w.heap.size := by
  obtain ⟨_, _, _, h⟩ := h
  exact (Array.getElem?_eq_some_iff.1 h).1
theorem Own.below (h : Own W w p) (hb : Below w.heap.size w w') : Own W w' p := by
  have hl := h.lt
  obtain ⟨h0, c0, c1, h⟩ := h
  exact ⟨h0, c0, c1, (hb.block p hl).trans h⟩
theorem Val.below (h : Val w p x0 x1) (hb : Below w.heap.size w w') : Val w' p x0 x1 := (hb.block p (Array.getElem?_eq_some_iff.1 h).1).trans h
theorem Val.box (h : Val w p x0 x1) : Box2 w p .i64 x0 x1 := ⟨cell_of_row w p 0 _ _ (0, 0) h, cell_of_row w p 1 _ _ (0, 0) h, (Array.getElem?_eq_some_iff.1 h).1⟩
structure RI (W : World) (p q : Nat) (x0 x1 y0 y1 : Int) (b : Nat → Bool) (w' : World) : Prop where
  bel : Below W.heap.size W w'
  o1 : b 10 = true → Own W w' p
  o2 : b 11 = true → Own W w' q
  ne : b 10 = true → b 11 = true → p ≠ q
  d1 : b 12 = true → b 10 = true
  d2 : b 13 = true → b 11 = true
  v1 : b 12 = true → Val w' p x0 x1
  v2 : b 13 = true → Val w' q y0 y1
theorem RI.low (h : RI W p q x0 x1 y0 y1 b w) (hb : Below w.heap.size w w') (i : Nat) (h0 : 10 ≠ i) (h1 : 11 ≠ i) (h2 : 12 ≠ i) (h3 : 13 ≠ i) : RI W p q x0 x1 y0 y1 (up b i) w' := by
  have e0 := up_ne (b := b) h0
  have e1 := up_ne (b := b) h1
  have e2 := up_ne (b := b) h2
  have e3 := up_ne (b := b) h3
  constructor
  · exact below_then h.bel h.bel.size hb
  · rw [e0]; exact fun x => (h.o1 x).below hb
  · rw [e1]; exact fun x => (h.o2 x).below hb
  · rw [e0, e1]; exact h.ne
  · rw [e0, e2]; exact h.d1
  · rw [e1, e3]; exact h.d2
  · rw [e2]; exact fun x => (h.v1 x).below hb
  · rw [e3]; exact fun x => (h.v2 x).below hb
theorem RI.al1 (h : RI W p q x0 x1 y0 y1 b w) (h2 : b 12 = false) : RI W w.heap.size q x0 x1 y0 y1 (up b 10) (w.alloc (.cells #[.int .i64 0, .int .i64 0] 26)) := by
  have hb : Below w.heap.size w (w.alloc (.cells #[.int .i64 0, .int .i64 0] 26)) := (Below.refl _ w).alloc (Nat.le_refl _) _
  have e0 := up_self b 10
  have e1 := up_ne (b := b) (i := 10) (j := 11) (by decide)
  have e2 := up_ne (b := b) (i := 10) (j := 12) (by decide)
  have e3 := up_ne (b := b) (i := 10) (j := 13) (by decide)
  constructor
  · exact below_then h.bel h.bel.size hb
  · exact fun _ => ⟨h.bel.size, _, _, heap_alloc_new w _⟩
  · rw [e1]; exact fun x => (h.o2 x).below hb
  · rw [e1]; exact fun _ x => by have := (h.o2 x).lt; omega
  · exact fun _ => e0
  · rw [e1, e3]; exact h.d2
  · rw [e2, h2]; exact fun x => by cases x
  · rw [e3]; exact fun x => (h.v2 x).below hb
theorem RI.al2 (h : RI W p q x0 x1 y0 y1 b w) (h2 : b 13 = false) : RI W p w.heap.size x0 x1 y0 y1 (up b 11) (w.alloc (.cells #[.int .i64 0, .int .i64 0] 26)) := by
  have hb : Below w.heap.size w (w.alloc (.cells #[.int .i64 0, .int .i64 0] 26)) := (Below.refl _ w).alloc (Nat.le_refl _) _
  have e0 := up_self b 11
  have e1 := up_ne (b := b) (i := 11) (j := 10) (by decide)
  have e2 := up_ne (b := b) (i := 11) (j := 12) (by decide)
  have e3 := up_ne (b := b) (i := 11) (j := 13) (by decide)
  constructor
  · exact below_then h.bel h.bel.size hb
  · rw [e1]; exact fun x => (h.o1 x).below hb
  · exact fun _ => ⟨h.bel.size, _, _, heap_alloc_new w _⟩
  · rw [e1]; exact fun x _ => by have := (h.o1 x).lt; omega
  · rw [e1, e2]; exact h.d1
  · exact fun _ => e0
  · rw [e2]; exact fun x => (h.v1 x).below hb
  · rw [e3, h2]; exact fun x => by cases x
theorem set2 {c0 c1 : Value} (h : w.heap[p]? = some (.cells #[c0, c1] 26 (0, 0))) (u v : Value) : ((w.setCell ⟨p, 0, none⟩ u).setCell ⟨p, 1, none⟩ v).heap[p]? = some (.cells #[u, v] 26 (0, 0)) :=
  (blk_set (blk_set h 0 u) 1 v).trans (by simp)
theorem far2 {k : Nat} (hk : k ≠ p) (u v : Value) : ((w.setCell ⟨p, 0, none⟩ u).setCell ⟨p, 1, none⟩ v).heap[k]? = w.heap[k]? := (blk_far _ hk v).trans (blk_far _ hk u)
theorem RI.st1 (h : RI W p q x0 x1 y0 y1 b w) (h0 : b 10 = true) : RI W p q x0 x1 y0 y1 (up b 12) ((w.setCell ⟨p, 0, none⟩ (.int .i64 x0)).setCell ⟨p, 1, none⟩ (.int .i64 x1)) := by
  have e0 := up_self b 12
  have e1 := up_ne (b := b) (i := 12) (j := 10) (by decide)
  have e2 := up_ne (b := b) (i := 12) (j := 11) (by decide)
  have e3 := up_ne (b := b) (i := 12) (j := 13) (by decide)
  obtain ⟨hp, c0, c1, hc⟩ := h.o1 h0
  have hs := set2 hc (.int .i64 x0) (.int .i64 x1)
  constructor
  · exact Below.setCell (Below.setCell h.bel hp _) hp _
  · exact fun _ => ⟨hp, _, _, hs⟩
  · rw [e2]; exact fun x => by
      obtain ⟨hq, d0, d1, hd⟩ := h.o2 x
      exact ⟨hq, d0, d1, (far2 (h.ne h0 x).symm _ _).trans hd⟩
  · rw [e1, e2]; exact h.ne
  · rw [e1]; exact fun _ => h0
  · rw [e2, e3]; exact h.d2
  · exact fun _ => hs
  · rw [e3]; exact fun x => (far2 (h.ne h0 (h.d2 x)).symm _ _).trans (h.v2 x)
theorem RI.st2 (h : RI W p q x0 x1 y0 y1 b w) (h0 : b 11 = true) : RI W p q x0 x1 y0 y1 (up b 13) ((w.setCell ⟨q, 0, none⟩ (.int .i64 y0)).setCell ⟨q, 1, none⟩ (.int .i64 y1)) := by
  have e0 := up_self b 13
  have e1 := up_ne (b := b) (i := 13) (j := 10) (by decide)
  have e2 := up_ne (b := b) (i := 13) (j := 11) (by decide)
  have e3 := up_ne (b := b) (i := 13) (j := 12) (by decide)
  obtain ⟨hp, c0, c1, hc⟩ := h.o2 h0
  have hs := set2 hc (.int .i64 y0) (.int .i64 y1)
  constructor
  · exact Below.setCell (Below.setCell h.bel hp _) hp _
  · rw [e1]; exact fun x => by
      obtain ⟨hq, d0, d1, hd⟩ := h.o1 x
      exact ⟨hq, d0, d1, (far2 (h.ne x h0) _ _).trans hd⟩
  · exact fun _ => ⟨hp, _, _, hs⟩
  · rw [e1, e2]; exact h.ne
  · rw [e1, e3]; exact h.d1
  · rw [e2]; exact fun _ => h0
  · rw [e3]; exact fun x => (far2 (h.ne (h.d1 x) h0) _ _).trans (h.v1 x)
  · exact fun _ => hs
/-- Seven boxes stand. -/
structure Live (w : World) (gx gy gp gq gs gd gm : Nat) (x0 x1 y0 y1 s0 s1 d0 d1 m0 m1 : Int) (wc : World) : Prop where
  bel : Below w.heap.size w wc
  x : Box2 wc gx .i64 x0 x1
  y : Box2 wc gy .i64 y0 y1
  p : Box2 wc gp .i64 x0 x1
  q : Box2 wc gq .i64 y0 y1
  s : Box2 wc gs .i64 s0 s1
  d : Box2 wc gd .i64 d0 d1
  m : Box2 wc gm .i64 m0 m1
theorem Live.below {gx gy gp gq gs gd gm : Nat} {x0 x1 y0 y1 s0 s1 d0 d1 m0 m1 : Int} (h : Live W gx gy gp gq gs gd gm x0 x1 y0 y1 s0 s1 d0 d1 m0 m1 w) (hb : Below w.heap.size w w') : Live W gx gy gp gq gs gd gm x0 x1 y0 y1 s0 s1 d0 d1 m0 m1 w' :=
  ⟨below_then h.bel h.bel.size hb, h.x.below hb, h.y.below hb, h.p.below hb, h.q.below hb, h.s.below hb, h.d.below hb, h.m.below hb⟩
end Go.Proofs.Ytpgecjedifcilaa.RaI
