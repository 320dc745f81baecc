/- Package rank: where the reference's new row stands while it is made. No condition. -/
import Derived.Test.YtmjgadhknliiaaaSoK
set_option linter.unusedVariables false
set_option linter.unusedSimpArgs false
namespace Go.Proofs.Ytmjgadhknliiaaa.SoM
open Go.RowKit Go.Proofs.Ytmjgadhknliiaaa.Kit Go.Proofs.Ytmjgadhknliiaaa.Kit4 Go.Proofs.Ytmjgadhknliiaaa.Kit5 Go.Proofs.Ytmjgadhknliiaaa.Rank Go.Proofs.Ytmjgadhknliiaaa.SoA SoPlain
open Go.Proofs.YtmjgadhknliiaaaW.PrintLast
abbrev FRow := GRow 23 4 rcl
theorem infoF : (Try.prog.info? 23).map (fun i => (i.zero, i.size, i.bytes)) = some (some (.agg #[.int .i64 0, .int .i64 0, .int .i64 0, .int .i64 0]), 4, 32) := by kernel_rfl
/-- One rank in a block. -/
def At1 (w : World) (p : Nat) (d : R) : Prop := w.heap[p]? = some (.cells #[.int .i64 d.d, .int .i64 d.b, .int .i64 d.g, .int .i64 d.i] 23 (0, 0))
theorem At1.lt {w : World} {p : Nat} {d : R} (h : At1 w p d) : p < w.heap.size := (Array.getElem?_eq_some_iff.1 h).1
theorem At1.cell {w : World} {p : Nat} {d : R} (h : At1 w p d) : ∀ (j : Nat) (x : R), [d][j]? = some x → ∀ (r : Nat) (u : Value), (rcl x)[r]? = some u → w.cell? ((⟨p, 0, none⟩ : Addr).add (j * 4 + r)) = some u := by
  intro j x hj r u hu
  rcases j with _ | j
  · simp at hj
    subst hj
    rw [Addr.add_lit, cell_of_row w p _ _ _ (0, 0) h]
    simpa [rcl] using hu
  · simp at hj
theorem bel_grown {W w w' : World} {r : Option Nat} (h : Below W.heap.size W w) (hg : w.grownBy w' r) (hr : ∀ k, some k = r → W.heap.size ≤ k) : Below W.heap.size W w' :=
  ⟨hg.os.trans h.os, hg.tape.trans h.tape, hg.output.trans h.output, Nat.le_trans h.size hg.size, fun k hk => (hg.block k (Nat.lt_of_lt_of_le hk h.size) (fun e => by have := hr k e; omega)).trans (h.block k hk)⟩
structure Aq (W : World) (xs zs : List R) (d : R) (b : Nat → Bool) (p0 p6 : Nat) (va vb vc vd : Value) (w : World) : Prop where
  bel : Below W.heap.size W w
  r0 : b 0 = true → b 4 = false → FRow w W.heap.size (.slice (some ⟨p0, 0, none⟩) 0 0) []
  r4 : b 4 = true → b 10 = false → FRow w W.heap.size va xs
  r6 : b 9 = true → b 10 = false → W.heap.size ≤ p6 ∧ At1 w p6 d
  n06 : b 0 = true → b 4 = false → b 9 = true → p6 ≠ p0
  n46 : b 4 = true → b 10 = false → b 9 = true → va.ownBlock ≠ some p6
  r7 : b 10 = true → b 14 = false → FRow w W.heap.size vb (xs ++ [d])
  r11 : b 14 = true → FRow w W.heap.size vc (xs ++ [d] ++ zs)
  r12 : b 15 = true → vd = vc
section
variable {W w w3 : World} {xs zs : List R} {d : R} {b : Nat → Bool} {p0 p6 : Nat} {va vb vc vd v' : Value}
theorem Aq.start : Aq W xs zs d (fun _ => false) p0 p6 va vb vc vd W := ⟨Below.refl _ _, fun h => (by cases h), fun h => (by cases h), fun h => (by cases h), fun h => (by cases h), fun h => (by cases h), fun h => (by cases h), fun h => (by cases h), fun h => (by cases h)⟩
theorem Aq.low (h : Aq W xs zs d b p0 p6 va vb vc vd w) (i : Nat) (hi : (i != 0 && i != 4 && i != 9 && i != 10 && i != 14 && i != 15) = true) : Aq W xs zs d (up b i) p0 p6 va vb vc vd w := by
  simp only [Bool.and_eq_true, bne_iff_ne, ne_eq] at hi
  obtain ⟨⟨⟨⟨⟨h0, h4⟩, h6⟩, h7⟩, h11⟩, h12⟩ := hi
  have e0 := up_ne (b := b) (i := i) (j := 0) (fun e => h0 e.symm)
  have e4 := up_ne (b := b) (i := i) (j := 4) (fun e => h4 e.symm)
  have e6 := up_ne (b := b) (i := i) (j := 9) (fun e => h6 e.symm)
  have e7 := up_ne (b := b) (i := i) (j := 10) (fun e => h7 e.symm)
  have e11 := up_ne (b := b) (i := i) (j := 14) (fun e => h11 e.symm)
  have e12 := up_ne (b := b) (i := i) (j := 15) (fun e => h12 e.symm)
  constructor
  · exact h.bel
  · rw [e0, e4]; exact h.r0
  · rw [e4, e7]; exact h.r4
  · rw [e6, e7]; exact h.r6
  · rw [e0, e4, e6]; exact h.n06
  · rw [e4, e7, e6]; exact h.n46
  · rw [e7, e11]; exact h.r7
  · rw [e11]; exact h.r11
  · rw [e12]; exact h.r12
theorem Aq.s0 (h : Aq W xs zs d b p0 p6 va vb vc vd w) (h4 : b 4 = false) (h7 : b 10 = false) (h11 : b 14 = false) (h12 : b 15 = false) : Aq W xs zs d (up b 0) w.heap.size p6 va vb vc vd (w.alloc (.cells #[] 23)) := by
  have e0 := up_self b 0
  have e4 := up_ne (b := b) (i := 0) (j := 4) (by decide)
  have e6 := up_ne (b := b) (i := 0) (j := 9) (by decide)
  have e7 := up_ne (b := b) (i := 0) (j := 10) (by decide)
  have e11 := up_ne (b := b) (i := 0) (j := 14) (by decide)
  have e12 := up_ne (b := b) (i := 0) (j := 15) (by decide)
  constructor
  · exact h.bel.alloc h.bel.size _
  · exact fun _ _ => ⟨rfl, .inr ⟨w.heap.size, 0, #[], rfl, h.bel.size, heap_alloc_new w _, Nat.le_refl _, Nat.zero_le _, rfl, rfl⟩⟩
  · rw [e4, h4]; exact fun e => by cases e
  · rw [e6, e7]
    intro h6 h7
    have := h.r6 h6 h7
    exact ⟨this.1, (Below.heap_alloc w _ p6 this.2.lt).trans this.2⟩
  · rw [e6]
    intro _ _ h6
    have := (h.r6 h6 h7).2.lt
    omega
  · rw [e4, h4]; exact fun e => by cases e
  · rw [e7, h7]; exact fun e => by cases e
  · rw [e11, h11]; exact fun e => by cases e
  · rw [e12, h12]; exact fun e => by cases e
theorem Aq.s4 (h : Aq W xs zs d b p0 p6 va vb vc vd w) (h0 : b 0 = true) (h4 : b 4 = false) (h7 : b 10 = false) (h11 : b 14 = false) (h12 : b 15 = false) (hr : FRow w3 W.heap.size v' xs) (hg : w.grownBy w3 (some p0)) (ho : v'.ownBlock = some p0 ∨ v'.ownBlock = some w.heap.size) : Aq W xs zs d (up b 4) p0 p6 v' vb vc vd w3 := by
  have e0 := up_ne (b := b) (i := 4) (j := 0) (by decide)
  have e4 := up_self b 4
  have e6 := up_ne (b := b) (i := 4) (j := 9) (by decide)
  have e7 := up_ne (b := b) (i := 4) (j := 10) (by decide)
  have e11 := up_ne (b := b) (i := 4) (j := 14) (by decide)
  have e12 := up_ne (b := b) (i := 4) (j := 15) (by decide)
  have hp0 : W.heap.size ≤ p0 := (h.r0 h0 h4).base p0 rfl
  constructor
  · exact bel_grown h.bel hg (fun k e => by cases e; exact hp0)
  · rw [e4]; exact fun _ e => by cases e
  · exact fun _ _ => hr
  · rw [e6, e7]
    intro h6 h7
    have := h.r6 h6 h7
    exact ⟨this.1, (hg.block p6 this.2.lt (fun e => h.n06 h0 h4 h6 (by cases e; rfl))).trans this.2⟩
  · rw [e4]; exact fun _ e => by cases e
  · rw [e6]
    intro _ _ h6 e
    rcases ho with ho | ho
    · rw [ho] at e; cases e; exact h.n06 h0 h4 h6 rfl
    · rw [ho] at e; cases e; exact Nat.lt_irrefl _ (h.r6 h6 h7).2.lt
  · rw [e7, h7]; exact fun e => by cases e
  · rw [e11, h11]; exact fun e => by cases e
  · rw [e12, h12]; exact fun e => by cases e
theorem Aq.s6 (h : Aq W xs zs d b p0 p6 va vb vc vd w) (h7 : b 10 = false) (h11 : b 14 = false) (h12 : b 15 = false) : Aq W xs zs d (up b 9) p0 w.heap.size va vb vc vd (w.alloc (.cells #[.int .i64 d.d, .int .i64 d.b, .int .i64 d.g, .int .i64 d.i] 23)) := by
  have e0 := up_ne (b := b) (i := 9) (j := 0) (by decide)
  have e4 := up_ne (b := b) (i := 9) (j := 4) (by decide)
  have e6 := up_self b 9
  have e7 := up_ne (b := b) (i := 9) (j := 10) (by decide)
  have e11 := up_ne (b := b) (i := 9) (j := 14) (by decide)
  have e12 := up_ne (b := b) (i := 9) (j := 15) (by decide)
  have hb : Below w.heap.size w (w.alloc (.cells #[.int .i64 d.d, .int .i64 d.b, .int .i64 d.g, .int .i64 d.i] 23)) := (Below.refl _ _).alloc (Nat.le_refl _) _
  constructor
  · exact h.bel.alloc h.bel.size _
  · rw [e0, e4]; exact fun h0 h4 => (h.r0 h0 h4).below hb
  · rw [e4, e7]; exact fun h4 h7 => (h.r4 h4 h7).below hb
  · exact fun _ _ => ⟨h.bel.size, heap_alloc_new w _⟩
  · rw [e0, e4]
    intro h0 h4 _ e
    have := (h.r0 h0 h4).lt p0 rfl
    omega
  · rw [e4, e7]
    intro h4 h7 _ e
    have := (h.r4 h4 h7).lt _ e
    omega
  · rw [e7, h7]; exact fun e => by cases e
  · rw [e11, h11]; exact fun e => by cases e
  · rw [e12, h12]; exact fun e => by cases e
theorem Aq.s7 (h : Aq W xs zs d b p0 p6 va vb vc vd w) (h4 : b 4 = true) (h7 : b 10 = false) (h11 : b 14 = false) (h12 : b 15 = false) (hr : FRow w3 W.heap.size v' (xs ++ [d])) (hg : w.grownBy w3 va.ownBlock) : Aq W xs zs d (up b 10) p0 p6 va v' vc vd w3 := by
  have e4 := up_ne (b := b) (i := 10) (j := 4) (by decide)
  have e7 := up_self b 10
  have e11 := up_ne (b := b) (i := 10) (j := 14) (by decide)
  have e12 := up_ne (b := b) (i := 10) (j := 15) (by decide)
  constructor
  · exact bel_grown h.bel hg (fun k e => (h.r4 h4 h7).base k e.symm)
  · rw [e4, h4]; exact fun _ e => by cases e
  · rw [e7]; exact fun _ e => by cases e
  · rw [e7]; exact fun _ e => by cases e
  · rw [e4, h4]; exact fun _ e => by cases e
  · rw [e7]; exact fun _ e => by cases e
  · exact fun _ _ => hr
  · rw [e11, h11]; exact fun e => by cases e
  · rw [e12, h12]; exact fun e => by cases e
theorem Aq.s11 (h : Aq W xs zs d b p0 p6 va vb vc vd w) (h4 : b 4 = true) (h7 : b 10 = true) (h11 : b 14 = false) (h12 : b 15 = false) (hr : FRow w3 W.heap.size v' (xs ++ [d] ++ zs)) (hg : w.grownBy w3 vb.ownBlock) : Aq W xs zs d (up b 14) p0 p6 va vb v' vd w3 := by
  have e4 := up_ne (b := b) (i := 14) (j := 4) (by decide)
  have e7 := up_ne (b := b) (i := 14) (j := 10) (by decide)
  have e11 := up_self b 14
  have e12 := up_ne (b := b) (i := 14) (j := 15) (by decide)
  constructor
  · exact bel_grown h.bel hg (fun k e => (h.r7 h7 h11).base k e.symm)
  · rw [e4, h4]; exact fun _ e => by cases e
  · rw [e7, h7]; exact fun _ e => by cases e
  · rw [e7, h7]; exact fun _ e => by cases e
  · rw [e4, h4]; exact fun _ e => by cases e
  · rw [e7, h7]; exact fun _ e => by cases e
  · rw [e11]; exact fun _ e => by cases e
  · exact fun _ => hr
  · rw [e12, h12]; exact fun e => by cases e
theorem Aq.s12 (h : Aq W xs zs d b p0 p6 va vb vc vd w) : Aq W xs zs d (up b 15) p0 p6 va vb vc vc w := by
  have e0 := up_ne (b := b) (i := 15) (j := 0) (by decide)
  have e4 := up_ne (b := b) (i := 15) (j := 4) (by decide)
  have e6 := up_ne (b := b) (i := 15) (j := 9) (by decide)
  have e7 := up_ne (b := b) (i := 15) (j := 10) (by decide)
  have e11 := up_ne (b := b) (i := 15) (j := 14) (by decide)
  constructor
  · exact h.bel
  · rw [e0, e4]; exact h.r0
  · rw [e4, e7]; exact h.r4
  · rw [e6, e7]; exact h.r6
  · rw [e0, e4, e6]; exact h.n06
  · rw [e4, e7, e6]; exact h.n46
  · rw [e7, e11]; exact h.r7
  · rw [e11]; exact h.r11
  · exact fun _ => rfl
end
end Go.Proofs.Ytmjgadhknliiaaa.SoM
