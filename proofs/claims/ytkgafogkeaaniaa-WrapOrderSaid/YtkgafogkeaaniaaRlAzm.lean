/- The reference's Lay: what it answers; where it stands while it lays. No condition. -/
import Derived.Test.YtkgafogkeaaniaaWlCzm
import Derived.Test.YtkgafogkeaaniaaRfXzm
set_option linter.unusedVariables false
set_option linter.unusedSimpArgs false
namespace Go.Proofs.Ytkgafogkeaaniaa.RlA
open Go.RowKit Go.Proofs.Ytkgafogkeaaniaa.Kit Go.Proofs.Ytkgafogkeaaniaa.Kit3 Go.Proofs.Ytkgafogkeaaniaa.Kit4 Go.Proofs.Ytkgafogkeaaniaa.Kit5 Go.Proofs.Ytkgafogkeaaniaa.WlA Go.Proofs.Ytkgafogkeaaniaa.WlC
open Go.Proofs.Ytkgafogkeaaniaa.PW
open Go.Proofs.YtkgafogkeaaniaaW.PrintLast
open Go.Proofs.YtkgafogkeaaniaaW.PrintWords hiding below_then below_alloc below_drew
theorem at39 {w : World} {A : Option Addr} {n : Nat} {xs : List S39} (h : Kd.C k39 w A n xs) (j : Nat) (hj : j < n) : ∃ g off, A = some ⟨g, off, none⟩ ∧ g < w.heap.size ∧ w.cell? ⟨g, off + j * 4, none⟩ = some (.int .i64 (rd_T39 xs (j : Int)).f0) ∧ w.cell? ⟨g, off + j * 4 + 1, none⟩ = some (.int .i64 (rd_T39 xs (j : Int)).f1.f0) ∧ w.cell? ⟨g, off + j * 4 + 2, none⟩ = some (.int .i64 (rd_T39 xs (j : Int)).f1.f1) ∧ w.cell? ⟨g, off + j * 4 + 3, none⟩ = some (.bool (rd_T39 xs (j : Int)).f2) := by
  obtain ⟨ad, rfl, c0, c1, c2, c3⟩ := at_T39 h (j : Int) (by omega) (by omega)
  obtain ⟨ad2, he, d0, -⟩ := at_T39 h 0 (by omega) (by omega)
  obtain rfl := Option.some.inj he
  clear he
  rw [Int.toNat_natCast] at c0 c1 c2 c3
  obtain ⟨g, off, spot⟩ := ad
  have hspot : spot = none := by simpa [Addr.add] using World.cell?_spot d0
  subst hspot
  have hadd : ∀ n, (⟨g, off, none⟩ : Addr).add n = ⟨g, off + n, none⟩ := fun n => by unfold Addr.add; split <;> simp_all
  rw [hadd] at c0 c1 c2 c3
  exact ⟨g, off, rfl, World.block_lt_of_cell? w _ c0, c0, c1, c2, c3⟩
theorem rd39 {l : List S39} {j : Nat} (hj : j < l.length) : l.drop j = rd_T39 l (j : Int) :: l.drop (j + 1) := by
  rw [List.drop_eq_getElem_cons hj]
  congr 1
  unfold rd_T39
  rw [Int.toNat_natCast, List.getD_eq_getElem?_getD, List.getElem?_eq_getElem hj]
  rfl
/-- While shares are laid. -/
structure Rl (W w : World) (gz ga : Nat) (G a0 a1 : Int) (v : Value) (out : List S41) : Prop where
  bel : Below W.heap.size W w
  z : w.heap[gz]? = some (rat G 1)
  a : w.heap[ga]? = some (rat a0 a1)
  row : PRow w W.heap.size v out
  b1 : W.heap.size ≤ ga
  n1 : ga ≠ gz
section
variable {W w w' : World} {gz ga : Nat} {G a0 a1 : Int} {v : Value} {out : List S41}
theorem Rl.below (h : Rl W w gz ga G a0 a1 v out) (hb : Below w.heap.size w w') : Rl W w' gz ga G a0 a1 v out :=
  ⟨below_then h.bel h.bel.size hb, keep_blk h.z hb, keep_blk h.a hb, h.row.below hb, h.b1, h.n1⟩
/-- Boxes of fractions, none of these, are written. -/
theorem Rl.far (h : Rl W w gz ga G a0 a1 v out) {S : Nat → Prop} (hg : ∀ k, S k → ∃ x y, w.heap[k]? = some (rat x y)) (hb : ∀ k, S k → W.heap.size ≤ k) (h1 : ¬ S ga) (h2 : ¬ S gz) (hc : Chg w w' S) : Rl W w' gz ga G a0 a1 v out := by
  refine ⟨h.bel.trans (Chg.below hc h.bel.size hb), (hc.block gz (lt_of h.z) h2).trans h.z, (hc.block ga (lt_of h.a) h1).trans h.a, h.row.chg hc (fun j hj e => ?_), h.b1, h.n1⟩
  obtain ⟨cur, hj'⟩ := h.row.cells j hj
  obtain ⟨x, y, hx⟩ := hg j e
  exact ne_ty hj' hx (by decide) rfl
theorem Rl.at_ (h : Rl W w gz ga G a0 a1 v out) {x y : Int} (hc : Chg w w' (fun k => k = ga)) (hg : w'.heap[ga]? = some (rat x y)) : Rl W w' gz ga G x y v out := by
  refine ⟨h.bel.trans (Chg.below hc h.bel.size (fun k e => by rw [e]; exact h.b1)), chg_blk hc h.z (fun e => h.n1 e.symm), hg, h.row.chg hc (fun j hj e => ?_), h.b1, h.n1⟩
  obtain ⟨cur, hj'⟩ := h.row.cells j hj
  exact ne_ty hj' h.a (by decide) e
theorem Rl.both (h : Rl W w gz ga G a0 a1 v out) {gl : Nat} {x y l0 l1 : Int} (hl : w.heap[gl]? = some (rat l0 l1)) (hb : W.heap.size ≤ gl) (hz : gl ≠ gz) (hc : Chg w w' (fun k => k = gl ∨ k = ga)) (hg : w'.heap[ga]? = some (rat x y)) : Rl W w' gz ga G x y v out := by
  refine ⟨h.bel.trans (Chg.below hc h.bel.size (fun k e => by rcases e with e | e <;> rw [e] <;> first | exact hb | exact h.b1)), (hc.block gz (lt_of h.z) (fun e => by rcases e with e | e <;> first | exact hz e.symm | exact h.n1 e.symm)).trans h.z, hg, h.row.chg hc (fun j hj e => ?_), h.b1, h.n1⟩
  obtain ⟨cur, hj'⟩ := h.row.cells j hj
  rcases e with e | e
  · exact ne_ty hj' hl (by decide) e
  · exact ne_ty hj' h.a (by decide) e
/-- One piece more. -/
theorem Rl.grow (h : Rl W w gz ga G a0 a1 v out) {v' : Value} {out' : List S41} (hr : PRow w' W.heap.size v' out') (hg : w.grownBy w' v.ownBlock) : Rl W w' gz ga G a0 a1 v' out' := by
  have hk : ∀ {g : Nat} {cs : Array Value} {t : TypeId}, w.heap[g]? = some (.cells cs t (0, 0)) → t ≠ 41 → w'.heap[g]? = some (.cells cs t (0, 0)) := fun {g cs t} hx ht => by
    refine (hg.block g (lt_of hx) (fun e => ?_)).trans hx
    obtain ⟨cur, hj'⟩ := h.row.cells g e.symm
    exact ne_ty hx hj' ht rfl
  refine ⟨⟨hg.os.trans h.bel.os, hg.tape.trans h.bel.tape, hg.output.trans h.bel.output, Nat.le_trans h.bel.size hg.size, fun b hb => (hg.block b (Nat.lt_of_lt_of_le hb h.bel.size) (fun e => by have := h.row.base b e.symm; omega)).trans (h.bel.block b hb)⟩, hk h.z (by decide), hk h.a (by decide), hr, h.b1, h.n1⟩
end
/-- A piece made and put behind the row. -/
structure A9 (W : World) (B : Nat) (v : Value) (out : List S41) (x : S41) (b : Nat → Bool) (p : Nat) (v_ u_ : Value) (w' : World) : Prop where
  n : b 22 = false → Below W.heap.size W w'
  box : b 21 = true → b 22 = false → w'.heap[p]? = some (.cells (pcl x).toArray 41 (0, 0))
  y : b 22 = true → PRow w' B v_ (out ++ [x]) ∧ ∃ W1, Below W.heap.size W W1 ∧ W1.grownBy w' v.ownBlock
  e : b 23 = true → u_ = v_
section
variable {W w w' : World} {B p : Nat} {v v_ u_ : Value} {out : List S41} {x : S41} {b : Nat → Bool}
theorem A9.start : A9 W B v out x (fun _ => false) p v_ u_ W := ⟨fun _ => Below.refl _ _, fun h => (by cases h), fun h => (by cases h), fun h => (by cases h)⟩
theorem A9.low (h : A9 W B v out x b p v_ u_ w) (hb : Below w.heap.size w w') (i : Nat) (hi : (i != 21 && i != 22 && i != 23) = true) (h2 : b 22 = false) : A9 W B v out x (up b i) p v_ u_ w' := by
  simp only [Bool.and_eq_true, bne_iff_ne, ne_eq] at hi
  obtain ⟨⟨i1, i2⟩, i3⟩ := hi
  constructor
  · intro _; exact below_then (h.n h2) (h.n h2).size hb
  · rw [up_ne (Ne.symm i1), up_ne (Ne.symm i2)]; exact fun e e2 => keep_blk (h.box e e2) hb
  · rw [up_ne (Ne.symm i2), h2]; intro e; cases e
  · rw [up_ne (Ne.symm i3)]; exact h.e
end
/-- Two boxes written, each by its own operation. -/
structure A30 (W : World) (gl ga : Nat) (l0 l1 m0 m1 a0 a1 e0 e1 : Int) (b : Nat → Bool) (w' : World) : Prop where
  chg : Chg W w' (fun k => k = gl ∨ k = ga)
  l0 : b 4 = false → w'.heap[gl]? = some (rat l0 l1)
  l1 : b 4 = true → w'.heap[gl]? = some (rat m0 m1)
  a0 : b 5 = false → w'.heap[ga]? = some (rat a0 a1)
  a1 : b 5 = true → w'.heap[ga]? = some (rat e0 e1)
section
variable {W w w' : World} {gl ga : Nat} {l0 l1 m0 m1 a0 a1 e0 e1 : Int} {b : Nat → Bool}
theorem A30.start (h1 : W.heap[gl]? = some (rat l0 l1)) (h2 : W.heap[ga]? = some (rat a0 a1)) : A30 W gl ga l0 l1 m0 m1 a0 a1 e0 e1 (fun _ => false) W := ⟨Chg.refl _ _, fun _ => h1, fun h => (by cases h), fun _ => h2, fun h => (by cases h)⟩
theorem A30.low (h : A30 W gl ga l0 l1 m0 m1 a0 a1 e0 e1 b w) (hb : Below w.heap.size w w') (i : Nat) (hi : (i != 4 && i != 5) = true) : A30 W gl ga l0 l1 m0 m1 a0 a1 e0 e1 (up b i) w' := by
  simp only [Bool.and_eq_true, bne_iff_ne, ne_eq] at hi
  obtain ⟨i1, i2⟩ := hi
  constructor
  · exact h.chg.trans (Chg.of_below (S := fun _ => False) hb) (fun _ _ e => e.elim)
  · rw [up_ne (Ne.symm i1)]; exact fun e => keep_blk (h.l0 e) hb
  · rw [up_ne (Ne.symm i1)]; exact fun e => keep_blk (h.l1 e) hb
  · rw [up_ne (Ne.symm i2)]; exact fun e => keep_blk (h.a0 e) hb
  · rw [up_ne (Ne.symm i2)]; exact fun e => keep_blk (h.a1 e) hb
theorem setc (w : World) (g : Nat) (x y : Int) : w.setCells g 0 [.int .i64 x, .int .i64 y] = (w.setCell ⟨g, 0, none⟩ (.int .i64 x)).setCell ⟨g, 1, none⟩ (.int .i64 y) := rfl
theorem A30.s4 (h : A30 W gl ga l0 l1 m0 m1 a0 a1 e0 e1 b w) (h4 : b 4 = false) (hn : gl ≠ ga) : A30 W gl ga l0 l1 m0 m1 a0 a1 e0 e1 (up b 4) (w.setCells gl 0 [.int .i64 m0, .int .i64 m1]) := by
  rw [setc]
  obtain ⟨q1, q2⟩ := set_rat (x' := m0) (y' := m1) (h.l0 h4)
  constructor
  · exact h.chg.trans q2 (fun _ _ e => Or.inl e)
  · rw [up_self]; intro e; cases e
  · intro _; exact q1
  · rw [up_ne (by decide)]; exact fun e => chg_blk q2 (h.a0 e) hn.symm
  · rw [up_ne (by decide)]; exact fun e => chg_blk q2 (h.a1 e) hn.symm
theorem A30.s5 (h : A30 W gl ga l0 l1 m0 m1 a0 a1 e0 e1 b w) (h5 : b 5 = false) (hn : gl ≠ ga) : A30 W gl ga l0 l1 m0 m1 a0 a1 e0 e1 (up b 5) (w.setCells ga 0 [.int .i64 e0, .int .i64 e1]) := by
  rw [setc]
  obtain ⟨q1, q2⟩ := set_rat (x' := e0) (y' := e1) (h.a0 h5)
  constructor
  · exact h.chg.trans q2 (fun _ _ e => Or.inr e)
  · rw [up_ne (by decide)]; exact fun e => chg_blk q2 (h.l0 e) hn
  · rw [up_ne (by decide)]; exact fun e => chg_blk q2 (h.l1 e) hn
  · rw [up_self]; intro e; cases e
  · intro _; exact q1
end
/-- A sum's box written by the region's last operation. -/
structure A13 (W : World) (gs : Nat) (r0 r1 : Int) (b : Nat → Bool) (w' : World) : Prop where
  n : b 7 = false → Below W.heap.size W w'
  y : b 7 = true → Chg W w' (fun k => k = gs) ∧ w'.heap[gs]? = some (rat r0 r1)
section
variable {W w w' : World} {gs : Nat} {r0 r1 : Int} {b : Nat → Bool}
theorem A13.start : A13 W gs r0 r1 (fun _ => false) W := ⟨fun _ => Below.refl _ _, fun h => (by cases h)⟩
theorem A13.low (h : A13 W gs r0 r1 b w) (hb : Below w.heap.size w w') (i : Nat) (hi : (i != 7) = true) (h7 : b 7 = false) : A13 W gs r0 r1 (up b i) w' := by
  simp only [bne_iff_ne, ne_eq] at hi
  constructor
  · intro _; exact below_then (h.n h7) (h.n h7).size hb
  · rw [up_ne (Ne.symm hi), h7]; intro e; cases e
theorem A13.s7 (h : A13 W gs r0 r1 b w) (h7 : b 7 = false) {x y : Int} (hg : w.heap[gs]? = some (rat x y)) : A13 W gs r0 r1 (up b 7) (w.setCells gs 0 [.int .i64 r0, .int .i64 r1]) := by
  rw [setc]
  obtain ⟨q1, q2⟩ := set_rat (x' := r0) (y' := r1) hg
  constructor
  · rw [up_self]; intro e; cases e
  · intro _
    exact ⟨(Chg.of_below (S := fun k => k = gs) (h.n h7)).trans q2 (fun _ _ e => e), q1⟩
end
end Go.Proofs.Ytkgafogkeaaniaa.RlA
