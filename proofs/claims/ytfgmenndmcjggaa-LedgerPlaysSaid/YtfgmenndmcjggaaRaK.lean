/- Package ratio: its contracts, of small fractions, as laws use them. No condition. -/
import Derived.Test.YtfgmenndmcjggaaRaC
import Derived.Test.YtfgmenndmcjggaaKit
set_option linter.unusedVariables false
set_option linter.unusedSimpArgs false
namespace Go.Proofs.Ytfgmenndmcjggaa.RaK
open Go.RowKit Go.Proofs.Ytfgmenndmcjggaa.PR Go.Proofs.Ytfgmenndmcjggaa.RaC Go.Proofs.Ytfgmenndmcjggaa.Kit WhPlain RaPlain
def B0 : Nat := 9223372036854775807
def sg (d n : Int) : Int := if d < 0 then -n else n
theorem sg_abs (d n : Int) : (sg d n).natAbs = n.natAbs := by unfold sg; split <;> omega
/-- n by d, in lowest terms. -/
def q (n d : Int) : Int × Int := red (sg d n) (d.natAbs : Int)
theorem q_Q {n d : Int} (h : d ≠ 0) : Q (q n d) (sg d n) (d.natAbs : Int) := red_Q (by omega)
theorem q_fr {n d : Int} (h : d ≠ 0) (hn : n.natAbs ≤ B0) (hd : d.natAbs ≤ B0) : Fr (q n d) := by
  unfold B0 at hn hd
  exact red_fr (by omega) (by rw [sg_abs]; exact hn) (by omega)
theorem q_le {n d : Int} (h : d ≠ 0) : (q n d).1.natAbs ≤ n.natAbs ∧ (q n d).2 ≤ d.natAbs ∧ 0 < (q n d).2 := by
  have := red_le (n := sg d n) (d := (d.natAbs : Int)) (by omega)
  rw [sg_abs] at this
  exact ⟨this.2, this.1, (red_R (n := sg d n) (d := (d.natAbs : Int)) (by omega)).pos⟩
theorem OfC {n d : Int} (hn : n.natAbs ≤ B0) (hd : d.natAbs ≤ B0) (h0 : d ≠ 0) (w : World) : Side (Calls Try.prog 33 #[.int .i64 n, .int .i64 d] w fun r w' => r = .returned (.tuple #[.agg #[.int .i64 (q n d).1, .int .i64 (q n d).2], .int .i64 0]) ∧ Below w.heap.size w w') :=
  ⟨ratio_Of.calls (d.natAbs + 1) n d _ _ _ w (Of_at hn hd h0 _ (by omega))⟩
def add (x y : Int × Int) : Int × Int := red (x.1 * y.2 + y.1 * x.2) (x.2 * y.2)
def sub (x y : Int × Int) : Int × Int := red (x.1 * y.2 - y.1 * x.2) (x.2 * y.2)
def mul (x y : Int × Int) : Int × Int := red (x.1 * y.1) (x.2 * y.2)
/-- Fractions whose parts are not beyond bounds. -/
structure Sm (x : Int × Int) (b d : Nat) : Prop where
  r : R x
  hn : x.1.natAbs ≤ b
  hd : x.2.natAbs ≤ d
theorem Sm.fr {x : Int × Int} {b d : Nat} (h : Sm x b d) (hb : b ≤ B0) (hd : d ≤ B0) : Fr x := by
  have := h.hn; have := h.hd
  unfold B0 at hb hd
  exact ⟨h.r, by unfold I; omega, by unfold I; omega⟩
theorem q_sm {n d : Int} {b e : Nat} (h : d ≠ 0) (hn : n.natAbs ≤ b) (hd : d.natAbs ≤ e) : Sm (q n d) b e := by
  have := q_le (n := n) h
  exact ⟨(q_Q h).r, by omega, by omega⟩
theorem two {x y : Int × Int} {b d b' d' : Nat} (hx : Sm x b d) (hy : Sm y b' d') : (x.1 * y.2).natAbs ≤ b * d' ∧ (y.1 * x.2).natAbs ≤ b' * d ∧ (x.2 * y.2).natAbs ≤ d * d' ∧ (x.1 * y.1).natAbs ≤ b * b' := by
  rw [Int.natAbs_mul, Int.natAbs_mul, Int.natAbs_mul, Int.natAbs_mul]
  exact ⟨Nat.mul_le_mul hx.hn hy.hd, Nat.mul_le_mul hy.hn hx.hd, Nat.mul_le_mul hx.hd hy.hd, Nat.mul_le_mul hx.hn hy.hn⟩
theorem add_sm {x y : Int × Int} {b d b' d' : Nat} (hx : Sm x b d) (hy : Sm y b' d') : Sm (add x y) (b * d' + b' * d) (d * d') := by
  have p2 : 0 < x.2 * y.2 := Int.mul_pos hx.r.pos hy.r.pos
  have ht := two hx hy
  have hl := red_le (n := x.1 * y.2 + y.1 * x.2) p2
  have hp := (red_R (n := x.1 * y.2 + y.1 * x.2) p2).pos
  exact ⟨red_R p2, by unfold add; omega, by unfold add; omega⟩
theorem sub_sm {x y : Int × Int} {b d b' d' : Nat} (hx : Sm x b d) (hy : Sm y b' d') : Sm (sub x y) (b * d' + b' * d) (d * d') := by
  have p2 : 0 < x.2 * y.2 := Int.mul_pos hx.r.pos hy.r.pos
  have ht := two hx hy
  have hl := red_le (n := x.1 * y.2 - y.1 * x.2) p2
  have hp := (red_R (n := x.1 * y.2 - y.1 * x.2) p2).pos
  exact ⟨red_R p2, by unfold sub; omega, by unfold sub; omega⟩
theorem mul_sm {x y : Int × Int} {b d b' d' : Nat} (hx : Sm x b d) (hy : Sm y b' d') : Sm (mul x y) (b * b') (d * d') := by
  have p2 : 0 < x.2 * y.2 := Int.mul_pos hx.r.pos hy.r.pos
  have ht := two hx hy
  have hl := red_le (n := x.1 * y.1) p2
  have hp := (red_R (n := x.1 * y.1) p2).pos
  exact ⟨red_R p2, by unfold mul; omega, by unfold mul; omega⟩
theorem AddC {x y : Int × Int} {b d b' d' : Nat} (hx : Sm x b d) (hy : Sm y b' d') (h1 : b * d' + b' * d ≤ B0) (h2 : d * d' ≤ B0) (l1 : b ≤ B0) (l2 : d ≤ B0) (l3 : b' ≤ B0) (l4 : d' ≤ B0) (w : World) :
    Side (Calls Try.prog 22 #[.agg #[.int .i64 x.1, .int .i64 x.2], .agg #[.int .i64 y.1, .int .i64 y.2]] w fun r w' => r = .returned (.tuple #[.agg #[.int .i64 (add x y).1, .int .i64 (add x y).2], .int .i64 0]) ∧ Below w.heap.size w w') := by
  have ht := two hx hy
  unfold B0 at h1 h2
  exact ⟨ratio_Add.calls _ _ _ _ _ _ _ _ w (Add_at (hx.fr l1 l2) (hy.fr l3 l4) (by omega) (by omega) 9223372036854775809 (by omega))⟩
theorem SubC {x y : Int × Int} {b d b' d' : Nat} (hx : Sm x b d) (hy : Sm y b' d') (h1 : b * d' + b' * d ≤ B0) (h2 : d * d' ≤ B0) (l1 : b ≤ B0) (l2 : d ≤ B0) (l3 : b' ≤ B0) (l4 : d' ≤ B0) (w : World) :
    Side (Calls Try.prog 26 #[.agg #[.int .i64 x.1, .int .i64 x.2], .agg #[.int .i64 y.1, .int .i64 y.2]] w fun r w' => r = .returned (.tuple #[.agg #[.int .i64 (sub x y).1, .int .i64 (sub x y).2], .int .i64 0]) ∧ Below w.heap.size w w') := by
  have ht := two hx hy
  unfold B0 at h1 h2
  exact ⟨ratio_Sub.calls _ _ _ _ _ _ _ _ w (Sub_at (hx.fr l1 l2) (hy.fr l3 l4) (by omega) (by omega) 9223372036854775809 (by omega))⟩
theorem CmpC {x y : Int × Int} (hx : Fr x) (hy : Fr y) (c : Int) (hc : cmp3 (x.1 * y.2) (y.1 * x.2) = c) (w : World) :
    Side (Calls Try.prog 24 #[.agg #[.int .i64 x.1, .int .i64 x.2], .agg #[.int .i64 y.1, .int .i64 y.2]] w fun r w' => r = .returned (.int .i64 c) ∧ Below w.heap.size w w') :=
  ⟨ratio_Cmp.calls _ _ _ _ _ _ w ((Cmp_at hx hy 9223372036854775809 (by omega)).trans (by rw [hc]))⟩
theorem MayC {x : Int × Int} (hx : Fr x) (w : World) : Side (Calls Try.prog 29 #[.agg #[.int .i64 x.1, .int .i64 x.2]] w fun r w' => r = .returned (.bool true) ∧ Below w.heap.size w w') :=
  ⟨ratio_May.calls _ _ _ _ w (hx.may 9223372036854775809 (by omega))⟩
theorem Q.ad {x y : Int × Int} {n d m e : Int} (hx : Q x n d) (hy : Q y m e) : Q (add x y) (n * e + m * d) (d * e) := hx.add hy
theorem Q.sb {x y : Int × Int} {n d m e : Int} (hx : Q x n d) (hy : Q y m e) : Q (sub x y) (n * e - m * d) (d * e) := hx.sub hy
theorem Q.ml {x y : Int × Int} {n d m e : Int} (hx : Q x n d) (hy : Q y m e) : Q (mul x y) (n * m) (d * e) := hx.mul hy
theorem cmp3_lt {a b c d : Int} (h1 : a < b ↔ c < d) (h2 : b < a ↔ d < c) : cmp3 a b = cmp3 c d := by
  unfold cmp3
  by_cases h : a < b
  · rw [if_pos h, if_pos (h1.1 h)]
  · rw [if_neg h, if_neg (fun h' => h (h1.2 h'))]
    by_cases h' : b < a
    · rw [if_pos h', if_pos (h2.1 h')]
    · rw [if_neg h', if_neg (fun h'' => h' (h2.2 h''))]
theorem Q.cmp {x y : Int × Int} {n d m e : Int} (hx : Q x n d) (hy : Q y m e) : cmp3 (x.1 * y.2) (y.1 * x.2) = cmp3 (n * e) (m * d) := cmp3_lt (hx.lt hy) (hy.lt hx)
theorem cmp3_swap (a b : Int) : cmp3 b a = -cmp3 a b := by
  unfold cmp3
  by_cases h : a < b
  · rw [if_pos h, if_neg (by omega), if_pos h]; rfl
  · by_cases h' : b < a
    · simp [h, h']
    · simp [h, h']
end Go.Proofs.Ytfgmenndmcjggaa.RaK
