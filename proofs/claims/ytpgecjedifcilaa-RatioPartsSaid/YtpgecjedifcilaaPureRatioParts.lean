/- Package ratio: the plain statement of RatioParts. No condition. -/
import Derived.Test.YtpgecjedifcilaaRaC
import Derived.Test.YtpgecjedifcilaaPRx6
set_option linter.unusedVariables false
set_option linter.unusedSimpArgs false
namespace Go.Proofs.Ytpgecjedifcilaa.Pure
open Go.RowKit Go.Proofs.Ytpgecjedifcilaa.PR Go.Proofs.Ytpgecjedifcilaa.RaC Go.Proofs.YtpgecjedifcilaaW.PrintWords Go.Proofs.YtpgecjedifcilaaW.PrintLast WhPlain RaPlain
theorem is32 {x : Int} (h : (Lit.int .i32 x).wf = true) : -2147483648 ≤ x ∧ x < 2147483648 := by
  have h1 : IntKind.i32.min = -2147483648 := by decide
  have h2 : IntKind.i32.max = 2147483647 := by decide
  simp only [Lit.wf, h1, h2, Bool.and_eq_true, decide_eq_true_eq] at h; omega
theorem is16 {x : Int} (h : (Lit.int .i16 x).wf = true) : -32768 ≤ x ∧ x < 32768 := by
  have h1 : IntKind.i16.min = -32768 := by decide
  have h2 : IntKind.i16.max = 32767 := by decide
  simp only [Lit.wf, h1, h2, Bool.and_eq_true, decide_eq_true_eq] at h; omega
theorem Q_floor {x : Int × Int} {n d : Int} (h : Q x n d) : x.1 / x.2 = n / d ∧ (-x.1) / x.2 = (-n) / d := by
  have h1 := h.eq
  have hp := h.r.pos
  have hd := h.pos
  constructor
  · rw [← Int.mul_ediv_mul_of_pos_left x.1 x.2 hd, h1, Int.mul_comm x.2 d, Int.mul_ediv_mul_of_pos_left n d hp]
  · have h2 : (-x.1) * d = (-n) * x.2 := by rw [Int.neg_mul, Int.neg_mul, h1]
    rw [← Int.mul_ediv_mul_of_pos_left (-x.1) x.2 hd, h2, Int.mul_comm x.2 d, Int.mul_ediv_mul_of_pos_left (-n) d hp]
theorem fr_whole (n : Int) (h : I n) : Fr (n, 1) := fr_of n 1 (by decide) (Int.gcd_one_right n) h (by unfold I; omega)
theorem RatioParts : evenhandedlaw2_RatioParts.Pure := by
  intro a0 a1 a2 w0 w1 w2
  have b0 := is32 w0
  have b1 := is32 w1
  have b2 := is16 w2
  refine ⟨9223372036854775810, ?_⟩
  unfold evenhandedlaw2_RatioParts.f
  rw [rawake 9223372036854775809 (by omega)]
  simp only [Option.bind_some, if_true]
  by_cases h0 : a1 = 0
  · rw [if_pos h0]
  rw [if_neg h0, wr (x := a0) (by omega) (by omega), wr (x := a1) (by omega) (by omega), wr (x := a2) (by omega) (by omega)]
  rw [Of_at (n := a0) (d := a1) (by omega) (by omega) h0 _ (by omega)]
  simp only [Option.bind_some]
  generalize hN : (if a1 < 0 then -a0 else a0) = N
  have hNb : N.natAbs ≤ 2147483648 := by rw [← hN]; split <;> omega
  generalize hD : (a1.natAbs : Int) = D
  have hD0 : 0 < D := by omega
  have hD1 : D ≤ 2147483648 := by omega
  have fx : Fr (red N D) := red_fr hD0 (by omega) (by omega)
  have lx := red_le (n := N) hD0
  generalize red N D = x at *
  have px := fx.r.pos
  have fk := fr_whole a2 (by unfold I; omega)
  have m1 : (x.1 * 1).natAbs ≤ 2147483648 := by rw [Int.mul_one]; omega
  have m2 : (a2 * x.2).natAbs ≤ 32768 * 2147483648 := by rw [Int.natAbs_mul]; exact Nat.mul_le_mul (by omega) (by omega)
  rw [Add_at fx fk (by show (x.1 * 1).natAbs + (a2 * x.2).natAbs ≤ _; omega) (by show (x.2 * 1).natAbs ≤ _; rw [Int.mul_one]; omega) 9223372036854775809 (by omega)]
  simp only [Option.bind_some]
  have qy : Q (red (x.1 * 1 + a2 * x.2) (x.2 * 1)) (x.1 * 1 + a2 * x.2) (x.2 * 1) := red_Q (by rw [Int.mul_one]; exact px)
  have fy : Fr (red (x.1 * 1 + a2 * x.2) (x.2 * 1)) := red_fr (by rw [Int.mul_one]; exact px) (by omega) (by rw [Int.mul_one]; omega)
  have ly := red_le (n := x.1 * 1 + a2 * x.2) (d := x.2 * 1) (by rw [Int.mul_one]; exact px)
  generalize red (x.1 * 1 + a2 * x.2) (x.2 * 1) = y at *
  have qf := Q_floor qy
  rw [Int.mul_one, Int.mul_one] at qf
  have e1 : y.1 / y.2 = x.1 / x.2 + a2 := by rw [qf.1, Int.add_mul_ediv_right _ _ (by omega)]
  have e2 : (-y.1) / y.2 = (-x.1) / x.2 - a2 := by
    rw [qf.2, show -(x.1 + a2 * x.2) = -x.1 + (-a2) * x.2 by rw [Int.neg_mul]; omega, Int.add_mul_ediv_right _ _ (by omega)]; omega
  rw [Floor_is fx (by omega) 9223372036854775809 (by omega), Ceil_is fx (by omega) 9223372036854775809 (by omega)]
  simp only [Option.bind_some]
  rw [Floor_is fy (by omega) 9223372036854775809 (by omega), Ceil_is fy (by omega) 9223372036854775809 (by omega)]
  simp only [Option.bind_some, if_true]
  have g1 := Int.natAbs_ediv_le_natAbs x.1 x.2
  have g2 := Int.natAbs_ediv_le_natAbs (-x.1) x.2
  have k1 := Int.ediv_mul_le x.1 (show x.2 ≠ 0 by omega)
  have k2 := Int.lt_ediv_add_one_mul_self x.1 px
  have k3 := Int.ediv_mul_le (-x.1) (show x.2 ≠ 0 by omega)
  have k4 := Int.lt_ediv_add_one_mul_self (-x.1) px
  rw [e1, e2]
  generalize x.1 / x.2 = f at *
  generalize (-x.1) / x.2 = g at *
  rw [wr (x := f + a2) (by omega) (by omega), wr (x := -g + a2) (by omega) (by omega), if_pos rfl, if_pos (by omega)]
  have c1 := Cmp_at (fr_whole f (by unfold I; omega)) fx 9223372036854775810 (by omega)
  have c2 := Cmp_at (fr_whole (-g) (by unfold I; omega)) fx 9223372036854775810 (by omega)
  have c3 := Cmp_at (fr_whole (f + 1) (by unfold I; omega)) fx 9223372036854775810 (by omega)
  have c4 := Cmp_at (fr_whole (-g - 1) (by unfold I; omega)) fx 9223372036854775810 (by omega)
  simp only at c1 c2 c3 c4
  rw [c1, c2, wr (x := f + 1) (by omega) (by omega), wr (x := -g - 1) (by omega) (by omega), c3, c4]
  simp only [Option.bind_some, Int.mul_one]
  have t1 : ¬ x.1 < f * x.2 := by omega
  have t2 : x.1 < (f + 1) * x.2 := k2
  have t3 : ¬ -g * x.2 < x.1 := by rw [Int.neg_mul]; omega
  have t4 : (-g - 1) * x.2 < x.1 := by
    have : (-g - 1) * x.2 = -((g + 1) * x.2) := by rw [← Int.neg_mul]; congr 1; omega
    omega
  have u1 : cmp3 (f * x.2) x.1 ≤ 0 := by
    unfold cmp3
    split
    · omega
    · first | omega | (rw [if_neg t1]; omega)
  have u2 : cmp3 (-g * x.2) x.1 ≥ 0 := by unfold cmp3; rw [if_neg t3]; split <;> omega
  have u3 : cmp3 ((f + 1) * x.2) x.1 = 1 := by unfold cmp3; rw [if_neg (by omega), if_pos t2]
  have u4 : cmp3 ((-g - 1) * x.2) x.1 = -1 := by unfold cmp3; rw [if_pos t4]
  rw [if_pos u1, if_pos u2, u3, u4]
  rfl
end Go.Proofs.Ytpgecjedifcilaa.Pure
