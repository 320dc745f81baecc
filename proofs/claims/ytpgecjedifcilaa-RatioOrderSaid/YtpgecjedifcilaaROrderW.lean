/- Package ratio: the walk of RatioOrder: it answers true. No condition but what the arguments' types say. -/
import Derived.Test.YtpgecjedifcilaaRaK
import Derived.Test.YtpgecjedifcilaaROrder
set_option linter.unusedVariables false
set_option linter.unusedSimpArgs false
namespace Go.Proofs.Ytpgecjedifcilaa.ROrderW
open Go.RowKit Go.Proofs.Ytpgecjedifcilaa.PR Go.Proofs.Ytpgecjedifcilaa.RaC Go.Proofs.Ytpgecjedifcilaa.RaK Go.Proofs.Ytpgecjedifcilaa.Kit WhPlain RaPlain
theorem is16 {x : Int} (h : (Lit.int .i16 x).wf = true) : -32768 ≤ x ∧ x ≤ 32767 := by
  have h1 : IntKind.i16.min = -32768 := by decide
  have h2 : IntKind.i16.max = 32767 := by decide
  simp only [Lit.wf, h1, h2, Bool.and_eq_true, decide_eq_true_eq] at h; omega
theorem walk (a0 a1 b0 b1 c0 c1 : Int) (w : World) (ha0 : (Lit.int .i16 a0).wf = true) (ha1 : (Lit.int .i16 a1).wf = true) (hb0 : (Lit.int .i16 b0).wf = true) (hb1 : (Lit.int .i16 b1).wf = true) (hc0 : (Lit.int .i16 c0).wf = true) (hc1 : (Lit.int .i16 c1).wf = true) :
    Calls Try.prog 3 #[.agg #[.int .i16 a0, .int .i16 a1], .agg #[.int .i16 b0, .int .i16 b1], .agg #[.int .i16 c0, .int .i16 c1]] w fun r w' => r = .returned (.bool true) ∧ Below w.heap.size w w' := by
  have za0 := is16 ha0
  have za1 := is16 ha1
  have zb0 := is16 hb0
  have zb1 := is16 hb1
  have zc0 := is16 hc0
  have zc1 := is16 hc1
  by_cases na : a1 = 0
  · exact ROrder.none_a a0 a1 b0 b1 c0 c1 w AwakeC (by simpa using na)
  by_cases nb : b1 = 0
  · exact ROrder.none_b a0 a1 b0 b1 c0 c1 w AwakeC (by simpa using na) (by simpa using nb)
  by_cases nc : c1 = 0
  · exact ROrder.none_c a0 a1 b0 b1 c0 c1 w AwakeC (by simpa using na) (by simpa using nb) (by simpa using nc)
  have sx := q_sm (n := a0) (b := 32768) (e := 32768) na (by omega) (by omega)
  have sy := q_sm (n := b0) (b := 32768) (e := 32768) nb (by omega) (by omega)
  have sz := q_sm (n := c0) (b := 32768) (e := 32768) nc (by omega) (by omega)
  have qx := q_Q (n := a0) na
  have qy := q_Q (n := b0) nb
  have qz := q_Q (n := c0) nc
  have cx := OfC (n := a0) (d := a1) (by unfold B0; omega) (by unfold B0; omega) na
  have cy := OfC (n := b0) (d := b1) (by unfold B0; omega) (by unfold B0; omega) nb
  have cz := OfC (n := c0) (d := c1) (by unfold B0; omega) (by unfold B0; omega) nc
  generalize q a0 a1 = x at *
  generalize q b0 b1 = y at *
  generalize q c0 c1 = z at *
  have cu := AddC sx sz (by decide) (by decide) (by decide) (by decide) (by decide) (by decide)
  have cv := AddC sy sz (by decide) (by decide) (by decide) (by decide) (by decide) (by decide)
  have fx := sx.fr (by decide) (by decide)
  have fy := sy.fr (by decide) (by decide)
  have fz := sz.fr (by decide) (by decide)
  have fu := (add_sm sx sz).fr (by decide) (by decide)
  have fv := (add_sm sy sz).fr (by decide) (by decide)
  have qu := Q.ad (Q.self sx.r) (Q.self sz.r)
  have qv := Q.ad (Q.self sy.r) (Q.self sz.r)
  generalize add x z = u at *
  generalize add y z = v at *
  have f0 : Fr ((0, 1) : Int × Int) := fr_of 0 1 (by decide) (by decide) (by unfold I; omega) (by unfold I; omega)
  have px := sx.r.pos
  have py := sy.r.pos
  have pz := sz.r.pos
  have e1 : cmp3 (u.1 * v.2) (v.1 * u.2) = cmp3 (x.1 * y.2) (y.1 * x.2) := by
    rw [RaK.Q.cmp qu qv]
    have key : (x.1 * z.2 + z.1 * x.2) * (y.2 * z.2) - (y.1 * z.2 + z.1 * y.2) * (x.2 * z.2) = (x.1 * y.2 - y.1 * x.2) * (z.2 * z.2) := by grind
    have pp : 0 < z.2 * z.2 := Int.mul_pos pz pz
    refine cmp3_lt ⟨fun h => ?_, fun h => ?_⟩ ⟨fun h => ?_, fun h => ?_⟩
    · by_cases g : x.1 * y.2 < y.1 * x.2
      · exact g
      · have := Int.mul_nonneg (show 0 ≤ x.1 * y.2 - y.1 * x.2 by omega) (show 0 ≤ z.2 * z.2 by omega)
        omega
    · have := Int.mul_neg_of_neg_of_pos (show x.1 * y.2 - y.1 * x.2 < 0 by omega) pp
      omega
    · by_cases g : y.1 * x.2 < x.1 * y.2
      · exact g
      · have := Int.mul_nonneg (show 0 ≤ -(x.1 * y.2 - y.1 * x.2) by omega) (show 0 ≤ z.2 * z.2 by omega)
        rw [Int.neg_mul] at this
        omega
    · have := Int.mul_pos (show 0 < x.1 * y.2 - y.1 * x.2 by omega) pp
      omega
  have e2 : cmp3 (u.1 * x.2) (x.1 * u.2) = cmp3 (z.1 * 1) (0 * z.2) := by
    rw [RaK.Q.cmp qu (Q.self sx.r)]
    have key : (x.1 * z.2 + z.1 * x.2) * x.2 - x.1 * (x.2 * z.2) = z.1 * (x.2 * x.2) := by grind
    have pp : 0 < x.2 * x.2 := Int.mul_pos px px
    rw [Int.mul_one, Int.zero_mul]
    refine cmp3_lt ⟨fun h => ?_, fun h => ?_⟩ ⟨fun h => ?_, fun h => ?_⟩
    · by_cases g : z.1 < 0
      · exact g
      · have := Int.mul_nonneg (show 0 ≤ z.1 by omega) (show 0 ≤ x.2 * x.2 by omega)
        omega
    · have := Int.mul_neg_of_neg_of_pos h pp
      omega
    · by_cases g : 0 < z.1
      · exact g
      · have := Int.mul_nonneg (show 0 ≤ -z.1 by omega) (show 0 ≤ x.2 * x.2 by omega)
        rw [Int.neg_mul] at this
        omega
    · have := Int.mul_pos h pp
      omega
  exact ROrder.core a0 a1 b0 b1 c0 c1 (cmp3 (x.1 * y.2) (y.1 * x.2)) (cmp3 (z.1 * 1) (0 * z.2)) u.1 u.2 v.1 v.2 x.1 x.2 y.1 y.2 z.1 z.2 w AwakeC cx cy cz cu cv (CmpC fx fy _ rfl) (CmpC fu fv _ e1) (CmpC fu fx _ e2) (CmpC (y := (0, 1)) fz f0 _ rfl)
    (by simpa using na) (by simpa using nb) (by simpa using nc) (by omega) (by omega) (by omega)
end Go.Proofs.Ytpgecjedifcilaa.ROrderW
