/- Package ratio: the walk of RatioLaws: it answers true. No condition but what the arguments' types say. -/
import Derived.Test.YtpgecjedifcilaaRaK
import Derived.Test.YtpgecjedifcilaaRLaws
set_option linter.unusedVariables false
set_option linter.unusedSimpArgs false
namespace Go.Proofs.Ytpgecjedifcilaa.RLawsW
open Go.RowKit Go.Proofs.Ytpgecjedifcilaa.PR Go.Proofs.Ytpgecjedifcilaa.RaC Go.Proofs.Ytpgecjedifcilaa.RaK Go.Proofs.Ytpgecjedifcilaa.Kit WhPlain RaPlain
theorem is8 {x : Int} (h : (Lit.int .i8 x).wf = true) : -128 ≤ x ∧ x ≤ 127 := by
  have h1 : IntKind.i8.min = -128 := by decide
  have h2 : IntKind.i8.max = 127 := by decide
  simp only [Lit.wf, h1, h2, Bool.and_eq_true, decide_eq_true_eq] at h; omega
theorem w64 {x : Int} (h1 : -9223372036854775808 ≤ x) (h2 : x < 9223372036854775808) : IntKind.i64.wrap x = x := Go.IntWalk.i64_in _ (by omega)
/-- Rounded up less rounded down. -/
theorem step_one {x : Int × Int} (h : R x) : -((-x.1) / x.2) - x.1 / x.2 = if x.2 - 1 < 1 then x.2 - 1 else 1 := by
  have hp := h.pos
  have k1 := Int.ediv_mul_le x.1 (show x.2 ≠ 0 by omega)
  have k2 := Int.lt_ediv_add_one_mul_self x.1 hp
  have k3 := Int.ediv_mul_le (-x.1) (show x.2 ≠ 0 by omega)
  have k4 := Int.lt_ediv_add_one_mul_self (-x.1) hp
  by_cases h1 : x.2 = 1
  · rw [h1]; simp
  · rw [if_neg (by omega)]
    have hnd : ¬ x.2 ∣ x.1 := by
      intro hd
      have h2 := Int.dvd_coe_gcd hd (Int.dvd_refl x.2)
      rw [h.low] at h2
      have := Int.le_of_dvd (by decide) h2
      omega
    have e : x.1 = x.1 / x.2 * x.2 + x.1 % x.2 := by have := Int.ediv_mul_add_emod x.1 x.2; omega
    have hm0 : x.1 % x.2 ≠ 0 := fun h0 => hnd (Int.dvd_of_emod_eq_zero h0)
    have hm1 := Int.emod_nonneg x.1 (show x.2 ≠ 0 by omega)
    have hlt : x.1 / x.2 * x.2 < x.1 := by omega
    generalize x.1 / x.2 = f at *
    generalize (-x.1) / x.2 = g at *
    have hu : -g ≤ f + 1 := by
      by_cases hc : -g ≤ f + 1
      · exact hc
      · have h5 : (f + 1) * x.2 ≤ (-g - 1) * x.2 := Int.mul_le_mul_of_nonneg_right (by omega) (by omega)
        have h6 : (-g - 1) * x.2 = -((g + 1) * x.2) := by rw [← Int.neg_mul]; congr 1; omega
        omega
    have hl : f < -g := by
      by_cases hc : f < -g
      · exact hc
      · have h5 : -g * x.2 ≤ f * x.2 := Int.mul_le_mul_of_nonneg_right (by omega) (by omega)
        rw [Int.neg_mul] at h5
        omega
    omega
theorem walk (a0 a1 b0 b1 c0 c1 : Int) (w : World) (ha0 : (Lit.int .i8 a0).wf = true) (ha1 : (Lit.int .i8 a1).wf = true) (hb0 : (Lit.int .i8 b0).wf = true) (hb1 : (Lit.int .i8 b1).wf = true) (hc0 : (Lit.int .i8 c0).wf = true) (hc1 : (Lit.int .i8 c1).wf = true) :
    Calls Try.prog 8 #[.agg #[.int .i8 a0, .int .i8 a1], .agg #[.int .i8 b0, .int .i8 b1], .agg #[.int .i8 c0, .int .i8 c1]] w fun r w' => r = .returned (.bool true) ∧ Below w.heap.size w w' := by
  have za0 := is8 ha0
  have za1 := is8 ha1
  have zb0 := is8 hb0
  have zb1 := is8 hb1
  have zc0 := is8 hc0
  have zc1 := is8 hc1
  by_cases na : a1 = 0
  · exact RLaws.none_a a0 a1 b0 b1 c0 c1 w AwakeC (by simpa using na)
  by_cases nb : b1 = 0
  · exact RLaws.none_b a0 a1 b0 b1 c0 c1 w AwakeC (by simpa using na) (by simpa using nb)
  by_cases nc : c1 = 0
  · exact RLaws.none_c a0 a1 b0 b1 c0 c1 w AwakeC (by simpa using na) (by simpa using nb) (by simpa using nc)
  have sx := q_sm (n := a0) (b := 128) (e := 128) na (by omega) (by omega)
  have sy := q_sm (n := b0) (b := 128) (e := 128) nb (by omega) (by omega)
  have sz := q_sm (n := c0) (b := 128) (e := 128) nc (by omega) (by omega)
  have cx := OfC (n := a0) (d := a1) (by unfold B0; omega) (by unfold B0; omega) na
  have cy := OfC (n := b0) (d := b1) (by unfold B0; omega) (by unfold B0; omega) nb
  have cz := OfC (n := c0) (d := c1) (by unfold B0; omega) (by unfold B0; omega) nc
  generalize q a0 a1 = x at *
  generalize q b0 b1 = y at *
  generalize q c0 c1 = z at *
  have X := Q.self sx.r
  have Y := Q.self sy.r
  have Z := Q.self sz.r
  have e1 : add y x = add x y := Q.unique (Q.ad Y X) (Q.ad X Y) (by grind)
  have e2 : add x (add y z) = add (add x y) z := Q.unique (Q.ad X (Q.ad Y Z)) (Q.ad (Q.ad X Y) Z) (by grind)
  have e3 : sub (add x y) y = x := Q.unique (Q.sb (Q.ad X Y) Y) X (by grind)
  have e4 : add (mul x y) (mul x z) = mul x (add y z) := Q.unique (Q.ad (Q.ml X Y) (Q.ml X Z)) (Q.ml X (Q.ad Y Z)) (by grind)
  have c4 := AddC sx sy (by decide) (by decide) (by decide) (by decide) (by decide) (by decide)
  have c5 := AddC sy sx (by decide) (by decide) (by decide) (by decide) (by decide) (by decide)
  have c6 := AddC (add_sm sx sy) sz (by decide) (by decide) (by decide) (by decide) (by decide) (by decide)
  have c7 := AddC sy sz (by decide) (by decide) (by decide) (by decide) (by decide) (by decide)
  have c8 := AddC sx (add_sm sy sz) (by decide) (by decide) (by decide) (by decide) (by decide) (by decide)
  have c9 := SubC (add_sm sx sy) sy (by decide) (by decide) (by decide) (by decide) (by decide) (by decide)
  have c10 := MulC sx (add_sm sy sz) (by decide) (by decide) (by decide) (by decide) (by decide) (by decide)
  have c11 := MulC sx sy (by decide) (by decide) (by decide) (by decide) (by decide) (by decide)
  have c12 := MulC sx sz (by decide) (by decide) (by decide) (by decide) (by decide) (by decide)
  have c13 := AddC (mul_sm sx sy) (mul_sm sx sz) (by decide) (by decide) (by decide) (by decide) (by decide) (by decide)
  rw [e1] at c5
  rw [e2] at c8
  rw [e3] at c9
  rw [e4] at c13
  have fx := sx.fr (by decide) (by decide)
  have fy := sy.fr (by decide) (by decide)
  have fp := (mul_sm sx (add_sm sy sz)).fr (by decide) (by decide)
  have hx := sx.hn
  have hx2 := sx.hd
  have px := sx.r.pos
  have hfl := Int.natAbs_ediv_le_natAbs x.1 x.2
  have hce := Int.natAbs_ediv_le_natAbs (-x.1) x.2
  have s1 := step_one sx.r
  have hcr : -1 ≤ cmp3 (x.1 * y.2) (y.1 * x.2) ∧ cmp3 (x.1 * y.2) (y.1 * x.2) ≤ 1 := by unfold cmp3; split <;> (try split) <;> omega
  exact RLaws.core a0 a1 b0 b1 c0 c1 (add x y).1 (add x y).2 (add y z).1 (add y z).2 (x.1 / x.2) (if x.2 - 1 < 1 then x.2 - 1 else 1) (-((-x.1) / x.2)) (x.2 - 1) (mul x y).1 (mul x y).2 (-cmp3 (x.1 * y.2) (y.1 * x.2)) (mul x (add y z)).1 (mul x (add y z)).2 (cmp3 (x.1 * y.2) (y.1 * x.2)) (mul x z).1 (mul x z).2 (add (add x y) z).1 (add (add x y) z).2 x.1 x.2 y.1 y.2 z.1 z.2 w
    AwakeC cx cy cz c4 c5 c6 c7 c8 c9 c10 c11 c12 c13 (CmpC fx fy _ rfl) (CmpC fy fx _ (RaK.cmp3_swap _ _)) (MayC fp) (CeilC fx (by omega)) (FloorC fx (by omega))
    (by simpa using na) (by simpa using nb) (by simpa using nc) (by omega) (by omega) (by omega)
    (by rw [w64 (by omega) (by omega)]; omega) (by rw [w64 (by omega) (by omega), s1]) (w64 (by omega) (by omega)) rfl
end Go.Proofs.Ytpgecjedifcilaa.RLawsW
