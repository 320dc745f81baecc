/- Package ratio: RatioReckons holds. No condition. -/
import Derived.Test.YtpgecjedifcilaaRaT
import Derived.Test.YtpgecjedifcilaaRReck0
set_option linter.unusedVariables false
set_option linter.unusedSimpArgs false
namespace Go.Proofs.Ytpgecjedifcilaa.RReckW
open Go.RowKit Go.Proofs.Ytpgecjedifcilaa.PR Go.Proofs.Ytpgecjedifcilaa.RaC Go.Proofs.Ytpgecjedifcilaa.RaK Go.Proofs.Ytpgecjedifcilaa.RaR Go.Proofs.Ytpgecjedifcilaa.RaT Go.Proofs.Ytpgecjedifcilaa.Kit Go.Proofs.YtpgecjedifcilaaW.PrintWords Go.Proofs.YtpgecjedifcilaaW.PrintLast WhPlain RaPlain
theorem w64 {x : Int} (h1 : -9223372036854775808 ≤ x) (h2 : x < 9223372036854775808) : IntKind.i64.wrap x = x := Go.IntWalk.i64_in _ (by omega)
def K : Nat := 536870912
theorem small_yes {a : Int} (h : a.natAbs ≤ K) : evenhandedlaw2_small.f a = some true := by
  unfold K at h
  unfold evenhandedlaw2_small.f
  rw [if_pos (by omega), decide_eq_true (by omega)]
theorem small_no {a : Int} (h : ¬ a.natAbs ≤ K) : evenhandedlaw2_small.f a = some false := by
  unfold K at h
  unfold evenhandedlaw2_small.f
  by_cases h1 : a ≥ -536870912
  · rw [if_pos h1, decide_eq_false (by omega)]
  · rw [if_neg h1]
theorem q_pos {n d : Int} (h : 0 < d) : q n d = red n d := by
  have e1 : RaK.sg d n = n := by unfold RaK.sg; rw [if_neg (by omega)]
  have e2 : (d.natAbs : Int) = d := by omega
  unfold q; rw [e1, e2]
theorem part {x g p : Int} (h : x = g * p) (hg : 0 < g) : Int.tdiv x g = p ∧ p.natAbs ≤ x.natAbs := by
  subst h
  refine ⟨Int.mul_tdiv_cancel_left p (by omega), ?_⟩
  rw [Int.natAbs_mul]
  exact Nat.le_mul_of_pos_left _ (by omega)
theorem part_pos {x g p : Int} (h : x = g * p) (hg : 0 < g) (hx : 0 < x) : 0 < p := by
  rcases Int.lt_or_le 0 p with h1 | h1
  · exact h1
  · have := Int.mul_le_mul_of_nonneg_left h1 (by omega : (0 : Int) ≤ g)
    rw [Int.mul_zero] at this
    omega
theorem prod_le {p q : Int} {b d : Nat} (hp : p.natAbs ≤ b) (hq : q.natAbs ≤ d) : (p * q).natAbs ≤ b * d := by
  rw [Int.natAbs_mul]; exact Nat.mul_le_mul hp hq
set_option maxHeartbeats 2000000 in
theorem walk (a0 a1 b0 b1 : Int) (w : World) (_ : (Lit.int .i64 a0).wf = true) (_ : (Lit.int .i64 a1).wf = true) (_ : (Lit.int .i64 b0).wf = true) (_ : (Lit.int .i64 b1).wf = true) :
    Calls Try.prog 5 #[.agg #[.int .i64 a0, .int .i64 a1], .agg #[.int .i64 b0, .int .i64 b1]] w fun r w' => r = .returned (.bool true) ∧ Below w.heap.size w w' := by
  by_cases s1 : a0.natAbs ≤ K
  case neg => exact RReck0.big0 a0 a1 b0 b1 w AwakeC (SmallC (small_no s1))
  by_cases s2 : a1.natAbs ≤ K
  case neg => exact RReck0.big1 a0 a1 b0 b1 w AwakeC (SmallC (small_yes s1)) (SmallC (small_no s2))
  by_cases s3 : b0.natAbs ≤ K
  case neg => exact RReck0.big2 a0 a1 b0 b1 w AwakeC (SmallC (small_yes s1)) (SmallC (small_yes s2)) (SmallC (small_no s3))
  by_cases s4 : b1.natAbs ≤ K
  case neg => exact RReck0.big3 a0 a1 b0 b1 w AwakeC (SmallC (small_yes s1)) (SmallC (small_yes s2)) (SmallC (small_yes s3)) (SmallC (small_no s4))
  have S1 := fun w => SmallC (small_yes s1) w
  have S2 := fun w => SmallC (small_yes s2) w
  have S3 := fun w => SmallC (small_yes s3) w
  have S4 := fun w => SmallC (small_yes s4) w
  have kb : K ≤ B0 := by decide
  by_cases na : a1 = 0
  · subst na
    by_cases nb : b1 = 0
    · subst nb
      exact RReck0.none_tt a0 0 b0 0 0 0 0 0 2 2 w AwakeC S1 S2 S3 S4 OfZ OfZ (by decide) (by decide) (by decide) (by decide)
    · exact RReck0.none_tf a0 0 b0 b1 0 0 _ _ 2 0 w AwakeC S1 S2 S3 S4 OfZ (OfC (by omega) (by omega) nb) (by decide) (by simpa using nb) (by decide) (by decide)
  by_cases nb : b1 = 0
  · subst nb
    exact RReck0.none_ft a0 a1 b0 0 _ _ 0 0 0 2 w AwakeC S1 S2 S3 S4 (OfC (by omega) (by omega) na) OfZ (by simpa using na) (by decide) (by decide) (by decide)
  have sx := q_sm (n := a0) (d := a1) na s1 s2
  have sy := q_sm (n := b0) (d := b1) nb s3 s4
  have cx := fun w => OfC (n := a0) (d := a1) (by omega) (by omega) na w
  have cy := fun w => OfC (n := b0) (d := b1) (by omega) (by omega) nb w
  have rx := fun w => RefOfC (n := a0) (d := a1) (by omega) na (by omega) w
  have ry := fun w => RefOfC (n := b0) (d := b1) (by omega) nb (by omega) w
  generalize q a0 a1 = x at *
  generalize q b0 b1 = y at *
  have X := Q.self sx.r
  have Y := Q.self sy.r
  have px := sx.r.pos
  have py := sy.r.pos
  have hx1 := sx.hn
  have hx2 := sx.hd
  have hy1 := sy.hn
  have hy2 := sy.hd
  have fx := sx.fr kb kb
  have fy := sy.fr kb kb
  have hg : 0 < (Int.gcd x.1 y.2 : Int) := by have := Int.gcd_pos_of_ne_zero_right x.1 (by omega : y.2 ≠ 0); omega
  have hh : 0 < (Int.gcd y.1 x.2 : Int) := by have := Int.gcd_pos_of_ne_zero_right y.1 (by omega : x.2 ≠ 0); omega
  have g1 := fun w => GcdC (a := x.1) (b := y.2) (by omega) (by omega) w
  have g2 := fun w => GcdC (a := y.1) (b := x.2) (by omega) (by omega) w
  obtain ⟨p, hp⟩ := Int.gcd_dvd_left x.1 y.2
  obtain ⟨v, hv⟩ := Int.gcd_dvd_right x.1 y.2
  obtain ⟨q', hq⟩ := Int.gcd_dvd_left y.1 x.2
  obtain ⟨u, hu⟩ := Int.gcd_dvd_right y.1 x.2
  generalize (Int.gcd x.1 y.2 : Int) = g at *
  generalize (Int.gcd y.1 x.2 : Int) = h at *
  have tp := part hp hg
  have tv := part hv hg
  have tq := part hq hh
  have tu := part hu hh
  have pu := part_pos hu hh px
  have pv := part_pos hv hg py
  have pd : 0 < u * v := Int.mul_pos pu pv
  have bn := prod_le (p := p) (q := q') (b := K) (d := K) (by omega) (by omega)
  have bd := prod_le (p := u) (q := v) (b := K) (d := K) (by omega) (by omega)
  have kk : K * K ≤ B0 := by decide
  have em : q (p * q') (u * v) = mul x y := by
    rw [q_pos pd]
    refine Q.unique (red_Q pd) (Q.ml X Y) ?_
    rw [hp, hv, hq, hu]
    ac_rfl
  have ro := fun w => RefOfC (n := p * q') (d := u * v) (by omega) (by omega) (by omega) w
  rw [em] at ro
  have hcr : -1 ≤ cmp3 (x.1 * y.2) (y.1 * x.2) ∧ cmp3 (x.1 * y.2) (y.1 * x.2) ≤ 1 := by unfold cmp3; split <;> (try split) <;> omega
  have hsw := RaK.cmp3_swap (x.1 * y.2) (y.1 * x.2)
  have l1 := fun w => LessC (x := x) (y := y) (by omega) (by omega) (by omega) (by omega) _ rfl w
  have l2 := fun w => LessC (x := y) (y := x) (by omega) (by omega) (by omega) (by omega) _ rfl w
  have cm := fun w => CmpC fx fy _ rfl w
  have b2 : K * K + K * K ≤ B0 := by decide
  have ad := fun w => AddC sx sy b2 kk kb kb kb kb w
  have su := fun w => SubC sx sy b2 kk kb kb kb kb w
  have mu := fun w => MulC sx sy kk kk kb kb kb kb w
  have pl := fun w => PlusC sx sy b2 kk kb kb kb kb w
  have mi := fun w => MinusC sx sy b2 kk kb kb kb kb w
  have fl := fun w => FloorC fx (by unfold K at hx1; omega) w
  have ce := fun w => CeilC fx (by unfold K at hx1; omega) w
  have rf := fun w => RFloorC (x := x) (by omega) px (by omega) w
  have rc := fun w => RCeilC (x := x) (by omega) px (by omega) w
  unfold B0 at kk
  unfold K at hx1 hx2 hy1 hy2
  rw [hsw] at l2
  refine RReck0.core a0 a1 b0 b1 x.1 x.2 y.1 y.2 _ _ _ _ _ _ g h p q' u v (p * q') (u * v) _ _ _ _ _ w AwakeC S1 S2 S3 S4 cx cy rx ry ad su mu g1 g2 l1 l2 pl mi ro cm fl rf ce rc (by simpa using na) (by simpa using nb) (by omega) (by omega) tp.1 tq.1 tu.1 tv.1 (w64 (by omega) (by omega)) (w64 (by omega) (by omega)) (w64 (by omega) (by omega)) (w64 (by omega) (by omega)) (w64 (by omega) (by omega)) (w64 (by omega) (by omega)) ?_
  clear l1 l2 cm
  generalize cmp3 (x.1 * y.2) (y.1 * x.2) = c at *
  have h3 : c = -1 ∨ c = 0 ∨ c = 1 := by omega
  rcases h3 with rfl | rfl | rfl
  · exact .inl ⟨by decide, by decide, rfl⟩
  · exact .inr (.inl ⟨by decide, by decide, rfl⟩)
  · exact .inr (.inr ⟨by decide, by decide, rfl⟩)
end Go.Proofs.Ytpgecjedifcilaa.RReckW
