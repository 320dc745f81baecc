/- The reference's fractions in whole numbers over one denominator. No condition. -/
import Derived.Test.YtkgafogkeaaniaaWlXzm
import Derived.Test.YtkgafogkeaaniaaPWx7zm
import Derived.Test.YtkgafogkeaaniaaPWx8zm
set_option linter.unusedVariables false
set_option linter.unusedSimpArgs false
namespace Go.Proofs.Ytkgafogkeaaniaa.RfX
open Go.RowKit Go.Proofs.Ytkgafogkeaaniaa.PW Go.Proofs.YtkgafogkeaaniaaW.PrintWords Go.Proofs.Ytkgafogkeaaniaa.RwC Go.Proofs.Ytkgafogkeaaniaa.RwD WhPlain RaPlain Go.Proofs.Ytkgafogkeaaniaa.WlX
theorem mag_f {a : Int} (ha : I a) : evenhandedref1_magnitude.f a = some (a.natAbs : Int) := by
  unfold I at ha
  unfold evenhandedref1_magnitude.f
  split
  · rw [RwC.wr (x := a + 1) (by omega) (by omega), RwC.wr (by omega) (by omega), RwC.wu (x := -(a + 1)) (by omega) (by omega), RwC.wu (by omega) (by omega)]
    congr 1
    omega
  · rw [RwC.wu (by omega) (by omega)]
    congr 1
    omega
theorem prod_sg {a b : Int} (ha : a ≠ 0) (hb : b ≠ 0) : (if (decide (a < 0) != decide (b < 0)) = true then (-1 : Int) else 1) = sg (a * b) := by
  rw [← sg_mul]
  by_cases h1 : a < 0 <;> by_cases h2 : b < 0
  · rw [decide_eq_true h1, decide_eq_true h2, sg_lt h1, sg_lt h2]; rfl
  · rw [decide_eq_true h1, decide_eq_false h2, sg_lt h1, sg_gt (by omega)]; rfl
  · rw [decide_eq_false h1, decide_eq_true h2, sg_gt (by omega), sg_lt h2]; rfl
  · rw [decide_eq_false h1, decide_eq_false h2, sg_gt (by omega), sg_gt (by omega)]; rfl
theorem prod_f {a b : Int} (ha : I a) (hb : I b) (k : Nat) : evenhandedref1_product.f (k + 1) a b = some (sg (a * b), (((a * b).natAbs / 18446744073709551616 : Nat) : Int), (((a * b).natAbs % 18446744073709551616 : Nat) : Int)) := by
  have h1 := ha.abs; have h2 := hb.abs
  have hm := mul64_at a.natAbs b.natAbs (by omega) (by omega)
  unfold evenhandedref1_product.f
  by_cases h0 : a = 0
  · subst h0
    rw [if_pos rfl, evenhandedref1_product.j0, if_pos rfl, Int.zero_mul]
    rfl
  rw [if_neg h0, evenhandedref1_product.j0]
  by_cases h3 : b = 0
  · subst h3
    rw [if_pos (by rfl), Int.mul_zero]
    rfl
  rw [if_neg (by simp [h3]), mag_f ha, Option.bind_some, mag_f hb, Option.bind_some, hm, Option.bind_some, Int.natAbs_mul, ← prod_sg h0 h3]
  by_cases c : (decide (a < 0) != decide (b < 0)) = true
  · rw [if_pos c, if_pos c]
  · rw [if_neg c, if_neg c]
theorem cross_f {a b c d : Int} (ha : I a) (hb : I b) (hc : I c) (hd : I d) (k : Nat) : evenhandedref1_Cross.f (k + 1) a b c d = some (cmp3 (a * b) (c * d)) := by
  unfold evenhandedref1_Cross.f
  rw [prod_f ha hb, Option.bind_some, prod_f hc hd, Option.bind_some]
  simp only []
  generalize a * b = X
  generalize c * d = Y
  by_cases hs : sg X = sg Y
  · rw [if_pos hs]
    have hx := sg_range X
    have key := cmp3_lex X.natAbs Y.natAbs
    have hsg : sg X ≠ 0 → sg X * cmp3 (X.natAbs : Int) (Y.natAbs : Int) = cmp3 X Y := cmp3_signs hs
    have hz : sg X = 0 → cmp3 X Y = 0 := fun h => by
      have z1 : X = 0 := sg_zero h
      have z2 : Y = 0 := sg_zero (hs ▸ h)
      rw [z1, z2]; exact cmp3_eq rfl
    have fin : ∀ q : Int, cmp3 (X.natAbs : Int) (Y.natAbs : Int) = q → (q = -1 ∨ q = 0 ∨ q = 1) → cmp3 X Y = wrap64 (q * sg X) := fun q hq hq3 => by
      by_cases h0 : sg X = 0
      · rw [hz h0, h0, Int.mul_zero]; exact (RwC.wr (by omega) (by omega)).symm
      · rw [← hsg h0, hq, Int.mul_comm]
        rcases hx with h | h | h <;> rcases hq3 with rfl | rfl | rfl <;> rw [h] <;> exact (RwC.wr (by omega) (by omega)).symm
    generalize X.natAbs = m at *
    generalize Y.natAbs = n at *
    rcases Nat.lt_trichotomy (m / 18446744073709551616) (n / 18446744073709551616) with h | h | h
    · rw [if_pos (Int.ofNat_lt.2 h), evenhandedref1_Cross.j0, if_pos rfl, ← fin _ (cmp3_lt (by omega)) (by omega)]
    · rw [if_neg (by omega), if_pos (by omega), evenhandedref1_Cross.j0]
      rcases Nat.lt_trichotomy (m % 18446744073709551616) (n % 18446744073709551616) with g | g | g
      · rw [if_pos (decide_eq_true (Int.ofNat_lt.2 g)), ← fin _ (cmp3_lt (by omega)) (by omega)]
      · rw [if_neg (by simp; omega), if_pos (by omega), if_pos (by omega), ← fin _ (cmp3_eq (by omega)) (by omega)]
      · rw [if_neg (by simp; omega), if_pos (by omega), if_neg (by omega), ← fin _ (cmp3_gt (by omega)) (by omega)]
    · rw [if_neg (by omega), if_neg (by omega), evenhandedref1_Cross.j0, if_neg (by decide), if_neg (by omega), ← fin _ (cmp3_gt (by omega)) (by omega)]
  · rw [if_neg hs]
    have hc3 := cmp3_sgs hs
    by_cases hl : sg X < sg Y
    · rw [if_pos hl, ← hc3, cmp3_lt hl]
    · rw [if_neg hl, ← hc3, cmp3_gt (by omega)]
theorem refgcd_loop (n : Nat) : ∀ (m k : Nat), n < k → evenhandedref1_Gcd.l0 k m n = some (Nat.gcd m n : Int) := by
  induction n using Nat.strongRecOn with
  | _ n ih =>
    intro m k hk
    obtain ⟨k, rfl⟩ : ∃ j, k = j + 1 := ⟨k - 1, by omega⟩
    rw [evenhandedref1_Gcd.l0]
    by_cases h : n = 0
    · subst h; rw [if_pos Int.natCast_zero, Nat.gcd_zero_right]
    · rw [if_neg (by omega), show Int.tmod (m : Int) (n : Int) = ((m % n : Nat) : Int) from rfl, ih (m % n) (Nat.mod_lt _ (by omega)) n k (by have := Nat.mod_lt m (show n > 0 by omega); omega), gcd_step m n]
theorem mx_abs {a : Int} (h : a.natAbs ≤ 9223372036854775807) : mx a (wrap64 (-a)) = (a.natAbs : Int) := by
  unfold mx
  rw [RwC.wr (by omega) (by omega)]
  split <;> omega
theorem gcd_f {a b : Int} (ha : a.natAbs ≤ 9223372036854775807) (hb : b.natAbs ≤ 9223372036854775807) (k : Nat) (hk : 9223372036854775808 < k) : evenhandedref1_Gcd.f k a b = some (Int.gcd a b : Int) := by
  unfold evenhandedref1_Gcd.f
  rw [mx_abs ha, mx_abs hb, refgcd_loop _ _ _ (by omega)]
  rfl
theorem of_f {n d : Int} (hn : n.natAbs ≤ 9223372036854775807) (h0 : 0 < d) (hd : d ≤ 9223372036854775807) (k : Nat) (hk : 9223372036854775808 < k) : evenhandedref1_Of.f k n d = some ((red n d).1, (red n d).2) := by
  unfold evenhandedref1_Of.f
  rw [if_neg (by omega), gcd_f hn (by omega) k hk]
  simp only [Option.bind_some]
  have hg : 0 < Int.gcd n d := Int.gcd_pos_of_ne_zero_right _ (by omega)
  rw [if_neg (by omega)]
  have hl := red_le (n := n) h0
  have hp := (red_R (n := n) h0).pos
  have e1 : Int.tdiv n (Int.gcd n d : Int) = (red n d).1 := by
    unfold red
    exact Int.tdiv_eq_ediv_of_dvd (Int.gcd_dvd_left n d)
  have e2 : Int.tdiv d (Int.gcd n d : Int) = (red n d).2 := by
    unfold red
    exact Int.tdiv_eq_ediv_of_dvd (Int.gcd_dvd_right n d)
  rw [e1, e2, RwC.wr (by omega) (by omega), RwC.wr (by omega) (by omega)]
section
variable {M : Int} (hM : Mb M) {a b : Int}
include hM
theorem less_f (ha : Sm a) (hb : Sm b) (k : Nat) : evenhandedref1_Less.f (k + 1) (red a M).1 (red a M).2 (red b M).1 (red b M).2 = some (decide (a < b)) := by
  have f1 := fr hM ha
  have f2 := fr hM hb
  unfold evenhandedref1_Less.f
  rw [cross_f f1.i1 f2.i2 f2.i1 f1.i2, Option.bind_some, cmp_red hM]
  congr 1
  by_cases c : a < b
  · rw [cmp3_lt c, decide_eq_true c]; rfl
  · rw [decide_eq_false c]
    rcases Int.lt_or_eq_of_le (Int.not_lt.1 c) with h | h
    · rw [cmp3_gt h]; rfl
    · rw [cmp3_eq h.symm]; rfl
omit hM in
theorem neg_r : red (-a) M = (-(red a M).1, (red a M).2) := by
  unfold red
  rw [Int.neg_gcd, Int.neg_ediv_of_dvd (Int.gcd_dvd_left a M)]
omit hM in
theorem den_dvd : (red a M).2 ∣ M := ⟨(Int.gcd a M : Int), by unfold red; exact (Int.ediv_mul_cancel (Int.gcd_dvd_right a M)).symm⟩
/-- The least multiple of two denominators. -/
theorem lcm_parts {d e : Int} (hd : 0 < d) (he : 0 < e) (h1 : d ∣ M) (h2 : e ∣ M) : ∃ p q : Int, Int.tdiv d (Int.gcd d e : Int) = p ∧ Int.tdiv e (Int.gcd d e : Int) = q ∧ 0 < p ∧ 0 < q ∧ p ≤ d ∧ q ≤ e ∧ p * e = d * q ∧ 0 < p * e ∧ p * e ≤ M ∧ p * e ∣ M := by
  have hg : 0 < (Int.gcd d e : Int) := by
    have := Int.gcd_pos_of_ne_zero_left (a := d) e (by omega)
    omega
  have hp : 0 < Int.ediv d (Int.gcd d e : Int) := Int.ediv_pos_of_pos_of_dvd hd (by omega) (Int.gcd_dvd_left d e)
  have hq : 0 < Int.ediv e (Int.gcd d e : Int) := Int.ediv_pos_of_pos_of_dvd he (by omega) (Int.gcd_dvd_right d e)
  obtain ⟨p, hpd⟩ := Int.gcd_dvd_left d e
  obtain ⟨q, hqe⟩ := Int.gcd_dvd_right d e
  generalize hG : (Int.gcd d e : Int) = g at *
  have ep : Int.tdiv d g = p := by
    rw [hpd]; exact Int.mul_tdiv_cancel_left _ (by omega)
  have eq : Int.tdiv e g = q := by
    rw [hqe]; exact Int.mul_tdiv_cancel_left _ (by omega)
  have p0 : 0 < p := by
    rcases Int.lt_or_le 0 p with h | h
    · exact h
    · have : g * p ≤ 0 := Int.mul_nonpos_of_nonneg_of_nonpos (by omega) h
      omega
  have q0 : 0 < q := by
    rcases Int.lt_or_le 0 q with h | h
    · exact h
    · have : g * q ≤ 0 := Int.mul_nonpos_of_nonneg_of_nonpos (by omega) h
      omega
  have hdv : p * e ∣ M := by
    have hl : (Int.lcm d e : Int) ∣ M := by
      exact Int.coe_lcm_dvd h1 h2
    have e2 : (Int.lcm d e : Int) = p * e := by
      have e3 : (Int.gcd d e : Int) * (Int.lcm d e : Int) = ((d * e).natAbs : Int) := by
        rw [← Int.natCast_mul, Int.gcd_mul_lcm, Int.natAbs_mul]
      have e4 : ((d * e).natAbs : Int) = d * e := Int.natAbs_of_nonneg (Int.mul_nonneg (by omega) (by omega))
      rw [hG, e4] at e3
      have e5 : g * (Int.lcm d e : Int) = g * (p * e) := by rw [e3, ← Int.mul_assoc, ← hpd]
      exact Int.eq_of_mul_eq_mul_left (by omega) e5
    rw [e2] at hl
    exact hl
  have hpe : 0 < p * e := Int.mul_pos p0 he
  refine ⟨p, q, ep, eq, p0, q0, ?_, ?_, ?_, hpe, Int.le_of_dvd hM.pos hdv, hdv⟩
  · rw [hpd]; have := Int.mul_le_mul_of_nonneg_right (show 1 ≤ g by omega) (show 0 ≤ p by omega); omega
  · rw [hqe]; have := Int.mul_le_mul_of_nonneg_right (show 1 ≤ g by omega) (show 0 ≤ q by omega); omega
  · rw [hqe]; rw [show p * (g * q) = g * p * q by rw [← Int.mul_assoc, Int.mul_comm p g], ← hpd]
theorem part_le {x y a c : Int} (hc0 : 0 ≤ c) (hc : c ≤ M) (h : x * M = a * c) (ha : a.natAbs ≤ y) : x.natAbs ≤ y := by
  have hp := hM.pos
  have e := congrArg Int.natAbs h
  rw [Int.natAbs_mul, Int.natAbs_mul] at e
  have h1 : a.natAbs * c.natAbs ≤ a.natAbs * M.natAbs := Nat.mul_le_mul_left _ (by omega)
  rw [← e] at h1
  have h2 := Nat.le_of_mul_le_mul_right h1 (show 0 < M.natAbs by omega)
  omega
theorem plus_f (ha : a.natAbs ≤ 562949953421312) (hb : b.natAbs ≤ 562949953421312) (k : Nat) (hk : 9223372036854775808 < k) : evenhandedref1_Plus.f k (red a M).1 (red a M).2 (red b M).1 (red b M).2 = some ((red (a + b) M).1, (red (a + b) M).2) := by
  have q1 := (red_Q (n := a) hM.pos)
  have q2 := (red_Q (n := b) hM.pos)
  have hd := q1.r.pos
  have he := q2.r.pos
  have e1 := q1.eq
  have e2 := q2.eq
  have le1 := (red_le (n := a) hM.pos).1
  have le2 := (red_le (n := b) hM.pos).1
  have hMl := hM.le
  obtain ⟨p, q, ep, eq, p0, q0, pl, ql, hpq, hpe, hle, hdv⟩ := lcm_parts hM hd he (den_dvd (a := a)) (den_dvd (a := b))
  unfold evenhandedref1_Plus.f
  rw [gcd_f (by omega) (by omega) k hk, Option.bind_some]
  have hg : (Int.gcd (red a M).2 (red b M).2 : Int) ≠ 0 := by
    have := Int.gcd_pos_of_ne_zero_left (a := (red a M).2) (red b M).2 (by omega)
    omega
  rw [if_neg hg, ep, eq]
  generalize (red a M).1 = x1 at *
  generalize (red a M).2 = d at *
  generalize (red b M).1 = y1 at *
  generalize (red b M).2 = e at *
  have f1 : x1 * q * M = a * (p * e) := by rw [Int.mul_assoc, Int.mul_comm q M, ← Int.mul_assoc, e1, hpq, Int.mul_assoc]
  have f2 : y1 * p * M = b * (p * e) := by rw [Int.mul_assoc, Int.mul_comm p M, ← Int.mul_assoc, e2, Int.mul_assoc, Int.mul_comm e p]
  have b1 := part_le hM (y := 562949953421312) (by omega) hle f1 (by omega)
  have b2 := part_le hM (y := 562949953421312) (by omega) hle f2 (by omega)
  rw [RwC.wr (x := q) (by omega) (by omega), RwC.wr (x := p) (by omega) (by omega), RwC.wr (x := x1 * q) (by omega) (by omega), RwC.wr (x := y1 * p) (by omega) (by omega), RwC.wr (x := x1 * q + y1 * p) (by omega) (by omega), RwC.wr (x := p * e) (by omega) (by omega), of_f (by omega) hpe (by omega) k hk, Option.bind_some]
  have u : red (x1 * q + y1 * p) (p * e) = red (a + b) M := (red_Q (n := x1 * q + y1 * p) hpe).unique (red_Q (n := a + b) hM.pos) (by rw [Int.add_mul, f1, f2, ← Int.add_mul])
  rw [u]
theorem minus_f (ha : a.natAbs ≤ 562949953421312) (hb : b.natAbs ≤ 562949953421312) (k : Nat) (hk : 9223372036854775808 < k) : evenhandedref1_Minus.f k (red a M).1 (red a M).2 (red b M).1 (red b M).2 = some ((red (a - b) M).1, (red (a - b) M).2) := by
  have hl := (red_le (n := b) hM.pos).2
  have h := plus_f hM (a := a) (b := -b) ha (by omega) k hk
  rw [neg_r] at h
  unfold evenhandedref1_Minus.f
  rw [RwC.wr (by omega) (by omega), h, Option.bind_some, Int.sub_eq_add_neg]
end
end Go.Proofs.Ytkgafogkeaaniaa.RfX
