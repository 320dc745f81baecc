/- Plain facts on fractions in lowest terms; no program in sight.; Plain facts on whole numbers: products, quotients rounded both ways, what divides both; no program in sight. -/
section
namespace RaPlain
def red (n d : Int) : Int × Int := (n / (Int.gcd n d : Int), d / (Int.gcd n d : Int))
/-- In lowest terms. -/
structure R (x : Int × Int) : Prop where
  pos : 0 < x.2
  low : Int.gcd x.1 x.2 = 1
/-- x is n by d. -/
structure Q (x : Int × Int) (n d : Int) : Prop where
  r : R x
  pos : 0 < d
  eq : x.1 * d = n * x.2
theorem red_parts {n d : Int} (h : 0 < d) : ∃ g : Int, 0 < g ∧ n = g * (red n d).1 ∧ d = g * (red n d).2 ∧ g = (Int.gcd n d : Int) := by
  have hg : 0 < Int.gcd n d := Int.gcd_pos_of_ne_zero_right _ (by omega)
  exact ⟨(Int.gcd n d : Int), by omega, (Int.mul_ediv_cancel' (Int.gcd_dvd_left n d)).symm, (Int.mul_ediv_cancel' (Int.gcd_dvd_right n d)).symm, rfl⟩
theorem red_R {n d : Int} (h : 0 < d) : R (red n d) := by
  obtain ⟨g, h1, h2, h3, h4⟩ := red_parts (n := n) h
  refine ⟨?_, ?_⟩
  · by_cases hp : 0 < (red n d).2
    · exact hp
    · have : g * (red n d).2 ≤ 0 := Int.mul_nonpos_of_nonneg_of_nonpos (by omega) (by omega)
      omega
  · have h5 : Int.gcd n d = Int.gcd (g * (red n d).1) (g * (red n d).2) := by rw [← h2, ← h3]
    rw [Int.gcd_mul_left] at h5
    have h6 : g.natAbs = Int.gcd n d := by rw [h4]; rfl
    rw [h6] at h5
    have h7 : 0 < Int.gcd n d := by omega
    exact Nat.eq_of_mul_eq_mul_left h7 (by omega)
theorem red_Q {n d : Int} (h : 0 < d) : Q (red n d) n d := by
  obtain ⟨g, h1, h2, h3, h4⟩ := red_parts (n := n) h
  refine ⟨red_R h, h, ?_⟩
  have e1 : (red n d).1 * d = (red n d).1 * (g * (red n d).2) := by rw [← h3]
  have e2 : n * (red n d).2 = g * (red n d).1 * (red n d).2 := by rw [← h2]
  rw [e1, e2, ← Int.mul_assoc, Int.mul_comm (red n d).1 g]
theorem red_le {n d : Int} (h : 0 < d) : (red n d).2 ≤ d ∧ (red n d).1.natAbs ≤ n.natAbs := by
  obtain ⟨g, h1, h2, h3, h4⟩ := red_parts (n := n) h
  have hp := (red_R (n := n) h).pos
  generalize (red n d).1 = a at *
  generalize (red n d).2 = b at *
  have h5 : n.natAbs = g.natAbs * a.natAbs := by rw [h2, Int.natAbs_mul]
  have h6 : d.natAbs = g.natAbs * b.natAbs := by rw [h3, Int.natAbs_mul]
  have h7 := Nat.le_mul_of_pos_left a.natAbs (show 0 < g.natAbs by omega)
  have h8 := Nat.le_mul_of_pos_left b.natAbs (show 0 < g.natAbs by omega)
  omega
theorem low_of_eq {a b c d : Int} (hb : 0 < b) (hd : 0 < d) (h1 : Int.gcd a b = 1) (h2 : Int.gcd c d = 1) (h : a * d = c * b) : b = d := by
  have e : a.natAbs * d.natAbs = c.natAbs * b.natAbs := by rw [← Int.natAbs_mul, ← Int.natAbs_mul, h]
  have c1 : Nat.Coprime b.natAbs a.natAbs := by unfold Nat.Coprime; rw [Nat.gcd_comm]; exact h1
  have c2 : Nat.Coprime d.natAbs c.natAbs := by unfold Nat.Coprime; rw [Nat.gcd_comm]; exact h2
  have d1 : b.natAbs ∣ d.natAbs := c1.dvd_of_dvd_mul_left ⟨c.natAbs, by rw [e, Nat.mul_comm]⟩
  have d2 : d.natAbs ∣ b.natAbs := c2.dvd_of_dvd_mul_left ⟨a.natAbs, by rw [← e, Nat.mul_comm]⟩
  have := Nat.dvd_antisymm d1 d2
  omega
theorem R.unique {x y : Int × Int} (hx : R x) (hy : R y) (h : x.1 * y.2 = y.1 * x.2) : x = y := by
  have e := low_of_eq hx.pos hy.pos hx.low hy.low h
  have h2 : x.1 = y.1 := by
    rw [e] at h
    exact Int.eq_of_mul_eq_mul_right (by have := hy.pos; omega) h
  exact Prod.ext h2 e
theorem Q.self {x : Int × Int} (h : R x) : Q x x.1 x.2 := ⟨h, h.pos, rfl⟩
/-- The same by other numbers. -/
theorem Q.move {x : Int × Int} {n d n' d' : Int} (h : Q x n d) (hd : 0 < d') (he : n * d' = n' * d) : Q x n' d' := by
  refine ⟨h.r, hd, ?_⟩
  have h1 := h.eq
  have h2 := h.pos
  have : d * (x.1 * d') = d * (n' * x.2) := by grind
  exact Int.eq_of_mul_eq_mul_left (by omega) this
theorem Q.unique {x y : Int × Int} {n d n' d' : Int} (hx : Q x n d) (hy : Q y n' d') (he : n * d' = n' * d) : x = y := by
  have h := hx.move hy.pos he
  refine R.unique hx.r hy.r ?_
  have h1 := h.eq
  have h2 := hy.eq
  have h3 := hy.pos
  have : d' * (x.1 * y.2) = d' * (y.1 * x.2) := by grind
  exact Int.eq_of_mul_eq_mul_left (by omega) this
theorem Q.add {x y : Int × Int} {n d m e : Int} (hx : Q x n d) (hy : Q y m e) : Q (red (x.1 * y.2 + y.1 * x.2) (x.2 * y.2)) (n * e + m * d) (d * e) := by
  have p1 : 0 < x.2 * y.2 := Int.mul_pos hx.r.pos hy.r.pos
  refine (red_Q p1).move (Int.mul_pos hx.pos hy.pos) ?_
  have h1 := hx.eq
  have h2 := hy.eq
  grind
theorem Q.sub {x y : Int × Int} {n d m e : Int} (hx : Q x n d) (hy : Q y m e) : Q (red (x.1 * y.2 - y.1 * x.2) (x.2 * y.2)) (n * e - m * d) (d * e) := by
  have p1 : 0 < x.2 * y.2 := Int.mul_pos hx.r.pos hy.r.pos
  refine (red_Q p1).move (Int.mul_pos hx.pos hy.pos) ?_
  have h1 := hx.eq
  have h2 := hy.eq
  grind
theorem Q.mul {x y : Int × Int} {n d m e : Int} (hx : Q x n d) (hy : Q y m e) : Q (red (x.1 * y.1) (x.2 * y.2)) (n * m) (d * e) := by
  have p1 : 0 < x.2 * y.2 := Int.mul_pos hx.r.pos hy.r.pos
  refine (red_Q p1).move (Int.mul_pos hx.pos hy.pos) ?_
  have h1 := hx.eq
  have h2 := hy.eq
  grind
/-- Which is less. -/
theorem Q.lt {x y : Int × Int} {n d m e : Int} (hx : Q x n d) (hy : Q y m e) : x.1 * y.2 < y.1 * x.2 ↔ n * e < m * d := by
  have p1 : 0 < x.2 * y.2 := Int.mul_pos hx.r.pos hy.r.pos
  have p2 : 0 < d * e := Int.mul_pos hx.pos hy.pos
  have h1 := hx.eq
  have h2 := hy.eq
  have h3 : (x.1 * y.2 - y.1 * x.2) * (d * e) = (n * e - m * d) * (x.2 * y.2) := by grind
  constructor
  · intro h
    have h4 : (n * e - m * d) * (x.2 * y.2) < 0 := by rw [← h3]; exact Int.mul_neg_of_neg_of_pos (by omega) p2
    by_cases h5 : n * e < m * d
    · exact h5
    · have := Int.mul_nonneg (show 0 ≤ n * e - m * d by omega) (show 0 ≤ x.2 * y.2 by omega)
      omega
  · intro h
    have h4 : (x.1 * y.2 - y.1 * x.2) * (d * e) < 0 := by rw [h3]; exact Int.mul_neg_of_neg_of_pos (by omega) p1
    by_cases h5 : x.1 * y.2 < y.1 * x.2
    · exact h5
    · have := Int.mul_nonneg (show 0 ≤ x.1 * y.2 - y.1 * x.2 by omega) (show 0 ≤ d * e by omega)
      omega
end RaPlain
end
section
namespace WhPlain
def cmp3 (x y : Int) : Int := if x < y then -1 else if y < x then 1 else 0
def G (a b : Int) : Int := if (Int.gcd a b : Int) > 9223372036854775807 then 0 else (Int.gcd a b : Int)
def sg (a : Int) : Int := if a < 0 then -1 else if 0 < a then 1 else 0

theorem gcd_step (m n : Nat) : Nat.gcd m n = Nat.gcd n (m % n) := by
  rw [Nat.gcd_comm m n, Nat.gcd_rec n m, Nat.gcd_comm]
theorem sg_mul (a b : Int) : sg a * sg b = sg (a * b) := by
  unfold sg
  rcases Int.lt_trichotomy a 0 with ha | ha | ha <;> rcases Int.lt_trichotomy b 0 with hb | hb | hb
  · rw [if_pos ha, if_pos hb]; have := Int.mul_pos_of_neg_of_neg ha hb; rw [if_neg (by omega), if_pos this]; rfl
  · subst hb; simp
  · rw [if_pos ha, if_neg (by omega), if_pos hb]; have := Int.mul_neg_of_neg_of_pos ha hb; rw [if_pos this]; rfl
  · subst ha; simp
  · subst ha; simp
  · subst ha; simp
  · rw [if_neg (by omega), if_pos ha, if_pos hb]; have := Int.mul_neg_of_pos_of_neg ha hb; rw [if_pos this]; rfl
  · subst hb; simp
  · rw [if_neg (by omega), if_pos ha, if_neg (by omega), if_pos hb]; have := Int.mul_pos ha hb; rw [if_neg (by omega), if_pos this]; rfl
theorem cmp3_lt {x y : Int} (h : x < y) : cmp3 x y = -1 := if_pos h
theorem cmp3_gt {x y : Int} (h : y < x) : cmp3 x y = 1 := by unfold cmp3; rw [if_neg (by omega), if_pos h]
theorem cmp3_eq {x y : Int} (h : x = y) : cmp3 x y = 0 := by unfold cmp3; rw [if_neg (by omega), if_neg (by omega)]
theorem sg_lt {x : Int} (h : x < 0) : sg x = -1 := if_pos h
theorem sg_gt {x : Int} (h : 0 < x) : sg x = 1 := by unfold sg; rw [if_neg (by omega), if_pos h]
theorem sg_0 {x : Int} (h : x = 0) : sg x = 0 := by unfold sg; rw [if_neg (by omega), if_neg (by omega)]
theorem cmp3_range (x y : Int) : cmp3 x y = -1 ∨ cmp3 x y = 0 ∨ cmp3 x y = 1 := by
  rcases Int.lt_trichotomy x y with h | h | h
  · exact .inl (cmp3_lt h)
  · exact .inr (.inl (cmp3_eq h))
  · exact .inr (.inr (cmp3_gt h))
theorem sg_range (a : Int) : sg a = -1 ∨ sg a = 0 ∨ sg a = 1 := by
  rcases Int.lt_trichotomy a 0 with h | h | h
  · exact .inl (sg_lt h)
  · exact .inr (.inl (sg_0 h))
  · exact .inr (.inr (sg_gt h))
theorem cmp3_sg (a : Int) : cmp3 a 0 = sg a := by
  rcases Int.lt_trichotomy a 0 with h | h | h
  · rw [cmp3_lt h, sg_lt h]
  · rw [cmp3_eq h, sg_0 h]
  · rw [cmp3_gt h, sg_gt h]
theorem cmp3_lex (m n : Nat) : (if cmp3 ((m / 18446744073709551616 : Nat) : Int) ((n / 18446744073709551616 : Nat) : Int) = 0 then cmp3 ((m % 18446744073709551616 : Nat) : Int) ((n % 18446744073709551616 : Nat) : Int) else cmp3 ((m / 18446744073709551616 : Nat) : Int) ((n / 18446744073709551616 : Nat) : Int)) = cmp3 (m : Int) (n : Int) := by
  rcases Nat.lt_trichotomy (m / 18446744073709551616) (n / 18446744073709551616) with h | h | h
  · rw [cmp3_lt (Int.ofNat_lt.2 h), if_neg (by decide), cmp3_lt (by omega)]
  · rw [cmp3_eq (congrArg (Nat.cast : Nat → Int) h), if_pos rfl]
    rcases Nat.lt_trichotomy (m % 18446744073709551616) (n % 18446744073709551616) with g | g | g
    · rw [cmp3_lt (Int.ofNat_lt.2 g), cmp3_lt (by omega)]
    · rw [cmp3_eq (congrArg (Nat.cast : Nat → Int) g), cmp3_eq (by omega)]
    · rw [cmp3_gt (Int.ofNat_lt.2 g), cmp3_gt (by omega)]
  · rw [cmp3_gt (Int.ofNat_lt.2 h), if_neg (by decide), cmp3_gt (by omega)]
theorem cmp3_signs {X Y : Int} (hs : sg X = sg Y) (h0 : sg X ≠ 0) : sg X * cmp3 (X.natAbs : Int) (Y.natAbs : Int) = cmp3 X Y := by
  rcases Int.lt_trichotomy X 0 with hx | hx | hx <;> rcases Int.lt_trichotomy Y 0 with hy | hy | hy
  · rw [sg_lt hx]
    rcases Int.lt_trichotomy X Y with h | h | h
    · rw [cmp3_lt h, cmp3_gt (by omega)]; rfl
    · rw [cmp3_eq h, cmp3_eq (by omega)]; rfl
    · rw [cmp3_gt h, cmp3_lt (by omega)]; rfl
  · rw [sg_lt hx, sg_0 hy] at hs; omega
  · rw [sg_lt hx, sg_gt hy] at hs; omega
  · exact absurd (sg_0 hx) h0
  · exact absurd (sg_0 hx) h0
  · exact absurd (sg_0 hx) h0
  · rw [sg_gt hx, sg_lt hy] at hs; omega
  · rw [sg_gt hx, sg_0 hy] at hs; omega
  · rw [sg_gt hx]
    rcases Int.lt_trichotomy X Y with h | h | h
    · rw [cmp3_lt h, cmp3_lt (by omega)]; rfl
    · rw [cmp3_eq h, cmp3_eq (by omega)]; rfl
    · rw [cmp3_gt h, cmp3_gt (by omega)]; rfl
theorem cmp3_sgs {X Y : Int} (hs : sg X ≠ sg Y) : cmp3 (sg X) (sg Y) = cmp3 X Y := by
  rcases Int.lt_trichotomy X 0 with hx | hx | hx <;> rcases Int.lt_trichotomy Y 0 with hy | hy | hy
  · rw [sg_lt hx, sg_lt hy] at hs; exact absurd rfl hs
  · rw [sg_lt hx, sg_0 hy, cmp3_lt (by omega), cmp3_lt (by omega)]
  · rw [sg_lt hx, sg_gt hy, cmp3_lt (by omega), cmp3_lt (by omega)]
  · rw [sg_0 hx, sg_lt hy, cmp3_gt (by omega), cmp3_gt (by omega)]
  · rw [sg_0 hx, sg_0 hy] at hs; exact absurd rfl hs
  · rw [sg_0 hx, sg_gt hy, cmp3_lt (by omega), cmp3_lt (by omega)]
  · rw [sg_gt hx, sg_lt hy, cmp3_gt (by omega), cmp3_gt (by omega)]
  · rw [sg_gt hx, sg_0 hy, cmp3_gt (by omega), cmp3_gt (by omega)]
  · rw [sg_gt hx, sg_gt hy] at hs; exact absurd rfl hs
theorem sg_zero {X : Int} (h : sg X = 0) : X = 0 := by
  rcases Int.lt_trichotomy X 0 with hx | hx | hx
  · rw [sg_lt hx] at h; omega
  · exact hx
  · rw [sg_gt hx] at h; omega
end WhPlain
end
