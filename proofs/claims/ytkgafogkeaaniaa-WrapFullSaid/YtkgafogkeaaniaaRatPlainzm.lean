/- Plain facts on fractions in lowest terms; no program in sight. -/
namespace RaPlain
def red (n d : Int) : Int × Int := (n / (Int.gcd n d : Int), d / (Int.gcd n d : Int))
/-- In lowest terms. -/
structure R (x : Int × Int) : Prop where
  pos : 0 < x.2
  low : Int.gcd x.1 x.2 = 1
/-- x is n by d. -/
structure Q (x : Int × Int) (n d : Int) : Prop where
  r : R x
  pos : 0 < d
  eq : x.1 * d = n * x.2
theorem red_parts {n d : Int} (h : 0 < d) : ∃ g : Int, 0 < g ∧ n = g * (red n d).1 ∧ d = g * (red n d).2 ∧ g = (Int.gcd n d : Int) := by
  have hg : 0 < Int.gcd n d := Int.gcd_pos_of_ne_zero_right _ (by omega)
  exact ⟨(Int.gcd n d : Int), by omega, (Int.mul_ediv_cancel' (Int.gcd_dvd_left n d)).symm, (Int.mul_ediv_cancel' (Int.gcd_dvd_right n d)).symm, rfl⟩
theorem red_R {n d : Int} (h : 0 < d) : R (red n d) := by
  obtain ⟨g, h1, h2, h3, h4⟩ := red_parts (n := n) h
  refine ⟨?_, ?_⟩
  · by_cases hp : 0 < (red n d).2
    · exact hp
    · have : g * (red n d).2 ≤ 0 := Int.mul_nonpos_of_nonneg_of_nonpos (by omega) (by omega)
      omega
  · have h5 : Int.gcd n d = Int.gcd (g * (red n d).1) (g * (red n d).2) := by rw [← h2, ← h3]
    rw [Int.gcd_mul_left] at h5
    have h6 : g.natAbs = Int.gcd n d := by rw [h4]; rfl
    rw [h6] at h5
    have h7 : 0 < Int.gcd n d := by omega
    exact Nat.eq_of_mul_eq_mul_left h7 (by omega)
theorem red_Q {n d : Int} (h : 0 < d) : Q (red n d) n d := by
  obtain ⟨g, h1, h2, h3, h4⟩ := red_parts (n := n) h
  refine ⟨red_R h, h, ?_⟩
  have e1 : (red n d).1 * d = (red n d).1 * (g * (red n d).2) := by rw [← h3]
  have e2 : n * (red n d).2 = g * (red n d).1 * (red n d).2 := by rw [← h2]
  rw [e1, e2, ← Int.mul_assoc, Int.mul_comm (red n d).1 g]
theorem red_le {n d : Int} (h : 0 < d) : (red n d).2 ≤ d ∧ (red n d).1.natAbs ≤ n.natAbs := by
  obtain ⟨g, h1, h2, h3, h4⟩ := red_parts (n := n) h
  have hp := (red_R (n := n) h).pos
  generalize (red n d).1 = a at *
  generalize (red n d).2 = b at *
  have h5 : n.natAbs = g.natAbs * a.natAbs := by rw [h2, Int.natAbs_mul]
  have h6 : d.natAbs = g.natAbs * b.natAbs := by rw [h3, Int.natAbs_mul]
  have h7 := Nat.le_mul_of_pos_left a.natAbs (show 0 < g.natAbs by omega)
  have h8 := Nat.le_mul_of_pos_left b.natAbs (show 0 < g.natAbs by omega)
  omega
theorem low_of_eq {a b c d : Int} (hb : 0 < b) (hd : 0 < d) (h1 : Int.gcd a b = 1) (h2 : Int.gcd c d = 1) (h : a * d = c * b) : b = d := by
  have e : a.natAbs * d.natAbs = c.natAbs * b.natAbs := by rw [← Int.natAbs_mul, ← Int.natAbs_mul, h]
  have c1 : Nat.Coprime b.natAbs a.natAbs := by unfold Nat.Coprime; rw [Nat.gcd_comm]; exact h1
  have c2 : Nat.Coprime d.natAbs c.natAbs := by unfold Nat.Coprime; rw [Nat.gcd_comm]; exact h2
  have d1 : b.natAbs ∣ d.natAbs := c1.dvd_of_dvd_mul_left ⟨c.natAbs, by rw [e, Nat.mul_comm]⟩
  have d2 : d.natAbs ∣ b.natAbs := c2.dvd_of_dvd_mul_left ⟨a.natAbs, by rw [← e, Nat.mul_comm]⟩
  have := Nat.dvd_antisymm d1 d2
  omega
theorem R.unique {x y : Int × Int} (hx : R x) (hy : R y) (h : x.1 * y.2 = y.1 * x.2) : x = y := by
  have e := low_of_eq hx.pos hy.pos hx.low hy.low h
  have h2 : x.1 = y.1 := by
    rw [e] at h
    exact Int.eq_of_mul_eq_mul_right (by have := hy.pos; omega) h
  exact Prod.ext h2 e
/-- The same by other numbers. -/
theorem Q.move {x : Int × Int} {n d n' d' : Int} (h : Q x n d) (hd : 0 < d') (he : n * d' = n' * d) : Q x n' d' := by
  refine ⟨h.r, hd, ?_⟩
  have h1 := h.eq
  have h2 := h.pos
  have : d * (x.1 * d') = d * (n' * x.2) := by grind
  exact Int.eq_of_mul_eq_mul_left (by omega) this
theorem Q.unique {x y : Int × Int} {n d n' d' : Int} (hx : Q x n d) (hy : Q y n' d') (he : n * d' = n' * d) : x = y := by
  have h := hx.move hy.pos he
  refine R.unique hx.r hy.r ?_
  have h1 := h.eq
  have h2 := hy.eq
  have h3 := hy.pos
  have : d' * (x.1 * y.2) = d' * (y.1 * x.2) := by grind
  exact Int.eq_of_mul_eq_mul_left (by omega) this
theorem Q.add {x y : Int × Int} {n d m e : Int} (hx : Q x n d) (hy : Q y m e) : Q (red (x.1 * y.2 + y.1 * x.2) (x.2 * y.2)) (n * e + m * d) (d * e) := by
  have p1 : 0 < x.2 * y.2 := Int.mul_pos hx.r.pos hy.r.pos
  refine (red_Q p1).move (Int.mul_pos hx.pos hy.pos) ?_
  have h1 := hx.eq
  have h2 := hy.eq
  grind
theorem Q.sub {x y : Int × Int} {n d m e : Int} (hx : Q x n d) (hy : Q y m e) : Q (red (x.1 * y.2 - y.1 * x.2) (x.2 * y.2)) (n * e - m * d) (d * e) := by
  have p1 : 0 < x.2 * y.2 := Int.mul_pos hx.r.pos hy.r.pos
  refine (red_Q p1).move (Int.mul_pos hx.pos hy.pos) ?_
  have h1 := hx.eq
  have h2 := hy.eq
  grind
theorem Q.mul {x y : Int × Int} {n d m e : Int} (hx : Q x n d) (hy : Q y m e) : Q (red (x.1 * y.1) (x.2 * y.2)) (n * m) (d * e) := by
  have p1 : 0 < x.2 * y.2 := Int.mul_pos hx.r.pos hy.r.pos
  refine (red_Q p1).move (Int.mul_pos hx.pos hy.pos) ?_
  have h1 := hx.eq
  have h2 := hy.eq
  grind
/-- Which is less. -/
theorem Q.lt {x y : Int × Int} {n d m e : Int} (hx : Q x n d) (hy : Q y m e) : x.1 * y.2 < y.1 * x.2 ↔ n * e < m * d := by
  have p1 : 0 < x.2 * y.2 := Int.mul_pos hx.r.pos hy.r.pos
  have p2 : 0 < d * e := Int.mul_pos hx.pos hy.pos
  have h1 := hx.eq
  have h2 := hy.eq
  have h3 : (x.1 * y.2 - y.1 * x.2) * (d * e) = (n * e - m * d) * (x.2 * y.2) := by grind
  constructor
  · intro h
    have h4 : (n * e - m * d) * (x.2 * y.2) < 0 := by rw [← h3]; exact Int.mul_neg_of_neg_of_pos (by omega) p2
    by_cases h5 : n * e < m * d
    · exact h5
    · have := Int.mul_nonneg (show 0 ≤ n * e - m * d by omega) (show 0 ≤ x.2 * y.2 by omega)
      omega
  · intro h
    have h4 : (x.1 * y.2 - y.1 * x.2) * (d * e) < 0 := by rw [h3]; exact Int.mul_neg_of_neg_of_pos (by omega) p1
    by_cases h5 : x.1 * y.2 < y.1 * x.2
    · exact h5
    · have := Int.mul_nonneg (show 0 ≤ x.1 * y.2 - y.1 * x.2 by omega) (show 0 ≤ d * e by omega)
      omega
end RaPlain
