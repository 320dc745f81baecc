/- Plain facts on whole numbers: products, quotients rounded both ways, what divides both; no program in sight. -/
namespace WhPlain
def cmp3 (x y : Int) : Int := if x < y then -1 else if y < x then 1 else 0
def G (a b : Int) : Int := if (Int.gcd a b : Int) > 9223372036854775807 then 0 else (Int.gcd a b : Int)
def sg (a : Int) : Int := if a < 0 then -1 else if 0 < a then 1 else 0

theorem gcd_step (m n : Nat) : Nat.gcd m n = Nat.gcd n (m % n) := by
  rw [Nat.gcd_comm m n, Nat.gcd_rec n m, Nat.gcd_comm]
theorem sg_mul (a b : Int) : sg a * sg b = sg (a * b) := by
  unfold sg
  rcases Int.lt_trichotomy a 0 with ha | ha | ha <;> rcases Int.lt_trichotomy b 0 with hb | hb | hb
  · rw [if_pos ha, if_pos hb]; have := Int.mul_pos_of_neg_of_neg ha hb; rw [if_neg (by omega), if_pos this]; rfl
  · subst hb; simp
  · rw [if_pos ha, if_neg (by omega), if_pos hb]; have := Int.mul_neg_of_neg_of_pos ha hb; rw [if_pos this]; rfl
  · subst ha; simp
  · subst ha; simp
  · subst ha; simp
  · rw [if_neg (by omega), if_pos ha, if_pos hb]; have := Int.mul_neg_of_pos_of_neg ha hb; rw [if_pos this]; rfl
  · subst hb; simp
  · rw [if_neg (by omega), if_pos ha, if_neg (by omega), if_pos hb]; have := Int.mul_pos ha hb; rw [if_neg (by omega), if_pos this]; rfl
theorem cmp3_lt {x y : Int} (h : x < y) : cmp3 x y = -1 := if_pos h
theorem cmp3_gt {x y : Int} (h : y < x) : cmp3 x y = 1 := by unfold cmp3; rw [if_neg (by omega), if_pos h]
theorem cmp3_eq {x y : Int} (h : x = y) : cmp3 x y = 0 := by unfold cmp3; rw [if_neg (by omega), if_neg (by omega)]
theorem sg_lt {x : Int} (h : x < 0) : sg x = -1 := if_pos h
theorem sg_gt {x : Int} (h : 0 < x) : sg x = 1 := by unfold sg; rw [if_neg (by omega), if_pos h]
theorem sg_0 {x : Int} (h : x = 0) : sg x = 0 := by unfold sg; rw [if_neg (by omega), if_neg (by omega)]
theorem cmp3_range (x y : Int) : cmp3 x y = -1 ∨ cmp3 x y = 0 ∨ cmp3 x y = 1 := by
  rcases Int.lt_trichotomy x y with h | h | h
  · exact .inl (cmp3_lt h)
  · exact .inr (.inl (cmp3_eq h))
  · exact .inr (.inr (cmp3_gt h))
theorem sg_range (a : Int) : sg a = -1 ∨ sg a = 0 ∨ sg a = 1 := by
  rcases Int.lt_trichotomy a 0 with h | h | h
  · exact .inl (sg_lt h)
  · exact .inr (.inl (sg_0 h))
  · exact .inr (.inr (sg_gt h))
theorem cmp3_sg (a : Int) : cmp3 a 0 = sg a := by
  rcases Int.lt_trichotomy a 0 with h | h | h
  · rw [cmp3_lt h, sg_lt h]
  · rw [cmp3_eq h, sg_0 h]
  · rw [cmp3_gt h, sg_gt h]
theorem cmp3_lex (m n : Nat) : (if cmp3 ((m / 18446744073709551616 : Nat) : Int) ((n / 18446744073709551616 : Nat) : Int) = 0 then cmp3 ((m % 18446744073709551616 : Nat) : Int) ((n % 18446744073709551616 : Nat) : Int) else cmp3 ((m / 18446744073709551616 : Nat) : Int) ((n / 18446744073709551616 : Nat) : Int)) = cmp3 (m : Int) (n : Int) := by
  rcases Nat.lt_trichotomy (m / 18446744073709551616) (n / 18446744073709551616) with h | h | h
  · rw [cmp3_lt (Int.ofNat_lt.2 h), if_neg (by decide), cmp3_lt (by omega)]
  · rw [cmp3_eq (congrArg (Nat.cast : Nat → Int) h), if_pos rfl]
    rcases Nat.lt_trichotomy (m % 18446744073709551616) (n % 18446744073709551616) with g | g | g
    · rw [cmp3_lt (Int.ofNat_lt.2 g), cmp3_lt (by omega)]
    · rw [cmp3_eq (congrArg (Nat.cast : Nat → Int) g), cmp3_eq (by omega)]
    · rw [cmp3_gt (Int.ofNat_lt.2 g), cmp3_gt (by omega)]
  · rw [cmp3_gt (Int.ofNat_lt.2 h), if_neg (by decide), cmp3_gt (by omega)]
theorem cmp3_signs {X Y : Int} (hs : sg X = sg Y) (h0 : sg X ≠ 0) : sg X * cmp3 (X.natAbs : Int) (Y.natAbs : Int) = cmp3 X Y := by
  rcases Int.lt_trichotomy X 0 with hx | hx | hx <;> rcases Int.lt_trichotomy Y 0 with hy | hy | hy
  · rw [sg_lt hx]
    rcases Int.lt_trichotomy X Y with h | h | h
    · rw [cmp3_lt h, cmp3_gt (by omega)]; rfl
    · rw [cmp3_eq h, cmp3_eq (by omega)]; rfl
    · rw [cmp3_gt h, cmp3_lt (by omega)]; rfl
  · rw [sg_lt hx, sg_0 hy] at hs; omega
  · rw [sg_lt hx, sg_gt hy] at hs; omega
  · exact absurd (sg_0 hx) h0
  · exact absurd (sg_0 hx) h0
  · exact absurd (sg_0 hx) h0
  · rw [sg_gt hx, sg_lt hy] at hs; omega
  · rw [sg_gt hx, sg_0 hy] at hs; omega
  · rw [sg_gt hx]
    rcases Int.lt_trichotomy X Y with h | h | h
    · rw [cmp3_lt h, cmp3_lt (by omega)]; rfl
    · rw [cmp3_eq h, cmp3_eq (by omega)]; rfl
    · rw [cmp3_gt h, cmp3_gt (by omega)]; rfl
theorem cmp3_sgs {X Y : Int} (hs : sg X ≠ sg Y) : cmp3 (sg X) (sg Y) = cmp3 X Y := by
  rcases Int.lt_trichotomy X 0 with hx | hx | hx <;> rcases Int.lt_trichotomy Y 0 with hy | hy | hy
  · rw [sg_lt hx, sg_lt hy] at hs; exact absurd rfl hs
  · rw [sg_lt hx, sg_0 hy, cmp3_lt (by omega), cmp3_lt (by omega)]
  · rw [sg_lt hx, sg_gt hy, cmp3_lt (by omega), cmp3_lt (by omega)]
  · rw [sg_0 hx, sg_lt hy, cmp3_gt (by omega), cmp3_gt (by omega)]
  · rw [sg_0 hx, sg_0 hy] at hs; exact absurd rfl hs
  · rw [sg_0 hx, sg_gt hy, cmp3_lt (by omega), cmp3_lt (by omega)]
  · rw [sg_gt hx, sg_lt hy, cmp3_gt (by omega), cmp3_gt (by omega)]
  · rw [sg_gt hx, sg_0 hy, cmp3_gt (by omega), cmp3_gt (by omega)]
  · rw [sg_gt hx, sg_gt hy] at hs; exact absurd rfl hs
theorem sg_zero {X : Int} (h : sg X = 0) : X = 0 := by
  rcases Int.lt_trichotomy X 0 with hx | hx | hx
  · rw [sg_lt hx] at h; omega
  · exact hx
  · rw [sg_gt hx] at h; omega
end WhPlain
