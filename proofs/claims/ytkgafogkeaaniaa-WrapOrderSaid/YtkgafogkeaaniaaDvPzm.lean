/- Division of a number of two words, in plain words; no program in sight. -/
set_option linter.unusedVariables false
namespace DvPlain
/-- One half: what the quotient's guess q and its rest r stand for. -/
structure Hs (u d y1 y0 q r : Nat) : Prop where
  eq : q * y1 + r = u
  ge : (u * 4294967296 + d) / (y1 * 4294967296 + y0) ≤ q
section
variable {u d y1 y0 q r : Nat}
theorem split (q y1 y0 : Nat) : q * (y1 * 4294967296 + y0) = q * y1 * 4294967296 + q * y0 := by rw [Nat.mul_add, Nat.mul_assoc]
theorem Hs.start (hy : 0 < y1) (hd : d < 4294967296) : Hs u d y1 y0 (u / y1) (u % y1) := by
  refine ⟨by rw [Nat.mul_comm]; exact Nat.div_add_mod u y1, ?_⟩
  have h1 : (u * 4294967296 + d) / (y1 * 4294967296 + y0) ≤ (u * 4294967296 + d) / (y1 * 4294967296) := Nat.div_le_div_left (by omega) (Nat.mul_pos hy (by decide))
  have h2 : (u * 4294967296 + d) / (y1 * 4294967296) = u / y1 := by
    rw [Nat.mul_comm y1, ← Nat.div_div_eq_div_mul]
    congr 1
    omega
  omega
/-- The test says that the guess is too great. -/
theorem Hs.more (h : Hs u d y1 y0 q r) (hu : u < y1 * 4294967296 + y0) (hd : d < 4294967296) (ht : 4294967296 ≤ q ∨ 4294967296 * r + d < q * y0) : (u * 4294967296 + d) / (y1 * 4294967296 + y0) < q := by
  have hy : 0 < y1 * 4294967296 + y0 := by omega
  rw [Nat.div_lt_iff_lt_mul hy]
  rcases ht with h1 | h1
  · have h2 : 4294967296 * (y1 * 4294967296 + y0) ≤ q * (y1 * 4294967296 + y0) := Nat.mul_le_mul_right _ h1
    omega
  · rw [split]
    have := h.eq
    generalize q * y1 = P at *
    generalize q * y0 = T at *
    omega
theorem Hs.step (h : Hs u d y1 y0 q r) (hq : (u * 4294967296 + d) / (y1 * 4294967296 + y0) < q) : Hs u d y1 y0 (q - 1) (r + y1) := by
  refine ⟨?_, by omega⟩
  obtain ⟨p, rfl⟩ : ∃ p, q = p + 1 := ⟨q - 1, by have := Nat.pos_of_ne_zero (show q ≠ 0 by rintro rfl; exact absurd hq (Nat.not_lt_zero _)); omega⟩
  have := h.eq
  rw [Nat.add_mul, Nat.one_mul] at this
  rw [Nat.add_sub_cancel]
  omega
/-- The test says that the guess is right. -/
theorem Hs.fin (h : Hs u d y1 y0 q r) (hy : 0 < y1) (ht : q * y0 ≤ 4294967296 * r + d) : q = (u * 4294967296 + d) / (y1 * 4294967296 + y0) := by
  refine Nat.le_antisymm ?_ h.ge
  rw [Nat.le_div_iff_mul_le (by omega), split]
  have := h.eq
  generalize q * y1 = P at *
  generalize q * y0 = T at *
  omega
/-- The rest is a word already: the guess is right. -/
theorem Hs.brk (h : Hs u d y1 y0 q r) (hu : u < y1 * 4294967296 + y0) (hy : 0 < y1) (hy0 : y0 < 4294967296) (hr : 4294967296 ≤ r) : q = (u * 4294967296 + d) / (y1 * 4294967296 + y0) := by
  have hq : q < 4294967296 := by
    rcases Nat.lt_or_ge q 4294967296 with c | c
    · exact c
    · exfalso
      have h1 : 4294967296 * y1 ≤ q * y1 := Nat.mul_le_mul_right _ c
      have := h.eq
      omega
  refine h.fin hy ?_
  have h1 : q * y0 ≤ 4294967295 * 4294967295 := Nat.mul_le_mul (by omega) (by omega)
  omega
theorem Hs.le (h : Hs u d y1 y0 q r) (hy : 0 < y1) : q ≤ u ∧ r ≤ u := by
  have := h.eq
  have := Nat.le_mul_of_pos_right q hy
  omega
end
/-- Both halves. -/
theorem halves (U L1 L0 y : Nat) (hy : 0 < y) (h0 : L0 < 4294967296) :
    (U * 18446744073709551616 + (L1 * 4294967296 + L0)) / y = (U * 4294967296 + L1) / y * 4294967296 + ((U * 4294967296 + L1) % y * 4294967296 + L0) / y ∧
    (U * 18446744073709551616 + (L1 * 4294967296 + L0)) % y = ((U * 4294967296 + L1) % y * 4294967296 + L0) % y := by
  have h := Nat.div_add_mod (U * 4294967296 + L1) y
  obtain ⟨Q, hQ⟩ : ∃ Q, Q = (U * 4294967296 + L1) / y := ⟨_, rfl⟩
  obtain ⟨R, hR⟩ : ∃ R, R = (U * 4294967296 + L1) % y := ⟨_, rfl⟩
  rw [← hQ, ← hR] at h ⊢
  clear hQ hR
  have e : U * 18446744073709551616 + (L1 * 4294967296 + L0) = y * (Q * 4294967296) + (R * 4294967296 + L0) := by
    rw [← Nat.mul_assoc]
    omega
  rw [e, Nat.mul_add_div hy, Nat.mul_add_mod]
  exact ⟨rfl, rfl⟩
/-- Shifted. -/
theorem shifted (hi lo y s : Nat) (hs : s ≤ 64) (hy : 0 < y) : (hi * 2 ^ s + lo / 2 ^ (64 - s)) * 18446744073709551616 + lo * 2 ^ s % 18446744073709551616 = (hi * 18446744073709551616 + lo) * 2 ^ s := by
  have h1 : lo * 2 ^ s / 18446744073709551616 = lo / 2 ^ (64 - s) := by
    rw [show (18446744073709551616 : Nat) = 2 ^ (64 - s) * 2 ^ s by rw [← Nat.pow_add, Nat.sub_add_cancel hs], Nat.mul_div_mul_right _ _ (Nat.two_pow_pos s)]
  have h2 := Nat.div_add_mod (lo * 2 ^ s) 18446744073709551616
  rw [h1] at h2
  rw [Nat.add_mul, Nat.add_mul, Nat.mul_right_comm hi]
  generalize lo / 2 ^ (64 - s) = A at *
  generalize lo * 2 ^ s = B at *
  omega
theorem shifted_lt (hi lo y s : Nat) (hs : s ≤ 64) (hl : lo < 18446744073709551616) (h : hi < y) : hi * 2 ^ s + lo / 2 ^ (64 - s) < y * 2 ^ s := by
  have h1 : lo / 2 ^ (64 - s) < 2 ^ s := by
    rw [Nat.div_lt_iff_lt_mul (Nat.two_pow_pos _), ← Nat.pow_add, show s + (64 - s) = 64 by omega]
    exact hl
  have h2 : (hi + 1) * 2 ^ s ≤ y * 2 ^ s := Nat.mul_le_mul_right _ h
  rw [Nat.add_mul, Nat.one_mul] at h2
  omega
theorem low_lt (lo s : Nat) (hs : s ≤ 64) (hl : lo < 18446744073709551616) : lo / 2 ^ (64 - s) < 2 ^ s := by
  rw [Nat.div_lt_iff_lt_mul (Nat.two_pow_pos _), ← Nat.pow_add, show s + (64 - s) = 64 by omega]
  exact hl
/-- What is divided, and the rest. -/
theorem whole (hi lo y s U L1 L0 Y : Nat) (hs : s ≤ 64) (hy : 0 < y) (hY : Y = y * 2 ^ s) (hU : U = hi * 2 ^ s + lo / 2 ^ (64 - s)) (hL : L1 * 4294967296 + L0 = lo * 2 ^ s % 18446744073709551616) (h0 : L0 < 4294967296) :
    (hi * 18446744073709551616 + lo) / y = (U * 4294967296 + L1) / Y * 4294967296 + ((U * 4294967296 + L1) % Y * 4294967296 + L0) / Y ∧
    (hi * 18446744073709551616 + lo) % y = ((U * 4294967296 + L1) % Y * 4294967296 + L0) % Y / 2 ^ s := by
  have hp := Nat.two_pow_pos s
  have hYp : 0 < Y := by rw [hY]; exact Nat.mul_pos hy hp
  obtain ⟨e1, e2⟩ := halves U L1 L0 Y hYp h0
  rw [← e1, ← e2, hL, hU, shifted hi lo y s hs hy, hY]
  exact ⟨(Nat.mul_div_mul_right _ _ hp).symm, by rw [Nat.mul_mod_mul_right, Nat.mul_div_cancel _ hp]⟩
end DvPlain
