/- Package ratio: Add, Sub and Mul of all fractions answer with 0 or 14; what may not be is refused. No condition. -/
import Derived.Test.YtkgafogkeaaniaaRwCzm
set_option linter.unusedVariables false
set_option linter.unusedSimpArgs false
namespace Go.Proofs.Ytkgafogkeaaniaa.RwD
open Go.RowKit Go.Proofs.Ytkgafogkeaaniaa.PW Go.Proofs.YtkgafogkeaaniaaW.PrintWords Go.Proofs.YtkgafogkeaaniaaW.PrintLast Go.Proofs.Ytkgafogkeaaniaa.RwC WhPlain RaPlain
/-- Products of two numbers of 64 bits (the bound is kept from sight). -/
structure Lt1 (X : Nat) : Prop where
  out : X ≤ 2 ^ 126
theorem prod_lt {a b : Int} (ha : I a) (hb : I b) : Lt1 (a.natAbs * b.natAbs) := by
  have h1 := ha.abs; have h2 := hb.abs
  exact ⟨Nat.le_trans (Nat.mul_le_mul (show a.natAbs ≤ 9223372036854775808 by omega) (show b.natAbs ≤ 9223372036854775808 by omega)) (by decide)⟩
theorem Lt1.two {X : Nat} (h : Lt1 X) : Lt2 X := ⟨Nat.lt_of_le_of_lt h.out (by decide)⟩
theorem Lt1.add {X Y : Nat} (h : Lt1 X) (g : Lt1 Y) : Lt2 (X + Y) := ⟨Nat.lt_of_le_of_lt (Nat.add_le_add h.out g.out) (by decide)⟩
theorem times_w {a b : Int} (ha : I a) (hb : I b) : ratio_times.f a b = some (hiw (a.natAbs * b.natAbs), low (a.natAbs * b.natAbs), (decide (a < 0) != decide (b < 0))) := times_at ha hb
theorem plus_w (X Y : Nat) (p q : Bool) (hx : Lt2 X) (hy : Lt2 Y) (h : Lt2 (X + Y)) : ∃ (Z : Nat) (s : Bool), ratio_wide_plus.f (hiw X) (low X) p (hiw Y) (low Y) q = some (hiw Z, low Z, s) ∧ Z ≤ X + Y := by
  unfold ratio_wide_plus.f
  rw [hl_num, hl_num, if_pos ⟨hl_in X hx.out, hl_in Y hy.out, h.out⟩]
  split
  · exact ⟨_, _, rfl, Nat.le_refl _⟩
  · split
    · exact ⟨_, _, rfl, by omega⟩
    · exact ⟨_, _, rfl, by omega⟩
/-- Answers with 0 or with 14. -/
def Ok (x : Option (Int × Int × Int)) : Prop := ∃ n d e, x = some (n, d, e) ∧ (e = 0 ∨ e = 14)
/-- Rounds enough for two words. -/
structure Gt (k : Nat) : Prop where
  out : 2 ^ 126 < k
theorem Gt.lt {k X : Nat} (h : Gt k) (g : Lt1 X) : X < k := Nat.lt_of_le_of_lt g.out h.out
theorem made_ok {k X Y : Nat} {p q : Bool} (hk : Gt k) (hx : Lt2 X) (h0 : 0 < Y) (hy : Lt1 Y) : Ok ((ratio_made.f k (hiw X) (low X) p (hiw Y) (low Y) q).bind fun b => some (b.1, b.2.1, b.2.2)) := by
  obtain ⟨n, d, e, h, g⟩ := made_or X Y k p q (hk.lt hy) hx h0 hy.two
  rw [h]
  exact ⟨n, d, e, rfl, g⟩
theorem abs_pos {a b : Int} (ha : 0 < a) (hb : 0 < b) : 0 < a.natAbs * b.natAbs := Nat.mul_pos (by omega) (by omega)
section
variable {a b c d : Int} {k : Nat}
theorem add_ok (ha : I a) (hb : I b) (hc : I c) (hd : I d) (pb : 0 < b) (pd : 0 < d) (hk : Gt k) : Ok (ratio_Add.j0 (k + 1) false a b c d) := by
  rw [ratio_Add.j0, if_neg (fun h => Bool.noConfusion h), times_w ha hd, Option.bind_some, times_w hc hb, Option.bind_some]
  obtain ⟨Z, s, e, hZ⟩ := plus_w (a.natAbs * d.natAbs) (c.natAbs * b.natAbs) (decide (a < 0) != decide (d < 0)) (decide (c < 0) != decide (b < 0)) (prod_lt ha hd).two (prod_lt hc hb).two ((prod_lt ha hd).add (prod_lt hc hb))
  rw [e, Option.bind_some, times_w hb hd, Option.bind_some]
  exact made_ok hk (((prod_lt ha hd).add (prod_lt hc hb)).le hZ) (abs_pos pb pd) (prod_lt hb hd)
theorem sub_ok (ha : I a) (hb : I b) (hc : I c) (hd : I d) (pb : 0 < b) (pd : 0 < d) (hk : Gt k) : Ok (ratio_Sub.j0 (k + 1) false a b c d) := by
  rw [ratio_Sub.j0, if_neg (fun h => Bool.noConfusion h), times_w hc hb, Option.bind_some, times_w ha hd, Option.bind_some]
  obtain ⟨Z, s, e, hZ⟩ := plus_w (a.natAbs * d.natAbs) (c.natAbs * b.natAbs) (decide (a < 0) != decide (d < 0)) (!(decide (c < 0) != decide (b < 0))) (prod_lt ha hd).two (prod_lt hc hb).two ((prod_lt ha hd).add (prod_lt hc hb))
  rw [e, Option.bind_some, times_w hb hd, Option.bind_some]
  exact made_ok hk (((prod_lt ha hd).add (prod_lt hc hb)).le hZ) (abs_pos pb pd) (prod_lt hb hd)
end
theorem May_at {n d : Int} (hn : I n) (hd : I d) (k : Nat) (hk : 9223372036854775808 < k) : ratio_May.f k n d = some (decide (0 < d ∧ Int.gcd n d = 1)) := by
  unfold ratio_May.f
  by_cases h : d > 0
  · rw [if_pos h, Gcd_at hn hd k hk]
    have hg : Int.gcd n d ≤ d.natAbs := Nat.gcd_le_right _ (by omega)
    have hG : G n d = (Int.gcd n d : Int) := by unfold G; rw [if_neg (by unfold I at hd; omega)]
    simp only [Option.bind_some, hG]
    by_cases h1 : Int.gcd n d = 1
    · rw [h1]; simp [h]
    · have : ¬ ((Int.gcd n d : Int) = 1) := by omega
      simp [h1, this]
  · rw [if_neg h]
    have : ¬ 0 < d := by omega
    simp [this]
/-- The pair is a fraction in lowest terms. -/
def low1 (n d : Int) : Bool := decide (0 < d ∧ Int.gcd n d = 1)
section
variable {a b c d : Int} {k : Nat}
theorem low1.pos (h : low1 a b = true) : 0 < b := (of_decide_eq_true h).1
theorem add_at (ha : I a) (hb : I b) (hc : I c) (hd : I d) (hk : Gt k) (h1 : low1 a b = true) (h2 : low1 c d = true) (m1 : ratio_May.f (k + 1) a b = some (low1 a b)) (m2 : ratio_May.f (k + 1) c d = some (low1 c d)) : Ok (ratio_Add.f (k + 1) a b c d) := by
  unfold ratio_Add.f
  rw [m1, m2, h1, h2, Option.bind_some, if_pos rfl, Option.bind_some]
  exact add_ok ha hb hc hd (low1.pos h1) (low1.pos h2) hk
theorem sub_at (ha : I a) (hb : I b) (hc : I c) (hd : I d) (hk : Gt k) (h1 : low1 a b = true) (h2 : low1 c d = true) (m1 : ratio_May.f (k + 1) a b = some (low1 a b)) (m2 : ratio_May.f (k + 1) c d = some (low1 c d)) : Ok (ratio_Sub.f (k + 1) a b c d) := by
  unfold ratio_Sub.f
  rw [m1, m2, h1, h2, Option.bind_some, if_pos rfl, Option.bind_some]
  exact sub_ok ha hb hc hd (low1.pos h1) (low1.pos h2) hk
theorem cmp_at (ha : I a) (hb : I b) (hc : I c) (hd : I d) (h1 : low1 a b = true) (h2 : low1 c d = true) (hk : 9223372036854775808 < k) (m1 : ratio_May.f (k + 4) a b = some (low1 a b)) (m2 : ratio_May.f (k + 4) c d = some (low1 c d)) : ratio_Cmp.f (k + 4) a b c d = some (cmp3 (a * d) (c * b)) := by
  unfold ratio_Cmp.f
  rw [m1, m2, h1, h2]
  simp only [Option.bind_some, if_true]
  rw [Cross_at ha hd hc hb]; rfl
end
end Go.Proofs.Ytkgafogkeaaniaa.RwD
