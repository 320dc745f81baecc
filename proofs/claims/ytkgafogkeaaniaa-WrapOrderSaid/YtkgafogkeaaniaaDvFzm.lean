/- Package ratio: a size of two words by one. No condition but that it is by more than nought. -/
import Derived.Test.YtkgafogkeaaniaaDvEzm
set_option linter.unusedVariables false
set_option linter.unusedSimpArgs false
namespace Go.Proofs.Ytkgafogkeaaniaa.DvF
open Go.RowKit Go.Proofs.Ytkgafogkeaaniaa.Kit Go.Proofs.Ytkgafogkeaaniaa.Kit4 Go.Proofs.Ytkgafogkeaaniaa.DvA Go.Proofs.Ytkgafogkeaaniaa.DvB Go.Proofs.Ytkgafogkeaaniaa.DvC Go.Proofs.Ytkgafogkeaaniaa.DvD Go.Proofs.Ytkgafogkeaaniaa.DvE DvPlain
open Go.Proofs.YtkgafogkeaaniaaW.PrintLast
theorem mod_V (X Y : Nat) (hx : X < 2 ^ 128) (hy : Y < 2 ^ 128) (h0 : 0 < Y) (s1 s2 : Bool) (w : World) : Calls Try.prog 61 #[V X s1, V Y s2] w fun e w' => e = .returned (V (X % Y) false) ∧ Below w.heap.size w w' := by
  obtain ⟨a1, a2⟩ := V_lt X hx
  obtain ⟨b1, b2⟩ := V_lt Y hy
  rcases Nat.eq_zero_or_pos (Y / 18446744073709551616) with c | c
  · have hl : Y < 18446744073709551616 := by omega
    have k := mod0_core _ _ Y s1 s2 a1 a2 h0 hl w
    rw [nat2_V] at k
    have e1 : V Y s2 = W 0 Y s2 := by show W _ _ _ = _; rw [c, Nat.mod_eq_of_lt hl]
    have e2 : V (X % Y) false = W 0 (X % Y) false := by
      have hr := Nat.mod_lt X h0
      show W _ _ _ = _
      rw [Nat.div_eq_of_lt (by omega), Nat.mod_eq_of_lt (by omega)]
    rw [e1, e2]
    exact k
  · have k := mod1_core _ _ _ _ s1 s2 a1 a2 b1 b2 c w
    rw [nat2_V, nat2_V] at k
    exact k
set_option maxHeartbeats 4000000 in
set_option maxRecDepth 100000 in
theorem by0_core (h1 l1 y : Nat) (s1 s2 : Bool) (a0 : h1 < y) (a1 : l1 < 18446744073709551616) (y1 : y < 18446744073709551616) (w : World) :
    Calls Try.prog 53 #[W h1 l1 s1, W 0 y s2] w fun e w' => e = .returned (.tuple #[.int .u64 ((nat2 h1 l1 / y : Nat) : Int), .bool true]) ∧ Below w.heap.size w w' := by
  have t1 : (h1 : Int) < (y : Int) := by omega
  have C := fun w => Side.mk (Div64_at h1 l1 y w a0 (by omega) (by omega))
  rw [show h1 * 2 ^ 64 + l1 = nat2 h1 l1 from rfl] at C
  obtain ⟨q, hq⟩ : ∃ q, q = nat2 h1 l1 / y := ⟨_, rfl⟩
  obtain ⟨r, hr⟩ : ∃ r, r = nat2 h1 l1 % y := ⟨_, rfl⟩
  rw [← hq, ← hr] at C
  rw [← hq]
  clear hq hr
  go_enter Try.func53, Try.ntmps53
  go_wp2_with fail
  refine (C _).out.mono ?_
  rintro e w2 ⟨rfl, n, rfl⟩
  go_wp2
  go_ret2
  exact ⟨rfl, by (repeat (with_reducible first | exact Below.refl _ _ | apply below_drewN | apply below_drew | apply below_alloc))⟩
set_option maxHeartbeats 4000000 in
set_option maxRecDepth 100000 in
theorem by_no (h1 l1 y : Nat) (s1 s2 : Bool) (a0 : y ≤ h1) (w : World) :
    Calls Try.prog 53 #[W h1 l1 s1, W 0 y s2] w fun e w' => e = .returned (.tuple #[.int .u64 0, .bool false]) ∧ Below w.heap.size w w' := by
  have t1 : ¬ (h1 : Int) < (y : Int) := by omega
  go_enter Try.func53, Try.ntmps53
  go_wp2_with fail
  go_ret2
  exact ⟨rfl, by (repeat (with_reducible first | exact Below.refl _ _ | apply below_drewN | apply below_drew | apply below_alloc))⟩
/-- One bit of the quotient. -/
theorem bit_or (q k : Nat) (hk : k ≤ 63) (hq : q % 2 ^ (k + 1) = 0) (hl : q + 2 ^ k < 2 ^ 64) : bits .or .u64 (q : Int) ((2 ^ k : Nat) : Int) = ((q + 2 ^ k : Nat) : Int) := by
  have hp : 2 ^ k < 2 ^ (k + 1) := by rw [Nat.pow_succ]; have := Nat.two_pow_pos k; omega
  have e : q = q / 2 ^ (k + 1) * 2 ^ (k + 1) := by
    have := Nat.div_add_mod q (2 ^ (k + 1))
    rw [hq, Nat.add_zero, Nat.mul_comm] at this
    exact this.symm
  have := or_add (q / 2 ^ (k + 1)) (2 ^ k) (k + 1) hp (by rw [← e]; exact hl)
  rw [← e] at this
  exact this
structure Dv (A B k q X : Nat) : Prop where
  eq : q * B + X = A
  lt : X < B * 2 ^ k
  mo : q % 2 ^ k = 0
theorem Dv.fin {A B q X : Nat} (h : Dv A B 0 q X) (hB : 0 < B) : q = A / B := by
  have := h.lt
  rw [Nat.pow_zero, Nat.mul_one] at this
  rw [← h.eq, Nat.mul_comm, Nat.mul_add_div hB, Nat.div_eq_of_lt this, Nat.add_zero]
theorem Dv.same {A B k q X : Nat} (h : Dv A B (k + 1) q X) (hx : X < B * 2 ^ k) : Dv A B k q X := by
  refine ⟨h.eq, hx, ?_⟩
  have := h.mo
  have d1 : 2 ^ (k + 1) ∣ q := Nat.dvd_of_mod_eq_zero this
  exact Nat.mod_eq_zero_of_dvd (Nat.dvd_trans ⟨2, Nat.pow_succ ..⟩ d1)
theorem Dv.sub {A B k q X : Nat} (h : Dv A B (k + 1) q X) (hx : B * 2 ^ k ≤ X) : Dv A B k (q + 2 ^ k) (X - B * 2 ^ k) := by
  refine ⟨?_, ?_, ?_⟩
  · rw [Nat.add_mul, Nat.mul_comm (2 ^ k)]
    have := h.eq
    omega
  · have := h.lt
    rw [Nat.pow_succ, ← Nat.mul_assoc] at this
    omega
  · have d1 : 2 ^ (k + 1) ∣ q := Nat.dvd_of_mod_eq_zero h.mo
    exact Nat.mod_eq_zero_of_dvd (Nat.dvd_add (Nat.dvd_trans ⟨2, Nat.pow_succ ..⟩ d1) (Nat.dvd_refl _))
theorem Dv.le {A B k q X : Nat} (h : Dv A B k q X) (hB : 18446744073709551616 ≤ B) (hA : A < 2 ^ 128) : q < 18446744073709551616 := by
  rcases Nat.lt_or_ge q 18446744073709551616 with c | c
  · exact c
  · exfalso
    have := Nat.mul_le_mul c hB
    have := h.eq
    rw [show (2 : Nat) ^ 128 = 18446744073709551616 * 18446744073709551616 by decide] at hA
    omega
/-- Where the division begins. -/
theorem Dv.start {A B : Nat} (hA : A < 2 ^ 128) (hB : 0 < B) (hB2 : B < 2 ^ 128) : Dv A B (blen A + 1 - blen B) 0 A ∧ blen A + 1 - blen B ≤ 129 ∧ (18446744073709551616 ≤ B → blen A + 1 - blen B ≤ 64) ∧ (0 < blen A + 1 - blen B → B * 2 ^ (blen A + 1 - blen B - 1) < 2 ^ 128) := by
  obtain ⟨x1, x2, x3⟩ := blen_at A hA
  obtain ⟨y1, y2, y3⟩ := blen_at B hB2
  have y2 := y2 hB
  refine ⟨⟨by omega, ?_, by simp⟩, by omega, fun hb => ?_, fun hk => ?_⟩
  · by_cases c : blen B ≤ blen A
    · have e : 2 ^ (blen A + 1) = 2 ^ blen B * 2 ^ (blen A + 1 - blen B) := by rw [← Nat.pow_add]; congr 1; omega
      have h1 : 2 ^ blen B * 2 ^ (blen A + 1 - blen B) ≤ 2 * B * 2 ^ (blen A + 1 - blen B) := Nat.mul_le_mul_right _ y2
      rw [← e, Nat.pow_succ, Nat.mul_assoc] at h1
      omega
    · rw [show blen A + 1 - blen B = 0 by omega, Nat.pow_zero, Nat.mul_one]
      have h1 : 2 ^ (blen A + 1) ≤ 2 ^ blen B := Nat.pow_le_pow_right (by decide) (by omega)
      rw [Nat.pow_succ] at h1
      omega
  · have h1 : 2 ^ 64 < 2 ^ blen B := by
      rw [show (2 : Nat) ^ 64 = 18446744073709551616 by decide]
      omega
    have := (Nat.pow_lt_pow_iff_right (a := 2) (by decide)).1 h1
    omega
  · have e : 2 ^ blen A = 2 ^ blen B * 2 ^ (blen A + 1 - blen B - 1) := by rw [← Nat.pow_add]; congr 1; omega
    have h1 : B * 2 ^ (blen A + 1 - blen B - 1) < 2 ^ blen A := by rw [e]; exact Nat.mul_lt_mul_of_pos_right y1 (Nat.two_pow_pos _)
    have h2 : 2 ^ blen A ≤ 2 ^ 128 := Nat.pow_le_pow_right (by decide) x3
    omega
end Go.Proofs.Ytkgafogkeaaniaa.DvF
