/- The reference's words on whether a pair may be. No condition. -/
import Derived.Test.YtpgecjedifcilaaRwD
set_option linter.unusedVariables false
set_option linter.unusedSimpArgs false
namespace Go.Proofs.Ytpgecjedifcilaa.RwR
open Go.RowKit Go.Proofs.Ytpgecjedifcilaa.PW Go.Proofs.YtpgecjedifcilaaW.PrintWords Go.Proofs.YtpgecjedifcilaaW.PrintLast Go.Proofs.YtpgecjedifcilaaW.PrintMore Go.Proofs.Ytpgecjedifcilaa.RwC Go.Proofs.Ytpgecjedifcilaa.RwD WhPlain RaPlain
theorem refgcd_loop (n : Nat) : ∀ (m k : Nat), n < k → evenhandedref1_Gcd.l0 k m n = some (Nat.gcd m n : Int) := by
  induction n using Nat.strongRecOn with
  | _ n ih =>
    intro m k hk
    obtain ⟨k, rfl⟩ : ∃ j, k = j + 1 := ⟨k - 1, by omega⟩
    rw [evenhandedref1_Gcd.l0]
    by_cases h : n = 0
    · subst h; rw [if_pos Int.natCast_zero, Nat.gcd_zero_right]
    · rw [if_neg (by omega), show Int.tmod (m : Int) (n : Int) = ((m % n : Nat) : Int) from rfl, ih (m % n) (Nat.mod_lt _ (by omega)) n k (by have := Nat.mod_lt m (show n > 0 by omega); omega), gcd_step m n]
theorem mx_abs {a : Int} (h : a.natAbs ≤ 9223372036854775807) : mx a (wrap64 (-a)) = (a.natAbs : Int) := by
  unfold mx
  rw [RwC.wr (by omega) (by omega)]
  split <;> omega
theorem refgcd_at {a b : Int} (ha : a.natAbs ≤ 9223372036854775807) (hb : b.natAbs ≤ 9223372036854775807) (k : Nat) (hk : 9223372036854775808 < k) : evenhandedref1_Gcd.f k a b = some (Int.gcd a b : Int) := by
  unfold evenhandedref1_Gcd.f
  rw [mx_abs ha, mx_abs hb, refgcd_loop _ _ _ (by omega)]
  rfl
theorem least_gcd (d : Nat) : Nat.gcd 9223372036854775808 d = 1 ↔ d % 2 = 1 := by
  constructor
  · intro h
    by_cases h2 : d % 2 = 1
    · exact h2
    · exfalso
      have h3 : 2 ∣ Nat.gcd 9223372036854775808 d := Nat.dvd_gcd ⟨4611686018427387904, by decide⟩ (Nat.dvd_of_mod_eq_zero (by omega))
      rw [h] at h3
      exact absurd h3 (by decide)
  · intro h
    have h1 : Nat.Coprime 2 d := by
      unfold Nat.Coprime
      rw [Nat.gcd_rec, h]
      decide
    exact (Nat.Coprime.pow_left 63 h1 : Nat.Coprime (2 ^ 63) d)
theorem least_low (d : Int) (h : 0 < d) : (Int.tmod d 2 == 1) = low1 (-9223372036854775808) d := by
  unfold low1 Int.gcd
  rw [show (-9223372036854775808 : Int).natAbs = 9223372036854775808 from rfl]
  have e : Int.tmod d 2 = d % 2 := RwC.tm (by omega)
  rw [e]
  by_cases h2 : d.natAbs % 2 = 1
  · rw [decide_eq_true ⟨h, (least_gcd _).2 h2⟩]
    exact beq_iff_eq.2 (by omega)
  · rw [decide_eq_false (fun k => h2 ((least_gcd _).1 k.2))]
    exact beq_eq_false_iff_ne.2 (by omega)
theorem refmay_at {n d : Int} (hn : I n) (hd : I d) (k : Nat) (hk : 9223372036854775808 < k) : evenhandedref1_RatMay.f k n d = some (low1 n d) := by
  unfold evenhandedref1_RatMay.f
  by_cases h : d > 0
  · rw [if_pos h]
    by_cases hm : n = -9223372036854775808
    · rw [if_pos hm, hm, least_low d h]
    · rw [if_neg hm, refgcd_at (by unfold I at hn; omega) (by unfold I at hd; omega) k hk, Option.bind_some]
      unfold low1
      by_cases h1 : Int.gcd n d = 1
      · rw [if_pos (by omega), decide_eq_true ⟨h, h1⟩]
      · rw [if_neg (by omega), decide_eq_false (fun g => h1 g.2)]
  · rw [if_neg h]
    unfold low1
    rw [decide_eq_false (fun g => h g.1)]
end Go.Proofs.Ytpgecjedifcilaa.RwR
