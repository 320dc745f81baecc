/- The reference's fractions: what they come to, of small ones. No condition. -/
import Derived.Test.YtfgmenndmcjggaaRaK
import Derived.Test.YtfgmenndmcjggaaPRx0
import Derived.Test.YtfgmenndmcjggaaPRx1
import Derived.Test.YtfgmenndmcjggaaPRx2
import Derived.Test.YtfgmenndmcjggaaPRx3
import Derived.Test.YtfgmenndmcjggaaPRx4
import Derived.Test.YtfgmenndmcjggaaPRx5
set_option linter.unusedVariables false
set_option linter.unusedSimpArgs false
namespace Go.Proofs.Ytfgmenndmcjggaa.RaR
open Go.RowKit Go.Proofs.Ytfgmenndmcjggaa.PR Go.Proofs.Ytfgmenndmcjggaa.RaC Go.Proofs.Ytfgmenndmcjggaa.RaK Go.Proofs.Ytfgmenndmcjggaa.Kit Go.Proofs.YtfgmenndmcjggaaW.PrintWords Go.Proofs.YtfgmenndmcjggaaW.PrintLast WhPlain RaPlain
theorem refgcd_loop (n : Nat) : ∀ (m k : Nat), n < k → evenhandedref1_Gcd.l0 k m n = some (Nat.gcd m n : Int) := by
  induction n using Nat.strongRecOn with
  | _ n ih =>
    intro m k hk
    obtain ⟨k, rfl⟩ : ∃ j, k = j + 1 := ⟨k - 1, by omega⟩
    rw [evenhandedref1_Gcd.l0]
    by_cases h : n = 0
    · subst h; rw [if_pos Int.natCast_zero, Nat.gcd_zero_right]
    · rw [if_neg (by omega), show Int.tmod (m : Int) (n : Int) = ((m % n : Nat) : Int) from rfl, ih (m % n) (Nat.mod_lt _ (by omega)) n k (by have := Nat.mod_lt m (show n > 0 by omega); omega), gcd_step m n]
theorem refgcd_at {a b : Int} (ha : a.natAbs ≤ B0) (hb : b.natAbs ≤ B0) (k : Nat) (hk : B0 < k) : evenhandedref1_Gcd.f k a b = some (Int.gcd a b : Int) := by
  unfold B0 at ha hb hk
  unfold evenhandedref1_Gcd.f
  have e : ∀ x : Int, x.natAbs ≤ 9223372036854775807 → mx x (wrap64 (-x)) = (x.natAbs : Int) := by
    intro x hx
    rw [RaC.wr (x := -x) (by omega) (by omega)]
    unfold mx
    split <;> omega
  rw [e a ha, e b hb, refgcd_loop _ _ _ (by omega)]
  rfl
theorem refof_at {n d : Int} (hn : n.natAbs ≤ B0) (h0 : 0 < d) (hd : d.natAbs ≤ B0) (k : Nat) (hk : B0 < k) : evenhandedref1_Of.f k n d = some ((red n d).1, (red n d).2) := by
  unfold evenhandedref1_Of.f
  rw [if_neg (by omega), refgcd_at hn hd k hk]
  simp only [Option.bind_some]
  have hg : 0 < Int.gcd n d := Int.gcd_pos_of_ne_zero_right _ (by omega)
  rw [if_neg (by omega)]
  have hl := red_le (n := n) h0
  have hp := (red_R (n := n) h0).pos
  have e1 : Int.tdiv n (Int.gcd n d : Int) = (red n d).1 := by
    unfold red
    exact Int.tdiv_eq_ediv_of_dvd (Int.gcd_dvd_left n d)
  have e2 : Int.tdiv d (Int.gcd n d : Int) = (red n d).2 := by
    unfold red
    exact Int.tdiv_eq_ediv_of_dvd (Int.gcd_dvd_right n d)
  unfold B0 at hn hd
  rw [e1, e2, RaC.wr (by omega) (by omega), RaC.wr (by omega) (by omega)]
end Go.Proofs.Ytfgmenndmcjggaa.RaR
