/- Printed by a program of mine: a changed copy of the kit's printer. No condition.; The reference's fractions in whole numbers over one denominator. No condition. -/
import Derived.Test.YtkgafogkeaaniaaPWx0zm
import Derived.Test.YtkgafogkeaaniaaPWx2zm
import Derived.Test.YtkgafogkeaaniaaPWx5zm
import Derived.Test.YtkgafogkeaaniaaPWx1zm
import Derived.Test.YtkgafogkeaaniaaWlXzm
section
namespace Go.Proofs.Ytkgafogkeaaniaa.PW
open Go.RowKit Go.Proofs.YtkgafogkeaaniaaW.PrintWords Go.Proofs.YtkgafogkeaaniaaW.PrintLast Go.Proofs.YtkgafogkeaaniaaW.PrintMore
attribute [local go_sem] max2_int min2_int max_two min_two max_three min_three max_four min_four   -- for this text's walks alone
set_option linter.unusedVariables false
set_option linter.unusedSimpArgs false

end Go.Proofs.Ytkgafogkeaaniaa.PW
end
section
namespace Go.Proofs.Ytkgafogkeaaniaa.PW
open Go.RowKit Go.Proofs.YtkgafogkeaaniaaW.PrintWords Go.Proofs.YtkgafogkeaaniaaW.PrintLast Go.Proofs.YtkgafogkeaaniaaW.PrintMore
attribute [local go_sem] max2_int min2_int max_two min_two max_three min_three max_four min_four   -- for this text's walks alone
set_option linter.unusedVariables false
set_option linter.unusedSimpArgs false

attribute [local go_sem high] eqA41
-- NOT PRINTED: function 3 (evenhandedlaw18_WrapLays)

-- NOT PRINTED: function 4 (evenhandedlaw18_WrapFits)

-- NOT PRINTED: function 5 (evenhandedlaw18_WrapFull)

-- NOT PRINTED: function 6 (evenhandedlaw18_WrapOrder)

end Go.Proofs.Ytkgafogkeaaniaa.PW
end
section
set_option linter.unusedVariables false
set_option linter.unusedSimpArgs false
namespace Go.Proofs.Ytkgafogkeaaniaa.RfX
open Go.RowKit Go.Proofs.Ytkgafogkeaaniaa.PW Go.Proofs.YtkgafogkeaaniaaW.PrintWords Go.Proofs.Ytkgafogkeaaniaa.RwC Go.Proofs.Ytkgafogkeaaniaa.RwD WhPlain RaPlain Go.Proofs.Ytkgafogkeaaniaa.WlX
theorem refgcd_loop (n : Nat) : ∀ (m k : Nat), n < k → evenhandedref1_Gcd.l0 k m n = some (Nat.gcd m n : Int) := by
  induction n using Nat.strongRecOn with
  | _ n ih =>
    intro m k hk
    obtain ⟨k, rfl⟩ : ∃ j, k = j + 1 := ⟨k - 1, by omega⟩
    rw [evenhandedref1_Gcd.l0]
    by_cases h : n = 0
    · subst h; rw [if_pos Int.natCast_zero, Nat.gcd_zero_right]
    · rw [if_neg (by omega), show Int.tmod (m : Int) (n : Int) = ((m % n : Nat) : Int) from rfl, ih (m % n) (Nat.mod_lt _ (by omega)) n k (by have := Nat.mod_lt m (show n > 0 by omega); omega), gcd_step m n]
theorem mx_abs {a : Int} (h : a.natAbs ≤ 9223372036854775807) : mx a (wrap64 (-a)) = (a.natAbs : Int) := by
  unfold mx
  rw [RwC.wr (by omega) (by omega)]
  split <;> omega
theorem gcd_f {a b : Int} (ha : a.natAbs ≤ 9223372036854775807) (hb : b.natAbs ≤ 9223372036854775807) (k : Nat) (hk : 9223372036854775808 < k) : evenhandedref1_Gcd.f k a b = some (Int.gcd a b : Int) := by
  unfold evenhandedref1_Gcd.f
  rw [mx_abs ha, mx_abs hb, refgcd_loop _ _ _ (by omega)]
  rfl
section
variable {M : Int} (hM : Mb M) {a b : Int}
include hM
end
end Go.Proofs.Ytkgafogkeaaniaa.RfX
end
