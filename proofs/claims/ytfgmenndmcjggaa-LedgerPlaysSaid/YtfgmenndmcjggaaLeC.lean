/- Package ledger, third text: what its parts call, as they use it. No condition. -/
import Derived.Test.YtfgmenndmcjggaaLeB
set_option linter.unusedVariables false
set_option linter.unusedSimpArgs false
namespace Go.Proofs.Ytfgmenndmcjggaa.LeC
open Go.RowKit Go.Proofs.Ytfgmenndmcjggaa.Kit Go.Proofs.Ytfgmenndmcjggaa.Kit3 Go.Proofs.Ytfgmenndmcjggaa.LeP Go.Maps Go.Proofs.Ytfgmenndmcjggaa.LeA Go.Proofs.Ytfgmenndmcjggaa.LeB
open Go.Proofs.Ytfgmenndmcjggaa.PR WhPlain RaPlain Go.Proofs.Ytfgmenndmcjggaa.RaK
open Go.Proofs.Ytfgmenndmcjggaa.RaC (Fr)
theorem MayK (e p : Int) (b : Bool) (hb : decide (may e p) = b) (w : World) : Side (Calls Try.prog 20 #[.int .i64 e, .int .i64 p] w fun r w' => r = .returned (.bool b) ∧ Below w.heap.size w w') := by
  refine ⟨(ledger_may.calls e p b w ?_).mono ?_⟩
  · unfold ledger_may.f
    rw [← hb]
    unfold may
    by_cases h1 : 1 ≤ e
    · rw [if_pos (by omega)]
      by_cases h2 : e ≤ p
      · rw [if_pos h2]; simp [h1, h2]
      · rw [if_neg h2]; simp [h2]
    · rw [if_neg (by omega)]; simp [h1]
  · rintro r w' ⟨rfl, hd⟩
    exact ⟨rfl, hd.below⟩
theorem FracK {e p : Int} (h : may e p) (x : Int × Int) (hx : q e p = x) (w : World) : Side (Calls Try.prog 23 #[.int .i64 e, .int .i64 p] w fun r w' => r = .returned (.agg #[.int .i64 x.1, .int .i64 x.2]) ∧ Below w.heap.size w w') := by
  subst hx
  unfold may at h
  refine ⟨ledger_fraction.calls (p.natAbs + 1) e p _ _ w ?_⟩
  unfold ledger_fraction.f
  rw [RaC.Of_at (by omega) (by omega) (by omega) _ (by omega)]
  rfl
theorem AddK {x y : Int × Int} (hx : Sm x 1073741824 16777216) (hy : Sm y 1048575 1048575) (z : Int × Int) (hz : RaK.add x y = z) (w : World) :
    Side (Calls Try.prog 22 #[.agg #[.int .i64 x.1, .int .i64 x.2], .agg #[.int .i64 y.1, .int .i64 y.2]] w fun r w' => r = .returned (.tuple #[.agg #[.int .i64 z.1, .int .i64 z.2], .int .i64 0]) ∧ Below w.heap.size w w') := by
  subst hz
  exact AddC hx hy (by decide) (by decide) (by decide) (by decide) (by decide) (by decide) w
theorem SubK {x y : Int × Int} (hx : Sm x 1073741824 16777216) (hy : Sm y 1048575 1048575) (z : Int × Int) (hz : RaK.sub x y = z) (w : World) :
    Side (Calls Try.prog 26 #[.agg #[.int .i64 x.1, .int .i64 x.2], .agg #[.int .i64 y.1, .int .i64 y.2]] w fun r w' => r = .returned (.tuple #[.agg #[.int .i64 z.1, .int .i64 z.2], .int .i64 0]) ∧ Below w.heap.size w w') := by
  subst hz
  exact SubC hx hy (by decide) (by decide) (by decide) (by decide) (by decide) (by decide) w
theorem CmpK {x : Int × Int} (hx : Fr x) {k : Int} (hk : 1 ≤ k ∧ k ≤ 64) (c : Int) (hc : cmp3 (x.1 * 1) (k * x.2) = c) (w : World) :
    Side (Calls Try.prog 24 #[.agg #[.int .i64 x.1, .int .i64 x.2], .agg #[.int .i64 k, .int .i64 1]] w fun r w' => r = .returned (.int .i64 c) ∧ Below w.heap.size w w') :=
  CmpC (y := (k, 1)) hx ⟨⟨by show (0 : Int) < 1; omega, by show Int.gcd k 1 = 1; exact Int.gcd_one_right _⟩, by show RaC.I k; unfold RaC.I; omega, by show RaC.I 1; unfold RaC.I; omega⟩ c hc w
end Go.Proofs.Ytfgmenndmcjggaa.LeC
