/- The reference's Lay in the printer's form. No condition. -/
import Derived.Test.YtkgafogkeaaniaaRlBzm
import Derived.Test.YtkgafogkeaaniaaWFuLzm
set_option linter.unusedVariables false
set_option linter.unusedSimpArgs false
namespace Go.Proofs.Ytkgafogkeaaniaa.PW
open Go.RowKit Go.Proofs.Ytkgafogkeaaniaa.Kit Go.Proofs.Ytkgafogkeaaniaa.Kit5 Go.Proofs.Ytkgafogkeaaniaa.WlC Go.Proofs.Ytkgafogkeaaniaa.RlA Go.Proofs.Ytkgafogkeaaniaa.RlB
open Go.Proofs.YtkgafogkeaaniaaW.PrintWords hiding below_then below_alloc below_drew
/-- The reference's Lay, with rounds enough, within the law's bounds. -/
def evenhandedref12_Lay.f (l : List S39) (fr tt co : Int) : Option (List S41 × Int) := if -1048576 ≤ fr ∧ fr ≤ 1048576 ∧ tt ≤ fr + 1024 then refF (RwV.K0 + 4) 50 l fr tt co else none
theorem evenhandedref12_Lay.calls (A0 : Option Addr) (c0 : Nat) (l0 : List S39) (a1 a2 a3 : Int) (r1 : List S41) (r2 : Int) (w : World) (hr0 : Kd.C k39 w A0 l0.length l0) (hc0 : l0.length ≤ c0) (h : evenhandedref12_Lay.f l0 a1 a2 a3 = some (r1, r2)) :
    Calls Try.prog 13 #[.slice A0 l0.length c0, .int .i64 a1, .int .i64 a2, .int .i64 a3] w fun e w' => ∃ v0_ : Value, e = .returned (.tuple #[v0_, .int .i64 r2]) ∧ Kd.R k41 41 w' w.heap.size (fun _ => True) v0_ r1 ∧ Below w.heap.size w w' := by
  unfold evenhandedref12_Lay.f at h
  by_cases hb : -1048576 ≤ a1 ∧ a1 ≤ 1048576 ∧ a2 ≤ a1 + 1024
  · rw [if_pos hb] at h
    refine (ref_at _ _ A0 c0 l0 a1 a2 a3 r2 r1 w hr0 hc0 hb.1 hb.2.1 hb.2.2 h).mono ?_
    rintro e w' ⟨v, rfl, hrow, hb⟩
    exact ⟨v, rfl, prow_R hrow, hb⟩
  · rw [if_neg hb] at h
    cases h
end Go.Proofs.Ytkgafogkeaaniaa.PW
