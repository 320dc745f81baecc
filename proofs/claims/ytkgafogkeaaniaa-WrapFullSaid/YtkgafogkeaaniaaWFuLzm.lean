/- Package wrap: Lay in the printer's form. No condition. -/
import Derived.Test.YtkgafogkeaaniaaWlKzm
import Derived.Test.YtkgafogkeaaniaaRwVzm
set_option linter.unusedVariables false
set_option linter.unusedSimpArgs false
namespace Go.Proofs.Ytkgafogkeaaniaa.PW
open Go.RowKit Go.Proofs.Ytkgafogkeaaniaa.Kit Go.Proofs.Ytkgafogkeaaniaa.Kit5 Go.Proofs.Ytkgafogkeaaniaa.WlC Go.Proofs.Ytkgafogkeaaniaa.WlD Go.Proofs.Ytkgafogkeaaniaa.WlK
open Go.Proofs.YtkgafogkeaaniaaW.PrintWords hiding below_then below_alloc below_drew
/-- Lay, with rounds enough. -/
def wrap_Lay.f (l : List S49) (fr tt co : Int) : Option (List S41 × Int) := layF (RwV.K0 + 4 + 96) 50 l fr tt co
theorem reps_from (w : World) (base : Nat) (ok : Nat → Prop) : ∀ (l acc : List S41), Reps (k41.M w base ok) 8 acc (gflat pcl acc) → Reps (k41.M w base ok) 8 (acc ++ l) (gflat pcl (acc ++ l))
  | [], acc, h => by simpa using h
  | x :: r, acc, h => by
    have := reps_from w base ok r (acc ++ [x]) (by
      rw [show gflat pcl (acc ++ [x]) = gflat pcl acc ++ pcl x by simp [gflat]]
      exact h.snoc (k41_mkM w base ok x) rfl)
    simpa using this
theorem reps_pcl (w : World) (base : Nat) (ok : Nat → Prop) (l : List S41) : Reps (k41.M w base ok) 8 l (gflat pcl l) := by
  have := reps_from w base ok l [] (Reps.none _ _)
  simpa using this
theorem prow_R {w : World} {B : Nat} {v : Value} {ms : List S41} (h : PRow w B v ms) : Kd.R k41 41 w B (fun _ => True) v ms :=
  ⟨fun _ _ => trivial, _, h, reps_pcl _ _ _ _⟩
theorem wrap_Lay.calls (A0 : Option Addr) (c0 : Nat) (l0 : List S49) (a1 a2 a3 : Int) (r1 : List S41) (r2 : Int) (w : World) (hr0 : Kd.C k49 w A0 l0.length l0) (hc0 : l0.length ≤ c0) (h : wrap_Lay.f l0 a1 a2 a3 = some (r1, r2)) :
    Calls Try.prog 11 #[.slice A0 l0.length c0, .int .i64 a1, .int .i64 a2, .int .i64 a3] w fun e w' => ∃ v0_ : Value, e = .returned (.tuple #[v0_, .int .i64 r2]) ∧ Kd.R k41 41 w' w.heap.size (fun _ => True) v0_ r1 ∧ Below w.heap.size w w' := by
  refine (LayC hr0 hc0 h).mono ?_
  rintro e w' ⟨v, rfl, hrow, hb⟩
  exact ⟨v, rfl, prow_R hrow, hb⟩
end Go.Proofs.Ytkgafogkeaaniaa.PW
