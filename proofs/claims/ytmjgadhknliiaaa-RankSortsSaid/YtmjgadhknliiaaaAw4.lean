/- evenhandedlaw4.awake, walked by hand. -/
import Derived.Test.YtmjgadhknliiaaaRank
set_option linter.unusedVariables false
set_option linter.unusedSimpArgs false
namespace Go.Proofs.Ytmjgadhknliiaaa.Rank
open Go.RowKit Go.Proofs.Ytmjgadhknliiaaa.Kit Go.Proofs.Ytmjgadhknliiaaa.Cmp Go.Proofs.Ytmjgadhknliiaaa.Win EvPlain
set_option maxHeartbeats 1000000 in
set_option maxRecDepth 100000 in
theorem awake_at (w : World) : Calls Try.prog 8 #[] w fun r w' => r = .returned (.bool true) ∧ Below w.heap.size w w' := by
  have A : ∀ w, Side (Calls Try.prog 9 #[.int .i64 1, .int .i64 3, .int .i64 1, .int .i64 0, .int .i64 5] w fun x w' => x = .returned (.agg #[.int .i64 3, .int .i64 0, .int .i64 0, .int .i64 5]) ∧ Below w.heap.size w w') := fun w => ⟨by
    have := Of_at 1 3 1 0 5 w; rw [show ofq 1 3 1 0 5 = ⟨3, 0, 0, 5⟩ by kernel_rfl] at this; exact this⟩
  have B : ∀ w, Side (Calls Try.prog 9 #[.int .i64 2, .int .i64 5, .int .i64 1, .int .i64 0, .int .i64 4] w fun x w' => x = .returned (.agg #[.int .i64 3, .int .i64 1, .int .i64 0, .int .i64 4]) ∧ Below w.heap.size w w') := fun w => ⟨by
    have := Of_at 2 5 1 0 4 w; rw [show ofq 2 5 1 0 4 = ⟨3, 1, 0, 4⟩ by kernel_rfl] at this; exact this⟩
  have L1 : ∀ w, Side (Calls Try.prog 10 #[.agg #[.int .i64 3, .int .i64 1, .int .i64 0, .int .i64 4], .agg #[.int .i64 3, .int .i64 0, .int .i64 0, .int .i64 5]] w fun x w' => x = .returned (.bool true) ∧ Below w.heap.size w w') := fun w => ⟨by
    have := Less_at ⟨3, 1, 0, 4⟩ ⟨3, 0, 0, 5⟩ w; rw [show decide (rcmp ⟨3, 1, 0, 4⟩ ⟨3, 0, 0, 5⟩ < 0) = true by decide +kernel] at this; exact this⟩
  have L2 : ∀ w, Side (Calls Try.prog 10 #[.agg #[.int .i64 3, .int .i64 0, .int .i64 0, .int .i64 5], .agg #[.int .i64 3, .int .i64 1, .int .i64 0, .int .i64 4]] w fun x w' => x = .returned (.bool false) ∧ Below w.heap.size w w') := fun w => ⟨by
    have := Less_at ⟨3, 0, 0, 5⟩ ⟨3, 1, 0, 4⟩ w; rw [show decide (rcmp ⟨3, 0, 0, 5⟩ ⟨3, 1, 0, 4⟩ < 0) = false by decide +kernel] at this; exact this⟩
  go_enter Try.func8, Try.ntmps8
  go_wp2_with fail
  refine (A _).out.mono ?_
  rintro q w1 ⟨rfl, h1⟩
  go_wp2_with fail
  refine (B _).out.mono ?_
  rintro q w2 ⟨rfl, h2⟩
  have g2 := below_then h1 h1.size h2
  go_wp2_with fail
  refine (L1 _).out.mono ?_
  rintro q w3 ⟨rfl, h3⟩
  obtain ⟨c3, f3⟩ := bcell h3
  go_wp2_with fail
  refine (L2 _).out.mono ?_
  rintro q w4 ⟨rfl, h4⟩
  go_wp2
  go_ret
  refine ⟨rfl, below_then (below_then (B := w.heap.size) ?_ ?_ h3) (by have := g2.size; have := h3.size; simp at *; omega) h4⟩
  · exact (g2.alloc g2.size _).alloc (by have := g2.size; simp; omega) _
  · have := g2.size; simp; omega
end Go.Proofs.Ytmjgadhknliiaaa.Rank
