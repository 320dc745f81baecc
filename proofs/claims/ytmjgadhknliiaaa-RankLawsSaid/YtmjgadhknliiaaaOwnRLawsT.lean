/- The law evenhandedlaw4.RankLaws: the walk over the functions' contracts. No condition. -/
import Derived.Test.YtmjgadhknliiaaaOwnRLaws
set_option linter.unusedVariables false
set_option linter.unusedSimpArgs false
namespace Go.Proofs.Ytmjgadhknliiaaa.OwnRLawsT
open Go.RowKit Go.Proofs.Ytmjgadhknliiaaa.Kit Go.Proofs.Ytmjgadhknliiaaa.Cmp Go.Proofs.Ytmjgadhknliiaaa.Win Go.Proofs.Ytmjgadhknliiaaa.Rank EvPlain Go.Proofs.Ytmjgadhknliiaaa.OwnOrders
theorem rl (x y : R) : rless x y = true ↔ (x.d < y.d ∨ x.d = y.d ∧ (y.b < x.b ∨ x.b = y.b ∧ ((x.b = 1 ∧ y.g < x.g) ∨ ((x.b = 1 → x.g = y.g) ∧ x.i < y.i)))) := by
  unfold rless
  split
  · simp only [decide_eq_true_eq]; omega
  · split
    · simp only [decide_eq_true_eq]; omega
    · split
      · simp only [decide_eq_true_eq]; omega
      · simp only [decide_eq_true_eq]; omega
theorem rf (x y : R) (h : ¬ (x.d < y.d ∨ x.d = y.d ∧ (y.b < x.b ∨ x.b = y.b ∧ ((x.b = 1 ∧ y.g < x.g) ∨ ((x.b = 1 → x.g = y.g) ∧ x.i < y.i))))) : rless x y = false := by
  rw [← Bool.not_eq_true, rl]; exact h
theorem irr (x : R) : rless x x = false := rf x x (by omega)
theorem asym (x y : R) (h : rless x y = true) : rless y x = false := by
  rw [rl] at h; exact rf y x (by omega)
theorem tot (x y : R) (hi : x.i ≠ y.i) (h : rless x y = false) : rless y x = true := by
  have h1 : ¬ rless x y = true := by rw [h]; decide
  rw [rl] at h1 ⊢; omega
theorem trans (x y z : R) (h : rless x y = true) (h2 : rless y z = true) : rless x z = true := by
  rw [rl] at h h2 ⊢; omega
def sel (x y z : R) (i j : Nat) : Int := match i, j with
  | 0, 0 => x.d | 0, 1 => x.b | 0, 2 => x.g | 0, _ => x.i
  | 1, 0 => y.d | 1, 1 => y.b | 1, 2 => y.g | 1, _ => y.i
  | _, 0 => z.d | _, 1 => z.b | _, 2 => z.g | _, _ => z.i
theorem walkR (x y z : R) (w : World) : Calls Try.prog 4 #[x.v, y.v, z.v] w fun r w' => r = .returned (.bool true) ∧ Below w.heap.size w w' := by
  have LE : ∀ x y : R, ∀ w, Side (Calls Try.prog 10 #[x.v, y.v] w fun r w' => r = .returned (.bool (rless x y)) ∧ Below w.heap.size w w') := fun x y w => ⟨by
    have := Less_at x y w
    rw [rcmp_less] at this
    exact this⟩
  have XX := fun w => LE x x w
  rw [irr] at XX
  exact OwnRLaws.core (sel x y z) (rless x y) (rless y x) (rless y z) (rless x z) _ (x.i != y.i) w (fun w => ⟨awake_at w⟩) (fun a b c d w => ⟨Made_at ⟨a, b, c, d⟩ w⟩) (fun w => LE x y w) (fun w => LE y x w) (fun w => LE y z w) (fun w => LE x z w) XX
    (asym x y) (fun _ h h2 => tot x y (by simpa using h) h2) (fun _ h h2 => trans x y z h h2) rfl rfl
theorem walk (a0 a1 a2 a3 b0 b1 b2 b3 c0 c1 c2 c3 : Int) (w : World) (_ : (Lit.int .i64 a0).wf = true) (_ : (Lit.int .i64 a1).wf = true) (_ : (Lit.int .i64 a2).wf = true) (_ : (Lit.int .i64 a3).wf = true)
    (_ : (Lit.int .i64 b0).wf = true) (_ : (Lit.int .i64 b1).wf = true) (_ : (Lit.int .i64 b2).wf = true) (_ : (Lit.int .i64 b3).wf = true)
    (_ : (Lit.int .i64 c0).wf = true) (_ : (Lit.int .i64 c1).wf = true) (_ : (Lit.int .i64 c2).wf = true) (_ : (Lit.int .i64 c3).wf = true) :
    Calls Try.prog 4 #[.agg #[.int .i64 a0, .int .i64 a1, .int .i64 a2, .int .i64 a3], .agg #[.int .i64 b0, .int .i64 b1, .int .i64 b2, .int .i64 b3], .agg #[.int .i64 c0, .int .i64 c1, .int .i64 c2, .int .i64 c3]] w fun r w' => r = .returned (.bool true) ∧ Below w.heap.size w w' :=
  walkR ⟨a0, a1, a2, a3⟩ ⟨b0, b1, b2, b3⟩ ⟨c0, c1, c2, c3⟩ w
end Go.Proofs.Ytmjgadhknliiaaa.OwnRLawsT
