/- The reference's RankLess, walked by hand. No condition. -/
import Derived.Test.YtiebpmbongmgkaaRankC
set_option linter.unusedVariables false
set_option linter.unusedSimpArgs false
namespace Go.Proofs.Ytiebpmbongmgkaa.Rank
open Go.RowKit Go.Proofs.Ytiebpmbongmgkaa.Kit Go.Proofs.Ytiebpmbongmgkaa.Cmp
def rless (x y : R) : Bool := if x.d ≠ y.d then decide (x.d < y.d) else if x.b ≠ y.b then decide (y.b < x.b) else if x.b = 1 ∧ x.g ≠ y.g then decide (y.g < x.g) else decide (x.i < y.i)
set_option maxHeartbeats 1000000 in
set_option maxRecDepth 100000 in
theorem RankLess_at (x y : R) (w : World) : Calls Try.prog 19 #[x.v, y.v] w fun r w' => r = .returned (.bool (rless x y)) ∧ Below w.heap.size w w' := by
  obtain ⟨xd, xb, xg, xi⟩ := x
  obtain ⟨yd, yb, yg, yi⟩ := y
  have R0 : Side (rless ⟨xd, xb, xg, xi⟩ ⟨yd, yb, yg, yi⟩ = if xd ≠ yd then decide (xd < yd) else if xb ≠ yb then decide (yb < xb) else if xb = 1 ∧ xg ≠ yg then decide (yg < xg) else decide (xi < yi)) := ⟨rfl⟩
  generalize rless ⟨xd, xb, xg, xi⟩ ⟨yd, yb, yg, yi⟩ = q at *
  have hc : ((xd != yd) = true ∧ Side (decide (xd < yd) = q)) ∨ ((xd != yd) = false ∧ (xb != yb) = true ∧ Side (decide (yb < xb) = q)) ∨ ((xd != yd) = false ∧ (xb != yb) = false ∧ (xb == 1) = true ∧ (xg != yg) = true ∧ Side (decide (yg < xg) = q))
      ∨ ((xd != yd) = false ∧ (xb != yb) = false ∧ (xb == 1) = true ∧ (xg != yg) = false ∧ Side (decide (xi < yi) = q)) ∨ ((xd != yd) = false ∧ (xb != yb) = false ∧ (xb == 1) = false ∧ Side (decide (xi < yi) = q)) := by
    by_cases h1 : xd = yd
    · by_cases h2 : xb = yb
      · by_cases h3 : xb = 1
        · by_cases h4 : xg = yg
          · exact .inr (.inr (.inr (.inl ⟨bne_eq_false_iff_eq.2 h1, bne_eq_false_iff_eq.2 h2, beq_iff_eq.2 h3, bne_eq_false_iff_eq.2 h4, ⟨by rw [R0.out, if_neg (fun h => h h1), if_neg (fun h => h h2), if_neg (fun h => h.2 h4)]⟩⟩)))
          · exact .inr (.inr (.inl ⟨bne_eq_false_iff_eq.2 h1, bne_eq_false_iff_eq.2 h2, beq_iff_eq.2 h3, bne_iff_ne.2 h4, ⟨by rw [R0.out, if_neg (fun h => h h1), if_neg (fun h => h h2), if_pos ⟨h3, h4⟩]⟩⟩))
        · exact .inr (.inr (.inr (.inr ⟨bne_eq_false_iff_eq.2 h1, bne_eq_false_iff_eq.2 h2, beq_eq_false_iff_ne.2 h3, ⟨by rw [R0.out, if_neg (fun h => h h1), if_neg (fun h => h h2), if_neg (fun h => h3 h.1)]⟩⟩)))
      · exact .inr (.inl ⟨bne_eq_false_iff_eq.2 h1, bne_iff_ne.2 h2, ⟨by rw [R0.out, if_neg (fun h => h h1), if_pos h2]⟩⟩)
    · exact .inl ⟨bne_iff_ne.2 h1, ⟨by rw [R0.out, if_pos h1]⟩⟩
  clear R0
  rcases hc with ⟨b1, Q⟩ | ⟨b1, b2, Q⟩ | ⟨b1, b2, b3, b4, Q⟩ | ⟨b1, b2, b3, b4, Q⟩ | ⟨b1, b2, b3, Q⟩
  all_goals
    go_enter Try.func19, Try.ntmps19
    go_wp2
    go_ret
    exact ⟨ret_bool Q.out, by (repeat (with_reducible first | exact Below.refl _ _ | apply below_drewN | apply below_drew | apply below_alloc | refine Below.setCell ?_ ?_ _)) <;> simp⟩
end Go.Proofs.Ytiebpmbongmgkaa.Rank
