/- Package calendar: the walk of CalendarPlays. No condition. -/
import Derived.Test.YtbppjaglgbhckaaCbBp
set_option linter.unusedVariables false
set_option linter.unusedSimpArgs false
namespace Go.Proofs.Ytbppjaglgbhckaa.CbF
open Go.RowKit Go.Proofs.Ytbppjaglgbhckaa.Kit Go.Proofs.Ytbppjaglgbhckaa.Kit2 Go.Proofs.Ytbppjaglgbhckaa.Kit4 Go.Proofs.Ytbppjaglgbhckaa.Kit5 Go.Proofs.Ytbppjaglgbhckaa.CaA Go.Proofs.Ytbppjaglgbhckaa.CaG Go.Proofs.Ytbppjaglgbhckaa.CaH Go.Proofs.Ytbppjaglgbhckaa.CaI Go.Proofs.Ytbppjaglgbhckaa.CaK Go.Proofs.Ytbppjaglgbhckaa.CaM Go.Proofs.Ytbppjaglgbhckaa.CaN Go.Proofs.Ytbppjaglgbhckaa.CaP Go.Proofs.Ytbppjaglgbhckaa.CaQ Go.Proofs.Ytbppjaglgbhckaa.CaR Go.Proofs.Ytbppjaglgbhckaa.CaT Go.Proofs.Ytbppjaglgbhckaa.CaX Go.Proofs.Ytbppjaglgbhckaa.CaY Go.Proofs.Ytbppjaglgbhckaa.CaZ Go.Proofs.Ytbppjaglgbhckaa.CbA
open Go.Proofs.YtbppjaglgbhckaaW.PrintLast Go.Proofs.Ytbppjaglgbhckaa.CbBp
set_option maxHeartbeats 400000000 in
set_option maxRecDepth 100000 in
theorem piece : CbBp.part.2.2.2.1 := by
  set_option tactic.hygienic false in (intro _; intros)
  have hd5 : dd = 0 ∨ dd = 1 ∨ dd = 2 ∨ dd = 3 ∨ (¬ dd = 0 ∧ ¬ dd = 1 ∧ ¬ dd = 2 ∧ ¬ dd = 3) := by omega
  rcases hd5 with rfl | rfl | rfl | rfl | ⟨h0, h1, h2, h3⟩
  · obtain rfl : bb = true := HBB.out
    obtain rfl : e0 = true := HE0.out
    go_wp2
    go_meet
    case rel => exact ⟨rfl, rfl⟩
  · obtain rfl : bb = true := HBB.out
    obtain rfl : e0 = false := HE0.out
    go_wp2
    go_meet
    case rel => exact ⟨rfl, rfl⟩
  · obtain rfl : bb = true := HBB.out
    obtain rfl : e0 = false := HE0.out
    go_wp2
    go_meet
    case rel => exact ⟨rfl, rfl⟩
  · obtain rfl : bb = true := HBB.out
    obtain rfl : e0 = false := HE0.out
    go_wp2
    go_meet
    case rel => exact ⟨rfl, rfl⟩
  · obtain rfl : bb = false := by rw [HBB.out]; simp [h0, h1, h2, h3]
    obtain rfl : e0 = false := by rw [HE0.out]; simp [h0]
    clear HBB HE0
    go_upto_region 15 with (fail)
    go_cut [35] (fun v we => v = .bool false ∧ we = wc)
    case first =>
      go_wp2
      go_meet
      case rel => exact ⟨by simp [h1], rfl⟩
    case rest =>
    obtain ⟨rfl, hw1⟩ := hcut
    go_step
    go_upto_region 16 with (fail)
    go_cut [35] (fun v we => v = .bool false ∧ we = wc)
    case first =>
      go_wp2
      go_meet
      case rel => exact ⟨by simp [h2], by first | rfl | exact hw1 | exact hw1.symm⟩
    case rest =>
    obtain ⟨rfl, hw2⟩ := hcut
    go_step
    go_wp2
    go_meet
    case rel => exact ⟨by simp [h3], by first | rfl | exact hw1 | exact hw1.symm | exact hw2 | exact hw2.symm | (rw [hw2, hw1])⟩

end Go.Proofs.Ytbppjaglgbhckaa.CbF
