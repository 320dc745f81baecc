/- slices.symMergeCmpFunc over ranks: a piece. No condition. -/
import Derived.Test.YtmjgadhknliiaaaSoGp
set_option linter.unusedVariables false
set_option linter.unusedSimpArgs false
namespace Go.Proofs.Ytmjgadhknliiaaa.SoG1
open Go.RowKit Go.Proofs.Ytmjgadhknliiaaa.Kit Go.Proofs.Ytmjgadhknliiaaa.Kit3 Go.Proofs.Ytmjgadhknliiaaa.Kit4 Go.Proofs.Ytmjgadhknliiaaa.Kit5 Go.Proofs.Ytmjgadhknliiaaa.Rank Go.Proofs.Ytmjgadhknliiaaa.SoA Go.Proofs.Ytmjgadhknliiaaa.SoD Go.Proofs.Ytmjgadhknliiaaa.SoC Go.Proofs.Ytmjgadhknliiaaa.SoE Go.Proofs.Ytmjgadhknliiaaa.SoF SoPlain Go.Proofs.Ytmjgadhknliiaaa.SoGp
open Go.Proofs.YtmjgadhknliiaaaW.PrintLast
set_option maxHeartbeats 400000000 in
set_option maxRecDepth 100000 in
theorem piece : SoGp.part.1 := by
  set_option tactic.hygienic false in (intro _; intros)
  clear HF8 HF9 HM2 HC2 HI O1 O2 HMID
  by_cases c1 : s < lm
  · have c1i : (s : Int) < lm := by omega
    by_cases c2 : lm < e
    · obtain rfl : q1 = true := by rw [hq1, decide_eq_true c1, decide_eq_true c2]; rfl
      have c2i : (lm : Int) < e := by omega
      clear hq1
      go_wp2
      go_meet
      case rel => exact ⟨by first | rfl | simp [c1i, c2i] | simp [c1, c2], rfl⟩
    · obtain rfl : q1 = false := by rw [hq1, decide_eq_false c2, Bool.and_false]
      have c2i : ¬ (lm : Int) < e := by omega
      clear hq1
      go_wp2
      go_meet
      case rel => exact ⟨by first | rfl | simp [c1i, c2i] | simp [c1, c2], rfl⟩
  · obtain rfl : q1 = false := by rw [hq1, decide_eq_false c1, Bool.false_and]
    have c1i : ¬ (s : Int) < lm := by omega
    clear hq1
    go_wp2
    go_meet
    case rel => exact ⟨by first | rfl | simp [c1i] | simp [c1], rfl⟩
end Go.Proofs.Ytmjgadhknliiaaa.SoG1
