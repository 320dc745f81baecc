/- Package heap: the walk of HeapPlays. No condition. -/
import Derived.Test.YtiebpmbongmgkaaHpUp
import Derived.Test.YtiebpmbongmgkaaHpS
import Derived.Test.YtiebpmbongmgkaaHpT
import Derived.Test.YtiebpmbongmgkaaHpR
set_option linter.unusedVariables false
set_option linter.unusedSimpArgs false
namespace Go.Proofs.Ytiebpmbongmgkaa.HpU7
open Go.RowKit Go.Proofs.Ytiebpmbongmgkaa.Kit Go.Proofs.Ytiebpmbongmgkaa.Kit2 Go.Proofs.Ytiebpmbongmgkaa.Kit3 Go.Proofs.Ytiebpmbongmgkaa.Kit4 Go.Proofs.Ytiebpmbongmgkaa.Kit5 HpPlain Go.Maps Go.Proofs.Ytiebpmbongmgkaa.HpA Go.Proofs.Ytiebpmbongmgkaa.HpB Go.Proofs.Ytiebpmbongmgkaa.HpE Go.Proofs.Ytiebpmbongmgkaa.HpG Go.Proofs.Ytiebpmbongmgkaa.HpI Go.Proofs.Ytiebpmbongmgkaa.HpK Go.Proofs.Ytiebpmbongmgkaa.HpL Go.Proofs.Ytiebpmbongmgkaa.HpN Go.Proofs.Ytiebpmbongmgkaa.HpO Go.Proofs.Ytiebpmbongmgkaa.HpP Go.Proofs.Ytiebpmbongmgkaa.HpT Go.Proofs.Ytiebpmbongmgkaa.HpR
open Go.Proofs.YtiebpmbongmgkaaW.PrintLast
set_option maxHeartbeats 400000000 in
set_option maxRecDepth 100000 in
theorem piece : HpUp.part.2.2.2.2.2.2.1 := by
  set_option tactic.hygienic false in (intro _; intros)
  have HN : Side (Pc w gh kind (.slice a6 ms.length c6) ms (-1) wq) := ⟨⟨HA.out.pl.st, HA.out.pl.row⟩⟩
  clear HTOP HAT HA HWF hml hpl b0
  go_upto_region 36 with (fail)
  go_cut [104] (fun v we => v = .bool false ∧ Side (Pc w gh kind (.slice a6 ms.length c6) ms (-1) we))
  case first =>
    go_wp2
    go_meet
    case rel => exact ⟨by simp [h4], HN⟩
  case rest =>
  obtain ⟨rfl, HN'⟩ := hcut
  clear HN
  have HN := HN'
  clear HN'
  go_step
  go_upto_region 37 with (fail)
  go_cut [104] (fun v we => v = .bool false ∧ Side (Pc w gh kind (.slice a6 ms.length c6) ms (-1) we))
  case first =>
    go_wp2
    go_meet
    case rel => exact ⟨by simp [h5], HN⟩
  case rest =>
  obtain ⟨rfl, HN'⟩ := hcut
  clear HN
  have HN := HN'
  clear HN'
  go_step
  go_upto_region 44 with (fail)
  go_cut [163] (fun v we => v = .bool false ∧ Side (Pc w gh kind (.slice a6 ms.length c6) ms (-1) we))
  case first =>
    go_wp2
    go_meet
    case rel => exact ⟨by simp [h6], HN⟩
  case rest =>
  obtain ⟨rfl, HN'⟩ := hcut
  clear HN
  have HN := HN'
  clear HN'
  go_step
  go_wp2
  go_meet
  case rel => exact ⟨ms, -1, rfl, .inl rfl, by omega, HN⟩
end Go.Proofs.Ytiebpmbongmgkaa.HpU7
