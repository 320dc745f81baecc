/- Package heap: the walk of HeapPlays. No condition. -/
import Derived.Test.YtiebpmbongmgkaaHpUp
import Derived.Test.YtiebpmbongmgkaaHpS
import Derived.Test.YtiebpmbongmgkaaHpT
import Derived.Test.YtiebpmbongmgkaaHpR
set_option linter.unusedVariables false
set_option linter.unusedSimpArgs false
namespace Go.Proofs.Ytiebpmbongmgkaa.HpU6
open Go.RowKit Go.Proofs.Ytiebpmbongmgkaa.Kit Go.Proofs.Ytiebpmbongmgkaa.Kit2 Go.Proofs.Ytiebpmbongmgkaa.Kit3 Go.Proofs.Ytiebpmbongmgkaa.Kit4 Go.Proofs.Ytiebpmbongmgkaa.Kit5 HpPlain Go.Maps Go.Proofs.Ytiebpmbongmgkaa.HpA Go.Proofs.Ytiebpmbongmgkaa.HpB Go.Proofs.Ytiebpmbongmgkaa.HpE Go.Proofs.Ytiebpmbongmgkaa.HpG Go.Proofs.Ytiebpmbongmgkaa.HpI Go.Proofs.Ytiebpmbongmgkaa.HpK Go.Proofs.Ytiebpmbongmgkaa.HpL Go.Proofs.Ytiebpmbongmgkaa.HpN Go.Proofs.Ytiebpmbongmgkaa.HpO Go.Proofs.Ytiebpmbongmgkaa.HpP Go.Proofs.Ytiebpmbongmgkaa.HpT Go.Proofs.Ytiebpmbongmgkaa.HpR
open Go.Proofs.YtiebpmbongmgkaaW.PrintLast
set_option maxHeartbeats 400000000 in
set_option maxRecDepth 100000 in
theorem piece : HpUp.part.2.2.2.2.2.1 := by
  set_option tactic.hygienic false in (intro _; intros)
  clear b0 HTOP HDD
  have b1 := HA.out.bx.cell 1 _ rfl
  rcases HAT.out with ⟨rfl, hh, hm⟩ | ⟨q, hq, rfl, -, hh, hm⟩
  · have HH := Side.mk hh
    have HM := Side.mk hm
    clear hh hm HAT
    go_wp2_with fail
    refine (Drop_st (HA.out.pl.st.below' (by (repeat (with_reducible first | exact Below.refl _ _ | apply below_drewN | apply below_drew | apply below_alloc)))) hml y.2.1 HWF.out false HH.out _ HM.out).mono ?_
    rintro e w2 ⟨rfl, s2, f2⟩
    have HN : Side (Pc w gh kind (.slice a6 ms.length c6) ms (-1) w2) := ⟨⟨s2, DRow.fr (HA.out.pl.row.below (by (repeat (with_reducible first | exact Below.refl _ _ | apply below_drewN | apply below_drew | apply below_alloc)))) f2⟩⟩
    clear s2 f2 HA b1 hpl HM HH
    go_wp2
    go_meet
    case rel => exact ⟨ms, -1, rfl, .inl rfl, by omega, HN⟩
  · have HH := Side.mk hh
    have HM := Side.mk hm
    clear hh hm HAT
    have hq0 : (0 : Int) ≤ q := by omega
    go_wp2_with fail
    refine (Drop_st (HA.out.pl.st.below' (by (repeat (with_reducible first | exact Below.refl _ _ | apply below_drewN | apply below_drew | apply below_alloc)))) hml y.2.1 HWF.out true HH.out _ HM.out).mono ?_
    rintro e w2 ⟨rfl, s2, f2⟩
    have HN : Side (Pc w gh kind (.slice a6 ms.length c6) ms q w2) := ⟨⟨s2, DRow.fr (HA.out.pl.row.below (by (repeat (with_reducible first | exact Below.refl _ _ | apply below_drewN | apply below_drew | apply below_alloc)))) f2⟩⟩
    clear s2 f2 HA b1 hpl HM HH
    go_wp2
    go_meet
    case rel => exact ⟨ms, q, rfl, .inr ⟨q, hq, rfl⟩, by omega, HN⟩
end Go.Proofs.Ytiebpmbongmgkaa.HpU6
