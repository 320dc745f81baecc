/- Package calendar: CalendarKnown. No condition. -/
import Derived.Test.YtbppjaglgbhckaaCaR
set_option linter.unusedVariables false
set_option linter.unusedSimpArgs false
namespace Go.Proofs.Ytbppjaglgbhckaa.CaS
open Go.RowKit Go.Proofs.Ytbppjaglgbhckaa.Kit Go.Proofs.Ytbppjaglgbhckaa.Kit4 Go.Proofs.Ytbppjaglgbhckaa.CaA Go.Proofs.Ytbppjaglgbhckaa.CaB Go.Proofs.Ytbppjaglgbhckaa.CaC Go.Proofs.Ytbppjaglgbhckaa.CaD Go.Proofs.Ytbppjaglgbhckaa.CaF Go.Proofs.Ytbppjaglgbhckaa.CaG Go.Proofs.Ytbppjaglgbhckaa.CaH Go.Proofs.Ytbppjaglgbhckaa.CaI Go.Proofs.Ytbppjaglgbhckaa.CaJ Go.Proofs.Ytbppjaglgbhckaa.CaK Go.Proofs.Ytbppjaglgbhckaa.CaL Go.Proofs.Ytbppjaglgbhckaa.CaM Go.Proofs.Ytbppjaglgbhckaa.CaN Go.Proofs.Ytbppjaglgbhckaa.CaO Go.Proofs.Ytbppjaglgbhckaa.CaP Go.Proofs.Ytbppjaglgbhckaa.CaQ Go.Proofs.Ytbppjaglgbhckaa.CaR
set_option maxHeartbeats 4000000 in
set_option maxRecDepth 100000 in
theorem walk (w : World) : Calls Try.prog 5 #[] w fun r w' => r = .returned (.bool true) ∧ Below w.heap.size w w' := by
  go_enter Try.func5, Try.ntmps5
  go_wp2_with fail
  refine (awake_at w).mono ?_
  rintro e wa ⟨rfl, hb⟩
  have HA := Side.mk hb
  clear hb
  go_wp2_with fail
  refine (New_at wa).mono ?_
  rintro e w1 ⟨rfl, rfl⟩
  have S0 := Side.mk (St.start HA.out)
  obtain ⟨gq, hgq⟩ : ∃ gq, gq = wa.heap.size := ⟨_, rfl⟩
  rw [← hgq] at S0 ⊢
  clear hgq HA
  generalize wa.alloc _ = w1 at *
  go_wp2_with fail
  refine (Next_st S0.out (by decide) (0) false rfl rfl).mono ?_
  rintro e x0 ⟨rfl, hb⟩
  have S1 := Side.mk (S0.out.below' hb)
  clear S0 hb
  go_wp2_with fail
  refine (Put_st S1.out (by decide) (3) 7 [(3, 7)] (by decide)).mono ?_
  rintro e x1 ⟨rfl, s1, -⟩
  have S2 := Side.mk s1
  clear S1 s1
  go_wp2_with fail
  refine (Put_st S2.out (by decide) (3) 5 [(3, 5), (3, 7)] (by decide)).mono ?_
  rintro e x2 ⟨rfl, s1, -⟩
  have S3 := Side.mk s1
  clear S2 s1
  go_wp2_with fail
  refine (Put_st S3.out (by decide) (-2) 7 [(-2, 7), (3, 5), (3, 7)] (by decide)).mono ?_
  rintro e x3 ⟨rfl, s1, -⟩
  have S4 := Side.mk s1
  clear S3 s1
  go_wp2_with fail
  refine (Put_st S4.out (by decide) (3) 7 [(-2, 7), (3, 5), (3, 7), (3, 7)] (by decide)).mono ?_
  rintro e x4 ⟨rfl, s1, -⟩
  have S5 := Side.mk s1
  clear S4 s1
  go_wp2_with fail
  refine (Put_st S5.out (by decide) (9) 1 [(-2, 7), (3, 5), (3, 7), (3, 7), (9, 1)] (by decide)).mono ?_
  rintro e x5 ⟨rfl, s1, -⟩
  have S6 := Side.mk s1
  clear S5 s1
  go_wp2_with fail
  refine (Next_st S6.out (by decide) (-2) true rfl rfl).mono ?_
  rintro e x6 ⟨rfl, hb⟩
  have S7 := Side.mk (S6.out.below' hb)
  clear S6 hb
  go_wp2_with fail
  refine (Due_st S7.out (by decide) 3 4 (by decide)).mono ?_
  rintro e x7 ⟨vo, rfl, hi, s1, -⟩
  have S8 := Side.mk s1
  have HI := Side.mk hi
  obtain ⟨ao, co, rfl⟩ := IRow.shape hi
  clear S7 s1 hi
  go_wp2_with fail
  refine (Len_st S8.out 1 rfl).mono ?_
  rintro e x8 ⟨rfl, hb⟩
  have S9 := Side.mk (S8.out.below' hb)
  have HI1 := Side.mk (IRow.below HI.out hb)
  clear S8 hb HI
  go_wp2_with fail
  refine (Put_st S9.out (by decide) 1 1 [(1, 1), (9, 1)] (by decide)).mono ?_
  rintro e x9 ⟨rfl, s1, f1⟩
  have S10 := Side.mk s1
  have HI2 := Side.mk (IRow.fr HI1.out f1)
  clear S9 s1 f1 HI1
  go_wp2_with fail
  refine (Drop_st S10.out (by decide) 1 [] (by decide)).mono ?_
  rintro e x10 ⟨rfl, s1, f1⟩
  have S11 := Side.mk s1
  have HI3 := IRow.fr HI2.out f1
  rcases HI3.read with ⟨_, h0⟩ | ⟨g, cap, hv, _, hg, _, _, hr⟩
  · simp [ids] at h0
  simp at hv
  obtain ⟨rfl, rfl⟩ := hv
  have r0 := hr 0 7 rfl
  have r1 := hr 1 5 rfl
  have r2 := hr 2 7 rfl
  have r3 := hr 3 7 rfl
  clear S10 s1 f1 HI2 HI3 hr
  go_wp2_with fail
  refine (Len_st (S11.out.below' (by (repeat (with_reducible first | exact Below.refl _ _ | apply below_drewN | apply below_drew | apply below_alloc)))) 0 rfl).mono ?_
  rintro e x11 ⟨rfl, hb⟩
  have S12 := Side.mk ((S11.out.below' (by (repeat (with_reducible first | exact Below.refl _ _ | apply below_drewN | apply below_drew | apply below_alloc)))).below' hb)
  clear S11 hb
  go_wp2_with fail
  refine (Due_st S12.out (by decide) 100 0 (by decide)).mono ?_
  rintro e x12 ⟨vo, rfl, hi, s1, -⟩
  have S13 := Side.mk s1
  obtain ⟨au, cu, rfl⟩ := IRow.shape hi
  clear S12 s1 hi
  go_wp2_with fail
  refine (Drop_st S13.out (by decide) 1 [] (by decide)).mono ?_
  rintro e x13 ⟨rfl, s1, -⟩
  have HB := Side.mk s1.below
  clear s1 S13
  go_wp2
  go_ret
  exact ⟨rfl, HB.out⟩
end Go.Proofs.Ytbppjaglgbhckaa.CaS
