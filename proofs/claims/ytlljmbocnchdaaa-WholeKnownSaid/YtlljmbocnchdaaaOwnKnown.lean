/- The law evenhandedlaw1.WholeKnown: numbers by hand, at their ends: a walk of the law's own code over the printed contracts of what it calls. No condition. -/
import Derived.Test.YtlljmbocnchdaaaPlain
import Derived.Shelf.Bits.Mul64
import Derived.Test.YtlljmbocnchdaaaPWholeKnownx2
import Derived.Deep.RegionWith
import Derived.Outline
set_option linter.unusedVariables false
set_option linter.unusedSimpArgs false
namespace Go.Proofs.Ytlljmbocnchdaaa.OwnKnown
open Go.RowKit Go.Proofs.Ytlljmbocnchdaaa.PWholeKnown Go.Proofs.YtlljmbocnchdaaaW.PrintWords Go.Proofs.YtlljmbocnchdaaaW.PrintLast Go.Proofs.YtlljmbocnchdaaaW.PrintMore WhPlain
theorem aw : evenhandedlaw1_awake.f 30 = some true := by decide +kernel
theorem c0 : whole_Add.f 9223372036854775807 1 = some (0, 14) := by decide +kernel
theorem c1 : whole_Add.f (-9223372036854775808) (-1) = some (0, 14) := by decide +kernel
theorem c2 : whole_Add.f (-9223372036854775808) 9223372036854775807 = some (-1, 0) := by decide +kernel
theorem c3 : whole_Mul.f 5 (-9223372036854775808) (-1) = some (0, 14) := by decide +kernel
theorem c4 : whole_Mul.f 5 (-2147483648) 4294967296 = some ((-9223372036854775808), 0) := by decide +kernel
theorem c5 : whole_Lcm.f 200 9223372036854775807 9223372036854775806 = some (0, 14) := by decide +kernel
theorem c6 : whole_Floor.f 5 (-9223372036854775808) (-1) = some (0, 14) := by decide +kernel
theorem c7 : whole_Ceil.f 5 7 (-2) = some (-3, 0) := by decide +kernel
theorem c8 : whole_Floor.f 5 (-9223372036854775808) 1 = some ((-9223372036854775808), 0) := by decide +kernel
theorem c9 : whole_Gcd.f 200 0 0 = some 0 := by decide +kernel
theorem c10 : whole_Gcd.f 200 (-9223372036854775808) 0 = some 0 := by decide +kernel
theorem c11 : whole_Gcd.f 200 (-9223372036854775808) 6 = some 2 := by decide +kernel
theorem c12 : whole_Gcd.f 200 (-4) 6 = some 2 := by decide +kernel
theorem c13 : whole_Cross.f 9 (-9223372036854775808) (-9223372036854775808) 9223372036854775807 9223372036854775807 = some 1 := by decide +kernel
theorem c14 : whole_Cross.f 9 (-9223372036854775808) 9223372036854775807 9223372036854775807 (-9223372036854775808) = some 0 := by decide +kernel
theorem c15 : whole_Cross.f 9 0 5 1 (-1) = some 1 := by decide +kernel
set_option maxHeartbeats 4000000 in
set_option maxRecDepth 100000 in
theorem walk (w : World) : Calls Try.prog 8 #[] w fun e w' => e = .returned (.bool true) ∧ Below w.heap.size w w' := by
  go_enter Try.func8, Try.ntmps8
  go_wp2_with (first
    | (go_at_call 10; (with_reducible refine (evenhandedlaw1_awake.calls 30 true _ aw).mono ?_); rintro e wa ⟨rfl, hba⟩)
    | (go_at_call 14; (with_reducible refine (whole_Add.calls 9223372036854775807 1 _ _ _ c0).mono ?_); rintro e w0 ⟨rfl, hb0⟩)
    | (go_at_call 14; (with_reducible refine (whole_Add.calls (-9223372036854775808) (-1) _ _ _ c1).mono ?_); rintro e w1 ⟨rfl, hb1⟩)
    | (go_at_call 14; (with_reducible refine (whole_Add.calls (-9223372036854775808) 9223372036854775807 _ _ _ c2).mono ?_); rintro e w2 ⟨rfl, hb2⟩)
    | (go_at_call 16; (with_reducible refine (whole_Mul.calls 5 (-9223372036854775808) (-1) _ _ _ c3).mono ?_); rintro e w3 ⟨rfl, hb3⟩)
    | (go_at_call 16; (with_reducible refine (whole_Mul.calls 5 (-2147483648) 4294967296 _ _ _ c4).mono ?_); rintro e w4 ⟨rfl, hb4⟩)
    | (go_at_call 12; (with_reducible refine (whole_Lcm.calls 200 9223372036854775807 9223372036854775806 _ _ _ c5).mono ?_); rintro e w5 ⟨rfl, hb5⟩)
    | (go_at_call 20; (with_reducible refine (whole_Floor.calls 5 (-9223372036854775808) (-1) _ _ _ c6).mono ?_); rintro e w6 ⟨rfl, hb6⟩)
    | (go_at_call 21; (with_reducible refine (whole_Ceil.calls 5 7 (-2) _ _ _ c7).mono ?_); rintro e w7 ⟨rfl, hb7⟩)
    | (go_at_call 20; (with_reducible refine (whole_Floor.calls 5 (-9223372036854775808) 1 _ _ _ c8).mono ?_); rintro e w8 ⟨rfl, hb8⟩)
    | (go_at_call 11; (with_reducible refine (whole_Gcd.calls 200 0 0 _ _ c9).mono ?_); rintro e w9 ⟨rfl, hb9⟩)
    | (go_at_call 11; (with_reducible refine (whole_Gcd.calls 200 (-9223372036854775808) 0 _ _ c10).mono ?_); rintro e w10 ⟨rfl, hb10⟩)
    | (go_at_call 11; (with_reducible refine (whole_Gcd.calls 200 (-9223372036854775808) 6 _ _ c11).mono ?_); rintro e w11 ⟨rfl, hb11⟩)
    | (go_at_call 11; (with_reducible refine (whole_Gcd.calls 200 (-4) 6 _ _ c12).mono ?_); rintro e w12 ⟨rfl, hb12⟩)
    | (go_at_call 13; (with_reducible refine (whole_Cross.calls 9 (-9223372036854775808) (-9223372036854775808) 9223372036854775807 9223372036854775807 _ _ c13).mono ?_); rintro e w13 ⟨rfl, hb13⟩)
    | (go_at_call 13; (with_reducible refine (whole_Cross.calls 9 (-9223372036854775808) 9223372036854775807 9223372036854775807 (-9223372036854775808) _ _ c14).mono ?_); rintro e w14 ⟨rfl, hb14⟩)
    | (go_at_call 13; (with_reducible refine (whole_Cross.calls 9 0 5 1 (-1) _ _ c15).mono ?_); rintro e w15 ⟨rfl, hb15⟩))
  go_ret
  refine ⟨rfl, ?_⟩
  have g0 := below_then hba hba.size hb0.below
  have g1 := below_then g0 g0.size hb1.below
  have g2 := below_then g1 g1.size hb2.below
  have g3 := below_then g2 g2.size hb3.below
  have g4 := below_then g3 g3.size hb4.below
  have g5 := below_then g4 g4.size hb5.below
  have g6 := below_then g5 g5.size hb6.below
  have g7 := below_then g6 g6.size hb7.below
  have g8 := below_then g7 g7.size hb8.below
  have g9 := below_then g8 g8.size hb9.below
  have g10 := below_then g9 g9.size hb10.below
  have g11 := below_then g10 g10.size hb11.below
  have g12 := below_then g11 g11.size hb12.below
  have g13 := below_then g12 g12.size hb13
  have g14 := below_then g13 g13.size hb14
  have g15 := below_then g14 g14.size hb15
  exact g15
end Go.Proofs.Ytlljmbocnchdaaa.OwnKnown
