/- Package heap, twelfth text: Made; awake. No condition. -/
import Derived.Test.YtiebpmbongmgkaaHpK
set_option linter.unusedVariables false
set_option linter.unusedSimpArgs false
namespace Go.Proofs.Ytiebpmbongmgkaa.HpL
open Go.RowKit Go.Proofs.Ytiebpmbongmgkaa.Kit Go.Proofs.Ytiebpmbongmgkaa.Kit3 Go.Proofs.Ytiebpmbongmgkaa.Kit4 HpPlain Go.Maps Go.Proofs.Ytiebpmbongmgkaa.HpA Go.Proofs.Ytiebpmbongmgkaa.HpB Go.Proofs.Ytiebpmbongmgkaa.HpG Go.Proofs.Ytiebpmbongmgkaa.HpI Go.Proofs.Ytiebpmbongmgkaa.HpK
open Go.Proofs.YtiebpmbongmgkaaW.PrintLast
set_option maxHeartbeats 1000000 in
set_option maxRecDepth 100000 in
theorem Made_at (d b g i : Int) (w : World) : Calls Try.prog 11 #[.agg #[.int .i64 d, .int .i64 b, .int .i64 g, .int .i64 i]] w fun r w' => r = .returned (.agg #[.int .i64 d, .int .i64 b, .int .i64 g, .int .i64 i]) ∧ Below w.heap.size w w' := by
  go_enter Try.func11, Try.ntmps11
  go_wp2
  repeat (go_quiet (fail); try go_wp2)
  exact bodyPost_ret (v := .agg #[.int .i64 d, .int .i64 b, .int .i64 g, .int .i64 i]) (by simp [results, Try.results11, go_sem]) rfl ⟨rfl, by (repeat (with_reducible first | exact Below.refl _ _ | apply below_drewN | apply below_drew | apply below_alloc | refine Below.setCell ?_ ?_ _)) <;> simp⟩
theorem MadeS (d b g i : Int) (w : World) : Side (Calls Try.prog 11 #[.agg #[.int .i64 d, .int .i64 b, .int .i64 g, .int .i64 i]] w fun r w' => r = .returned (.agg #[.int .i64 d, .int .i64 b, .int .i64 g, .int .i64 i]) ∧ Below w.heap.size w w') := ⟨Made_at d b g i w⟩
def a1 : List It := put [] (3, 5, 0, 0, 0)
def a2 : List It := put a1 (4, 2, 0, 0, 0)
theorem a2_top : Tops 2 a2 (4, 2, 0, 0, 0) true := by
  refine .inr ⟨⟨by decide, by decide⟩, rfl⟩
theorem a2_len : a1.length = 1 ∧ a2.length = 2 := by decide
set_option maxHeartbeats 4000000 in
set_option maxRecDepth 100000 in
theorem awake_at (w : World) : Calls Try.prog 8 #[] w fun r w' => r = .returned (.bool true) ∧ Below w.heap.size w w' := by
  have A := Side.mk a2_len
  have T := Side.mk a2_top
  go_enter Try.func8, Try.ntmps8
  go_wp2_with fail
  refine (New_at _ 2).mono ?_
  rintro e w1 ⟨rfl, rfl⟩
  have S0 := Side.mk (St.start (Below.refl w.heap.size w) 2)
  generalize w.heap.size + 1 = gh at *
  generalize (w.alloc (.map #[] 0)).alloc (.cells #[.int .i64 2, .slice none 0 0, .map (some w.heap.size)] 53) = w1 at *
  go_wp2_with fail
  refine (MadeS _ _ _ _ _).out.mono ?_
  rintro e w2 ⟨rfl, hb⟩
  have S1 := Side.mk (S0.out.below' hb)
  clear S0 hb
  go_wp2_with fail
  refine (Put_st S1.out (by simp) (3, 5, 0, 0, 0) (by decide) a1 rfl).mono ?_
  rintro e w3 ⟨rfl, s2, _⟩
  have S2 := Side.mk s2
  clear s2 S1
  go_wp2_with fail
  refine (MadeS _ _ _ _ _).out.mono ?_
  rintro e w4 ⟨rfl, hb⟩
  have S3 := Side.mk (S2.out.below' hb)
  clear S2 hb
  go_wp2_with fail
  refine (Put_st S3.out (by rw [A.out.1]; omega) (4, 2, 0, 0, 0) (by decide) a2 rfl).mono ?_
  rintro e w5 ⟨rfl, s4, _⟩
  have S4 := Side.mk s4
  clear s4 S3
  go_wp2_with fail
  refine (Top_st S4.out (by rw [A.out.2]; omega) _ _ T.out).mono ?_
  rintro e w6 ⟨rfl, s5, _⟩
  have S5 := Side.mk s5
  clear s5 S4
  go_wp2_with fail
  refine (Len_st (S5.out.below' (by (repeat (with_reducible first | exact Below.refl _ _ | apply below_drewN | apply below_drew | apply below_alloc)))) 2 A.out.2).mono ?_
  rintro e w7 ⟨rfl, rfl⟩
  go_wp2
  go_ret
  exact ⟨rfl, (S5.out.below' (by (repeat (with_reducible first | exact Below.refl _ _ | apply below_drewN | apply below_drew | apply below_alloc)))).below⟩
end Go.Proofs.Ytiebpmbongmgkaa.HpL
