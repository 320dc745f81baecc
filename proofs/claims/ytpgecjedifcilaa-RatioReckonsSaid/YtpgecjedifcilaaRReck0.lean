/- Package ratio: the walk of RatioReckons over contracts that are handed in. No condition beyond them. -/
import Derived.Test.YtpgecjedifcilaaRaI
set_option linter.unusedVariables false
set_option linter.unusedSimpArgs false
namespace Go.Proofs.Ytpgecjedifcilaa.RReck0
open Go.RowKit Go.Proofs.Ytpgecjedifcilaa.Kit Go.Proofs.Ytpgecjedifcilaa.RaB Go.Proofs.Ytpgecjedifcilaa.RaI
open Go.Proofs.YtpgecjedifcilaaW.PrintLast
open Go.Proofs.YtpgecjedifcilaaW.PrintWords (run_store_run)
attribute [local go_sem] Go.Proofs.YtpgecjedifcilaaW.PrintMore.max2_int Go.Proofs.YtpgecjedifcilaaW.PrintMore.min2_int Go.Proofs.YtpgecjedifcilaaW.PrintMore.max_two Go.Proofs.YtpgecjedifcilaaW.PrintMore.min_two
set_option maxHeartbeats 32000000 in
set_option maxRecDepth 100000 in
theorem big0 (a0 a1 b0 b1 : Int) (w : World) (AW : CC 9 #[] (.bool true)) (SA0 : CC 15 #[.int .i64 a0] (.bool false))
    : Calls Try.prog 5 #[.agg #[.int .i64 a0, .int .i64 a1], .agg #[.int .i64 b0, .int .i64 b1]] w fun r w' => r = .returned (.bool true) ∧ Below w.heap.size w w' := by
  go_enter Try.func5, Try.ntmps5
  go_wp2_with fail
  refine (AW _).out.mono ?_
  rintro e w1 ⟨rfl, hb⟩
  have HB : Side (Below w.heap.size w w1) := ⟨below_then (by (repeat (with_reducible first | exact Below.refl _ _ | apply below_drewN | apply below_drew | apply below_alloc))) (by simp <;> omega) hb⟩
  have Ba : Side (Box2 w1 (w.heap.size) .i64 a0 a1) := ⟨Box2.below (w := ((w.alloc (.cells #[.int .i64 a0, .int .i64 a1] 35)).alloc (.cells #[.int .i64 b0, .int .i64 b1] 35))) ⟨by go_simp, by go_simp, by simp <;> omega⟩ hb⟩
  have Bb : Side (Box2 w1 (w.heap.size + 1) .i64 b0 b1) := ⟨Box2.below (w := ((w.alloc (.cells #[.int .i64 a0, .int .i64 a1] 35)).alloc (.cells #[.int .i64 b0, .int .i64 b1] 35))) ⟨by go_simp, by go_simp, by simp <;> omega⟩ hb⟩
  clear hb
  obtain ⟨gb, hgb⟩ : ∃ g, g = w.heap.size + 1 := ⟨_, rfl⟩
  rw [← hgb] at Bb ⊢
  clear hgb
  obtain ⟨ga, hga⟩ : ∃ g, g = w.heap.size := ⟨_, rfl⟩
  rw [← hga] at Ba ⊢
  clear hga
  have la0 := Ba.out.c0; have la1 := Ba.out.c1; have la2 := Ba.out.lt
  have lb0 := Bb.out.c0; have lb1 := Bb.out.c1; have lb2 := Bb.out.lt
  go_wp2_with fail
  with_reducible refine (SA0 _).out.mono ?_
  rintro e w2 ⟨rfl, hb⟩
  clear la0 la1 la2 lb0 lb1 lb2
  replace HB := Side.mk (below_then HB.out HB.out.size hb)
  replace Ba := Side.mk (Ba.out.below hb)
  replace Bb := Side.mk (Bb.out.below hb)
  clear hb
  go_wp2
  go_ret
  exact ⟨rfl, HB.out⟩
set_option maxHeartbeats 32000000 in
set_option maxRecDepth 100000 in
theorem big1 (a0 a1 b0 b1 : Int) (w : World) (AW : CC 9 #[] (.bool true)) (SA0 : CC 15 #[.int .i64 a0] (.bool true)) (SA1 : CC 15 #[.int .i64 a1] (.bool false))
    : Calls Try.prog 5 #[.agg #[.int .i64 a0, .int .i64 a1], .agg #[.int .i64 b0, .int .i64 b1]] w fun r w' => r = .returned (.bool true) ∧ Below w.heap.size w w' := by
  go_enter Try.func5, Try.ntmps5
  go_wp2_with fail
  refine (AW _).out.mono ?_
  rintro e w1 ⟨rfl, hb⟩
  have HB : Side (Below w.heap.size w w1) := ⟨below_then (by (repeat (with_reducible first | exact Below.refl _ _ | apply below_drewN | apply below_drew | apply below_alloc))) (by simp <;> omega) hb⟩
  have Ba : Side (Box2 w1 (w.heap.size) .i64 a0 a1) := ⟨Box2.below (w := ((w.alloc (.cells #[.int .i64 a0, .int .i64 a1] 35)).alloc (.cells #[.int .i64 b0, .int .i64 b1] 35))) ⟨by go_simp, by go_simp, by simp <;> omega⟩ hb⟩
  have Bb : Side (Box2 w1 (w.heap.size + 1) .i64 b0 b1) := ⟨Box2.below (w := ((w.alloc (.cells #[.int .i64 a0, .int .i64 a1] 35)).alloc (.cells #[.int .i64 b0, .int .i64 b1] 35))) ⟨by go_simp, by go_simp, by simp <;> omega⟩ hb⟩
  clear hb
  obtain ⟨gb, hgb⟩ : ∃ g, g = w.heap.size + 1 := ⟨_, rfl⟩
  rw [← hgb] at Bb ⊢
  clear hgb
  obtain ⟨ga, hga⟩ : ∃ g, g = w.heap.size := ⟨_, rfl⟩
  rw [← hga] at Ba ⊢
  clear hga
  have la0 := Ba.out.c0; have la1 := Ba.out.c1; have la2 := Ba.out.lt
  have lb0 := Bb.out.c0; have lb1 := Bb.out.c1; have lb2 := Bb.out.lt
  go_wp2_with fail
  with_reducible refine (SA0 _).out.mono ?_
  rintro e w2 ⟨rfl, hb⟩
  clear la0 la1 la2 lb0 lb1 lb2
  replace HB := Side.mk (below_then HB.out HB.out.size hb)
  replace Ba := Side.mk (Ba.out.below hb)
  replace Bb := Side.mk (Bb.out.below hb)
  clear hb
  have la0 := Ba.out.c0; have la1 := Ba.out.c1; have la2 := Ba.out.lt
  have lb0 := Bb.out.c0; have lb1 := Bb.out.c1; have lb2 := Bb.out.lt
  go_wp2_with fail
  with_reducible refine (SA1 _).out.mono ?_
  rintro e w3 ⟨rfl, hb⟩
  clear la0 la1 la2 lb0 lb1 lb2
  replace HB := Side.mk (below_then HB.out HB.out.size hb)
  replace Ba := Side.mk (Ba.out.below hb)
  replace Bb := Side.mk (Bb.out.below hb)
  clear hb
  go_wp2
  go_ret
  exact ⟨rfl, HB.out⟩
set_option maxHeartbeats 32000000 in
set_option maxRecDepth 100000 in
theorem big2 (a0 a1 b0 b1 : Int) (w : World) (AW : CC 9 #[] (.bool true)) (SA0 : CC 15 #[.int .i64 a0] (.bool true)) (SA1 : CC 15 #[.int .i64 a1] (.bool true)) (SB0 : CC 15 #[.int .i64 b0] (.bool false))
    : Calls Try.prog 5 #[.agg #[.int .i64 a0, .int .i64 a1], .agg #[.int .i64 b0, .int .i64 b1]] w fun r w' => r = .returned (.bool true) ∧ Below w.heap.size w w' := by
  go_enter Try.func5, Try.ntmps5
  go_wp2_with fail
  refine (AW _).out.mono ?_
  rintro e w1 ⟨rfl, hb⟩
  have HB : Side (Below w.heap.size w w1) := ⟨below_then (by (repeat (with_reducible first | exact Below.refl _ _ | apply below_drewN | apply below_drew | apply below_alloc))) (by simp <;> omega) hb⟩
  have Ba : Side (Box2 w1 (w.heap.size) .i64 a0 a1) := ⟨Box2.below (w := ((w.alloc (.cells #[.int .i64 a0, .int .i64 a1] 35)).alloc (.cells #[.int .i64 b0, .int .i64 b1] 35))) ⟨by go_simp, by go_simp, by simp <;> omega⟩ hb⟩
  have Bb : Side (Box2 w1 (w.heap.size + 1) .i64 b0 b1) := ⟨Box2.below (w := ((w.alloc (.cells #[.int .i64 a0, .int .i64 a1] 35)).alloc (.cells #[.int .i64 b0, .int .i64 b1] 35))) ⟨by go_simp, by go_simp, by simp <;> omega⟩ hb⟩
  clear hb
  obtain ⟨gb, hgb⟩ : ∃ g, g = w.heap.size + 1 := ⟨_, rfl⟩
  rw [← hgb] at Bb ⊢
  clear hgb
  obtain ⟨ga, hga⟩ : ∃ g, g = w.heap.size := ⟨_, rfl⟩
  rw [← hga] at Ba ⊢
  clear hga
  have la0 := Ba.out.c0; have la1 := Ba.out.c1; have la2 := Ba.out.lt
  have lb0 := Bb.out.c0; have lb1 := Bb.out.c1; have lb2 := Bb.out.lt
  go_wp2_with fail
  with_reducible refine (SA0 _).out.mono ?_
  rintro e w2 ⟨rfl, hb⟩
  clear la0 la1 la2 lb0 lb1 lb2
  replace HB := Side.mk (below_then HB.out HB.out.size hb)
  replace Ba := Side.mk (Ba.out.below hb)
  replace Bb := Side.mk (Bb.out.below hb)
  clear hb
  have la0 := Ba.out.c0; have la1 := Ba.out.c1; have la2 := Ba.out.lt
  have lb0 := Bb.out.c0; have lb1 := Bb.out.c1; have lb2 := Bb.out.lt
  go_wp2_with fail
  with_reducible refine (SA1 _).out.mono ?_
  rintro e w3 ⟨rfl, hb⟩
  clear la0 la1 la2 lb0 lb1 lb2
  replace HB := Side.mk (below_then HB.out HB.out.size hb)
  replace Ba := Side.mk (Ba.out.below hb)
  replace Bb := Side.mk (Bb.out.below hb)
  clear hb
  have la0 := Ba.out.c0; have la1 := Ba.out.c1; have la2 := Ba.out.lt
  have lb0 := Bb.out.c0; have lb1 := Bb.out.c1; have lb2 := Bb.out.lt
  go_wp2_with fail
  with_reducible refine (SB0 _).out.mono ?_
  rintro e w4 ⟨rfl, hb⟩
  clear la0 la1 la2 lb0 lb1 lb2
  replace HB := Side.mk (below_then HB.out HB.out.size hb)
  replace Ba := Side.mk (Ba.out.below hb)
  replace Bb := Side.mk (Bb.out.below hb)
  clear hb
  go_wp2
  go_ret
  exact ⟨rfl, HB.out⟩
set_option maxHeartbeats 32000000 in
set_option maxRecDepth 100000 in
theorem big3 (a0 a1 b0 b1 : Int) (w : World) (AW : CC 9 #[] (.bool true)) (SA0 : CC 15 #[.int .i64 a0] (.bool true)) (SA1 : CC 15 #[.int .i64 a1] (.bool true)) (SB0 : CC 15 #[.int .i64 b0] (.bool true)) (SB1 : CC 15 #[.int .i64 b1] (.bool false))
    : Calls Try.prog 5 #[.agg #[.int .i64 a0, .int .i64 a1], .agg #[.int .i64 b0, .int .i64 b1]] w fun r w' => r = .returned (.bool true) ∧ Below w.heap.size w w' := by
  go_enter Try.func5, Try.ntmps5
  go_wp2_with fail
  refine (AW _).out.mono ?_
  rintro e w1 ⟨rfl, hb⟩
  have HB : Side (Below w.heap.size w w1) := ⟨below_then (by (repeat (with_reducible first | exact Below.refl _ _ | apply below_drewN | apply below_drew | apply below_alloc))) (by simp <;> omega) hb⟩
  have Ba : Side (Box2 w1 (w.heap.size) .i64 a0 a1) := ⟨Box2.below (w := ((w.alloc (.cells #[.int .i64 a0, .int .i64 a1] 35)).alloc (.cells #[.int .i64 b0, .int .i64 b1] 35))) ⟨by go_simp, by go_simp, by simp <;> omega⟩ hb⟩
  have Bb : Side (Box2 w1 (w.heap.size + 1) .i64 b0 b1) := ⟨Box2.below (w := ((w.alloc (.cells #[.int .i64 a0, .int .i64 a1] 35)).alloc (.cells #[.int .i64 b0, .int .i64 b1] 35))) ⟨by go_simp, by go_simp, by simp <;> omega⟩ hb⟩
  clear hb
  obtain ⟨gb, hgb⟩ : ∃ g, g = w.heap.size + 1 := ⟨_, rfl⟩
  rw [← hgb] at Bb ⊢
  clear hgb
  obtain ⟨ga, hga⟩ : ∃ g, g = w.heap.size := ⟨_, rfl⟩
  rw [← hga] at Ba ⊢
  clear hga
  have la0 := Ba.out.c0; have la1 := Ba.out.c1; have la2 := Ba.out.lt
  have lb0 := Bb.out.c0; have lb1 := Bb.out.c1; have lb2 := Bb.out.lt
  go_wp2_with fail
  with_reducible refine (SA0 _).out.mono ?_
  rintro e w2 ⟨rfl, hb⟩
  clear la0 la1 la2 lb0 lb1 lb2
  replace HB := Side.mk (below_then HB.out HB.out.size hb)
  replace Ba := Side.mk (Ba.out.below hb)
  replace Bb := Side.mk (Bb.out.below hb)
  clear hb
  have la0 := Ba.out.c0; have la1 := Ba.out.c1; have la2 := Ba.out.lt
  have lb0 := Bb.out.c0; have lb1 := Bb.out.c1; have lb2 := Bb.out.lt
  go_wp2_with fail
  with_reducible refine (SA1 _).out.mono ?_
  rintro e w3 ⟨rfl, hb⟩
  clear la0 la1 la2 lb0 lb1 lb2
  replace HB := Side.mk (below_then HB.out HB.out.size hb)
  replace Ba := Side.mk (Ba.out.below hb)
  replace Bb := Side.mk (Bb.out.below hb)
  clear hb
  have la0 := Ba.out.c0; have la1 := Ba.out.c1; have la2 := Ba.out.lt
  have lb0 := Bb.out.c0; have lb1 := Bb.out.c1; have lb2 := Bb.out.lt
  go_wp2_with fail
  with_reducible refine (SB0 _).out.mono ?_
  rintro e w4 ⟨rfl, hb⟩
  clear la0 la1 la2 lb0 lb1 lb2
  replace HB := Side.mk (below_then HB.out HB.out.size hb)
  replace Ba := Side.mk (Ba.out.below hb)
  replace Bb := Side.mk (Bb.out.below hb)
  clear hb
  have la0 := Ba.out.c0; have la1 := Ba.out.c1; have la2 := Ba.out.lt
  have lb0 := Bb.out.c0; have lb1 := Bb.out.c1; have lb2 := Bb.out.lt
  go_wp2_with fail
  with_reducible refine (SB1 _).out.mono ?_
  rintro e w5 ⟨rfl, hb⟩
  clear la0 la1 la2 lb0 lb1 lb2
  replace HB := Side.mk (below_then HB.out HB.out.size hb)
  replace Ba := Side.mk (Ba.out.below hb)
  replace Bb := Side.mk (Bb.out.below hb)
  clear hb
  go_wp2
  go_ret
  exact ⟨rfl, HB.out⟩
set_option maxHeartbeats 32000000 in
set_option maxRecDepth 100000 in
theorem none_tt (a0 a1 b0 b1 x0 x1 y0 y1 ea eb : Int) (w : World) (AW : CC 9 #[] (.bool true)) (SA0 : CC 15 #[.int .i64 a0] (.bool true)) (SA1 : CC 15 #[.int .i64 a1] (.bool true)) (SB0 : CC 15 #[.int .i64 b0] (.bool true)) (SB1 : CC 15 #[.int .i64 b1] (.bool true)) (OX : CC 10 #[.int .i64 a0, .int .i64 a1] (.tuple #[.agg #[.int .i64 x0, .int .i64 x1], .int .i64 ea])) (OY : CC 10 #[.int .i64 b0, .int .i64 b1] (.tuple #[.agg #[.int .i64 y0, .int .i64 y1], .int .i64 eb]))
    (z1 : (a1 == 0) = true) (z2 : (b1 == 0) = true) (z3 : (ea == 2) = true) (z4 : (eb == 2) = true)
    : Calls Try.prog 5 #[.agg #[.int .i64 a0, .int .i64 a1], .agg #[.int .i64 b0, .int .i64 b1]] w fun r w' => r = .returned (.bool true) ∧ Below w.heap.size w w' := by
  go_enter Try.func5, Try.ntmps5
  go_wp2_with fail
  refine (AW _).out.mono ?_
  rintro e w1 ⟨rfl, hb⟩
  have HB : Side (Below w.heap.size w w1) := ⟨below_then (by (repeat (with_reducible first | exact Below.refl _ _ | apply below_drewN | apply below_drew | apply below_alloc))) (by simp <;> omega) hb⟩
  have Ba : Side (Box2 w1 (w.heap.size) .i64 a0 a1) := ⟨Box2.below (w := ((w.alloc (.cells #[.int .i64 a0, .int .i64 a1] 35)).alloc (.cells #[.int .i64 b0, .int .i64 b1] 35))) ⟨by go_simp, by go_simp, by simp <;> omega⟩ hb⟩
  have Bb : Side (Box2 w1 (w.heap.size + 1) .i64 b0 b1) := ⟨Box2.below (w := ((w.alloc (.cells #[.int .i64 a0, .int .i64 a1] 35)).alloc (.cells #[.int .i64 b0, .int .i64 b1] 35))) ⟨by go_simp, by go_simp, by simp <;> omega⟩ hb⟩
  clear hb
  obtain ⟨gb, hgb⟩ : ∃ g, g = w.heap.size + 1 := ⟨_, rfl⟩
  rw [← hgb] at Bb ⊢
  clear hgb
  obtain ⟨ga, hga⟩ : ∃ g, g = w.heap.size := ⟨_, rfl⟩
  rw [← hga] at Ba ⊢
  clear hga
  have la0 := Ba.out.c0; have la1 := Ba.out.c1; have la2 := Ba.out.lt
  have lb0 := Bb.out.c0; have lb1 := Bb.out.c1; have lb2 := Bb.out.lt
  go_wp2_with fail
  with_reducible refine (SA0 _).out.mono ?_
  rintro e w2 ⟨rfl, hb⟩
  clear la0 la1 la2 lb0 lb1 lb2
  replace HB := Side.mk (below_then HB.out HB.out.size hb)
  replace Ba := Side.mk (Ba.out.below hb)
  replace Bb := Side.mk (Bb.out.below hb)
  clear hb
  have la0 := Ba.out.c0; have la1 := Ba.out.c1; have la2 := Ba.out.lt
  have lb0 := Bb.out.c0; have lb1 := Bb.out.c1; have lb2 := Bb.out.lt
  go_wp2_with fail
  with_reducible refine (SA1 _).out.mono ?_
  rintro e w3 ⟨rfl, hb⟩
  clear la0 la1 la2 lb0 lb1 lb2
  replace HB := Side.mk (below_then HB.out HB.out.size hb)
  replace Ba := Side.mk (Ba.out.below hb)
  replace Bb := Side.mk (Bb.out.below hb)
  clear hb
  have la0 := Ba.out.c0; have la1 := Ba.out.c1; have la2 := Ba.out.lt
  have lb0 := Bb.out.c0; have lb1 := Bb.out.c1; have lb2 := Bb.out.lt
  go_wp2_with fail
  with_reducible refine (SB0 _).out.mono ?_
  rintro e w4 ⟨rfl, hb⟩
  clear la0 la1 la2 lb0 lb1 lb2
  replace HB := Side.mk (below_then HB.out HB.out.size hb)
  replace Ba := Side.mk (Ba.out.below hb)
  replace Bb := Side.mk (Bb.out.below hb)
  clear hb
  have la0 := Ba.out.c0; have la1 := Ba.out.c1; have la2 := Ba.out.lt
  have lb0 := Bb.out.c0; have lb1 := Bb.out.c1; have lb2 := Bb.out.lt
  go_wp2_with fail
  with_reducible refine (SB1 _).out.mono ?_
  rintro e w5 ⟨rfl, hb⟩
  clear la0 la1 la2 lb0 lb1 lb2
  replace HB := Side.mk (below_then HB.out HB.out.size hb)
  replace Ba := Side.mk (Ba.out.below hb)
  replace Bb := Side.mk (Bb.out.below hb)
  clear hb
  have la0 := Ba.out.c0; have la1 := Ba.out.c1; have la2 := Ba.out.lt
  have lb0 := Bb.out.c0; have lb1 := Bb.out.c1; have lb2 := Bb.out.lt
  go_wp2_with fail
  with_reducible refine (OX _).out.mono ?_
  rintro e w6 ⟨rfl, hb⟩
  clear la0 la1 la2 lb0 lb1 lb2
  replace HB := Side.mk (below_then HB.out HB.out.size hb)
  replace Ba := Side.mk (Ba.out.below hb)
  replace Bb := Side.mk (Bb.out.below hb)
  clear hb
  go_upto_region 6 with (fail)
  replace Ba := Side.mk (Ba.out.alloc (.cells #[.int .i64 x0, .int .i64 x1] 26))
  replace Bb := Side.mk (Bb.out.alloc (.cells #[.int .i64 x0, .int .i64 x1] 26))
  replace HB := Side.mk (below_alloc2 HB.out (.cells #[.int .i64 x0, .int .i64 x1] 26))
  have Bx : Side (Box2 (w6.alloc (.cells #[.int .i64 x0, .int .i64 x1] 26)) w6.heap.size .i64 x0 x1) := ⟨Box2.new _ _ _ _ _⟩
  obtain ⟨gx, hgx⟩ : ∃ g, g = w6.heap.size := ⟨_, rfl⟩
  rw [← hgx] at Bx ⊢
  clear hgx
  generalize (w6.alloc (.cells #[.int .i64 x0, .int .i64 x1] 26)) = w7 at *
  have la0 := Ba.out.c0; have la1 := Ba.out.c1; have la2 := Ba.out.lt
  have lb0 := Bb.out.c0; have lb1 := Bb.out.c1; have lb2 := Bb.out.lt
  go_wp2_with fail
  with_reducible refine (OY _).out.mono ?_
  rintro e w8 ⟨rfl, hb⟩
  clear la0 la1 la2 lb0 lb1 lb2
  replace HB := Side.mk (below_then HB.out HB.out.size hb)
  replace Ba := Side.mk (Ba.out.below hb)
  replace Bb := Side.mk (Bb.out.below hb)
  replace Bx := Side.mk (Bx.out.below hb)
  clear hb
  go_upto_region 7 with (fail)
  replace Ba := Side.mk (Ba.out.alloc (.cells #[.int .i64 y0, .int .i64 y1] 26))
  replace Bb := Side.mk (Bb.out.alloc (.cells #[.int .i64 y0, .int .i64 y1] 26))
  replace Bx := Side.mk (Bx.out.alloc (.cells #[.int .i64 y0, .int .i64 y1] 26))
  replace HB := Side.mk (below_alloc2 HB.out (.cells #[.int .i64 y0, .int .i64 y1] 26))
  have By : Side (Box2 (w8.alloc (.cells #[.int .i64 y0, .int .i64 y1] 26)) w8.heap.size .i64 y0 y1) := ⟨Box2.new _ _ _ _ _⟩
  obtain ⟨gy, hgy⟩ : ∃ g, g = w8.heap.size := ⟨_, rfl⟩
  rw [← hgy] at By ⊢
  clear hgy
  generalize (w8.alloc (.cells #[.int .i64 y0, .int .i64 y1] 26)) = w9 at *
  have la0 := Ba.out.c0; have la1 := Ba.out.c1; have la2 := Ba.out.lt
  have lb0 := Bb.out.c0; have lb1 := Bb.out.c1; have lb2 := Bb.out.lt
  go_wp2
  go_ret
  exact ⟨rfl, HB.out⟩
set_option maxHeartbeats 32000000 in
set_option maxRecDepth 100000 in
theorem none_tf (a0 a1 b0 b1 x0 x1 y0 y1 ea eb : Int) (w : World) (AW : CC 9 #[] (.bool true)) (SA0 : CC 15 #[.int .i64 a0] (.bool true)) (SA1 : CC 15 #[.int .i64 a1] (.bool true)) (SB0 : CC 15 #[.int .i64 b0] (.bool true)) (SB1 : CC 15 #[.int .i64 b1] (.bool true)) (OX : CC 10 #[.int .i64 a0, .int .i64 a1] (.tuple #[.agg #[.int .i64 x0, .int .i64 x1], .int .i64 ea])) (OY : CC 10 #[.int .i64 b0, .int .i64 b1] (.tuple #[.agg #[.int .i64 y0, .int .i64 y1], .int .i64 eb]))
    (z1 : (a1 == 0) = true) (z2 : (b1 == 0) = false) (z3 : (ea == 2) = true) (z4 : (eb == 2) = false)
    : Calls Try.prog 5 #[.agg #[.int .i64 a0, .int .i64 a1], .agg #[.int .i64 b0, .int .i64 b1]] w fun r w' => r = .returned (.bool true) ∧ Below w.heap.size w w' := by
  go_enter Try.func5, Try.ntmps5
  go_wp2_with fail
  refine (AW _).out.mono ?_
  rintro e w1 ⟨rfl, hb⟩
  have HB : Side (Below w.heap.size w w1) := ⟨below_then (by (repeat (with_reducible first | exact Below.refl _ _ | apply below_drewN | apply below_drew | apply below_alloc))) (by simp <;> omega) hb⟩
  have Ba : Side (Box2 w1 (w.heap.size) .i64 a0 a1) := ⟨Box2.below (w := ((w.alloc (.cells #[.int .i64 a0, .int .i64 a1] 35)).alloc (.cells #[.int .i64 b0, .int .i64 b1] 35))) ⟨by go_simp, by go_simp, by simp <;> omega⟩ hb⟩
  have Bb : Side (Box2 w1 (w.heap.size + 1) .i64 b0 b1) := ⟨Box2.below (w := ((w.alloc (.cells #[.int .i64 a0, .int .i64 a1] 35)).alloc (.cells #[.int .i64 b0, .int .i64 b1] 35))) ⟨by go_simp, by go_simp, by simp <;> omega⟩ hb⟩
  clear hb
  obtain ⟨gb, hgb⟩ : ∃ g, g = w.heap.size + 1 := ⟨_, rfl⟩
  rw [← hgb] at Bb ⊢
  clear hgb
  obtain ⟨ga, hga⟩ : ∃ g, g = w.heap.size := ⟨_, rfl⟩
  rw [← hga] at Ba ⊢
  clear hga
  have la0 := Ba.out.c0; have la1 := Ba.out.c1; have la2 := Ba.out.lt
  have lb0 := Bb.out.c0; have lb1 := Bb.out.c1; have lb2 := Bb.out.lt
  go_wp2_with fail
  with_reducible refine (SA0 _).out.mono ?_
  rintro e w2 ⟨rfl, hb⟩
  clear la0 la1 la2 lb0 lb1 lb2
  replace HB := Side.mk (below_then HB.out HB.out.size hb)
  replace Ba := Side.mk (Ba.out.below hb)
  replace Bb := Side.mk (Bb.out.below hb)
  clear hb
  have la0 := Ba.out.c0; have la1 := Ba.out.c1; have la2 := Ba.out.lt
  have lb0 := Bb.out.c0; have lb1 := Bb.out.c1; have lb2 := Bb.out.lt
  go_wp2_with fail
  with_reducible refine (SA1 _).out.mono ?_
  rintro e w3 ⟨rfl, hb⟩
  clear la0 la1 la2 lb0 lb1 lb2
  replace HB := Side.mk (below_then HB.out HB.out.size hb)
  replace Ba := Side.mk (Ba.out.below hb)
  replace Bb := Side.mk (Bb.out.below hb)
  clear hb
  have la0 := Ba.out.c0; have la1 := Ba.out.c1; have la2 := Ba.out.lt
  have lb0 := Bb.out.c0; have lb1 := Bb.out.c1; have lb2 := Bb.out.lt
  go_wp2_with fail
  with_reducible refine (SB0 _).out.mono ?_
  rintro e w4 ⟨rfl, hb⟩
  clear la0 la1 la2 lb0 lb1 lb2
  replace HB := Side.mk (below_then HB.out HB.out.size hb)
  replace Ba := Side.mk (Ba.out.below hb)
  replace Bb := Side.mk (Bb.out.below hb)
  clear hb
  have la0 := Ba.out.c0; have la1 := Ba.out.c1; have la2 := Ba.out.lt
  have lb0 := Bb.out.c0; have lb1 := Bb.out.c1; have lb2 := Bb.out.lt
  go_wp2_with fail
  with_reducible refine (SB1 _).out.mono ?_
  rintro e w5 ⟨rfl, hb⟩
  clear la0 la1 la2 lb0 lb1 lb2
  replace HB := Side.mk (below_then HB.out HB.out.size hb)
  replace Ba := Side.mk (Ba.out.below hb)
  replace Bb := Side.mk (Bb.out.below hb)
  clear hb
  have la0 := Ba.out.c0; have la1 := Ba.out.c1; have la2 := Ba.out.lt
  have lb0 := Bb.out.c0; have lb1 := Bb.out.c1; have lb2 := Bb.out.lt
  go_wp2_with fail
  with_reducible refine (OX _).out.mono ?_
  rintro e w6 ⟨rfl, hb⟩
  clear la0 la1 la2 lb0 lb1 lb2
  replace HB := Side.mk (below_then HB.out HB.out.size hb)
  replace Ba := Side.mk (Ba.out.below hb)
  replace Bb := Side.mk (Bb.out.below hb)
  clear hb
  go_upto_region 6 with (fail)
  replace Ba := Side.mk (Ba.out.alloc (.cells #[.int .i64 x0, .int .i64 x1] 26))
  replace Bb := Side.mk (Bb.out.alloc (.cells #[.int .i64 x0, .int .i64 x1] 26))
  replace HB := Side.mk (below_alloc2 HB.out (.cells #[.int .i64 x0, .int .i64 x1] 26))
  have Bx : Side (Box2 (w6.alloc (.cells #[.int .i64 x0, .int .i64 x1] 26)) w6.heap.size .i64 x0 x1) := ⟨Box2.new _ _ _ _ _⟩
  obtain ⟨gx, hgx⟩ : ∃ g, g = w6.heap.size := ⟨_, rfl⟩
  rw [← hgx] at Bx ⊢
  clear hgx
  generalize (w6.alloc (.cells #[.int .i64 x0, .int .i64 x1] 26)) = w7 at *
  have la0 := Ba.out.c0; have la1 := Ba.out.c1; have la2 := Ba.out.lt
  have lb0 := Bb.out.c0; have lb1 := Bb.out.c1; have lb2 := Bb.out.lt
  go_wp2_with fail
  with_reducible refine (OY _).out.mono ?_
  rintro e w8 ⟨rfl, hb⟩
  clear la0 la1 la2 lb0 lb1 lb2
  replace HB := Side.mk (below_then HB.out HB.out.size hb)
  replace Ba := Side.mk (Ba.out.below hb)
  replace Bb := Side.mk (Bb.out.below hb)
  replace Bx := Side.mk (Bx.out.below hb)
  clear hb
  go_upto_region 7 with (fail)
  replace Ba := Side.mk (Ba.out.alloc (.cells #[.int .i64 y0, .int .i64 y1] 26))
  replace Bb := Side.mk (Bb.out.alloc (.cells #[.int .i64 y0, .int .i64 y1] 26))
  replace Bx := Side.mk (Bx.out.alloc (.cells #[.int .i64 y0, .int .i64 y1] 26))
  replace HB := Side.mk (below_alloc2 HB.out (.cells #[.int .i64 y0, .int .i64 y1] 26))
  have By : Side (Box2 (w8.alloc (.cells #[.int .i64 y0, .int .i64 y1] 26)) w8.heap.size .i64 y0 y1) := ⟨Box2.new _ _ _ _ _⟩
  obtain ⟨gy, hgy⟩ : ∃ g, g = w8.heap.size := ⟨_, rfl⟩
  rw [← hgy] at By ⊢
  clear hgy
  generalize (w8.alloc (.cells #[.int .i64 y0, .int .i64 y1] 26)) = w9 at *
  have la0 := Ba.out.c0; have la1 := Ba.out.c1; have la2 := Ba.out.lt
  have lb0 := Bb.out.c0; have lb1 := Bb.out.c1; have lb2 := Bb.out.lt
  go_wp2
  go_ret
  exact ⟨rfl, HB.out⟩
set_option maxHeartbeats 32000000 in
set_option maxRecDepth 100000 in
theorem none_ft (a0 a1 b0 b1 x0 x1 y0 y1 ea eb : Int) (w : World) (AW : CC 9 #[] (.bool true)) (SA0 : CC 15 #[.int .i64 a0] (.bool true)) (SA1 : CC 15 #[.int .i64 a1] (.bool true)) (SB0 : CC 15 #[.int .i64 b0] (.bool true)) (SB1 : CC 15 #[.int .i64 b1] (.bool true)) (OX : CC 10 #[.int .i64 a0, .int .i64 a1] (.tuple #[.agg #[.int .i64 x0, .int .i64 x1], .int .i64 ea])) (OY : CC 10 #[.int .i64 b0, .int .i64 b1] (.tuple #[.agg #[.int .i64 y0, .int .i64 y1], .int .i64 eb]))
    (z1 : (a1 == 0) = false) (z2 : (b1 == 0) = true) (z3 : (ea == 2) = false) (z4 : (eb == 2) = true)
    : Calls Try.prog 5 #[.agg #[.int .i64 a0, .int .i64 a1], .agg #[.int .i64 b0, .int .i64 b1]] w fun r w' => r = .returned (.bool true) ∧ Below w.heap.size w w' := by
  go_enter Try.func5, Try.ntmps5
  go_wp2_with fail
  refine (AW _).out.mono ?_
  rintro e w1 ⟨rfl, hb⟩
  have HB : Side (Below w.heap.size w w1) := ⟨below_then (by (repeat (with_reducible first | exact Below.refl _ _ | apply below_drewN | apply below_drew | apply below_alloc))) (by simp <;> omega) hb⟩
  have Ba : Side (Box2 w1 (w.heap.size) .i64 a0 a1) := ⟨Box2.below (w := ((w.alloc (.cells #[.int .i64 a0, .int .i64 a1] 35)).alloc (.cells #[.int .i64 b0, .int .i64 b1] 35))) ⟨by go_simp, by go_simp, by simp <;> omega⟩ hb⟩
  have Bb : Side (Box2 w1 (w.heap.size + 1) .i64 b0 b1) := ⟨Box2.below (w := ((w.alloc (.cells #[.int .i64 a0, .int .i64 a1] 35)).alloc (.cells #[.int .i64 b0, .int .i64 b1] 35))) ⟨by go_simp, by go_simp, by simp <;> omega⟩ hb⟩
  clear hb
  obtain ⟨gb, hgb⟩ : ∃ g, g = w.heap.size + 1 := ⟨_, rfl⟩
  rw [← hgb] at Bb ⊢
  clear hgb
  obtain ⟨ga, hga⟩ : ∃ g, g = w.heap.size := ⟨_, rfl⟩
  rw [← hga] at Ba ⊢
  clear hga
  have la0 := Ba.out.c0; have la1 := Ba.out.c1; have la2 := Ba.out.lt
  have lb0 := Bb.out.c0; have lb1 := Bb.out.c1; have lb2 := Bb.out.lt
  go_wp2_with fail
  with_reducible refine (SA0 _).out.mono ?_
  rintro e w2 ⟨rfl, hb⟩
  clear la0 la1 la2 lb0 lb1 lb2
  replace HB := Side.mk (below_then HB.out HB.out.size hb)
  replace Ba := Side.mk (Ba.out.below hb)
  replace Bb := Side.mk (Bb.out.below hb)
  clear hb
  have la0 := Ba.out.c0; have la1 := Ba.out.c1; have la2 := Ba.out.lt
  have lb0 := Bb.out.c0; have lb1 := Bb.out.c1; have lb2 := Bb.out.lt
  go_wp2_with fail
  with_reducible refine (SA1 _).out.mono ?_
  rintro e w3 ⟨rfl, hb⟩
  clear la0 la1 la2 lb0 lb1 lb2
  replace HB := Side.mk (below_then HB.out HB.out.size hb)
  replace Ba := Side.mk (Ba.out.below hb)
  replace Bb := Side.mk (Bb.out.below hb)
  clear hb
  have la0 := Ba.out.c0; have la1 := Ba.out.c1; have la2 := Ba.out.lt
  have lb0 := Bb.out.c0; have lb1 := Bb.out.c1; have lb2 := Bb.out.lt
  go_wp2_with fail
  with_reducible refine (SB0 _).out.mono ?_
  rintro e w4 ⟨rfl, hb⟩
  clear la0 la1 la2 lb0 lb1 lb2
  replace HB := Side.mk (below_then HB.out HB.out.size hb)
  replace Ba := Side.mk (Ba.out.below hb)
  replace Bb := Side.mk (Bb.out.below hb)
  clear hb
  have la0 := Ba.out.c0; have la1 := Ba.out.c1; have la2 := Ba.out.lt
  have lb0 := Bb.out.c0; have lb1 := Bb.out.c1; have lb2 := Bb.out.lt
  go_wp2_with fail
  with_reducible refine (SB1 _).out.mono ?_
  rintro e w5 ⟨rfl, hb⟩
  clear la0 la1 la2 lb0 lb1 lb2
  replace HB := Side.mk (below_then HB.out HB.out.size hb)
  replace Ba := Side.mk (Ba.out.below hb)
  replace Bb := Side.mk (Bb.out.below hb)
  clear hb
  have la0 := Ba.out.c0; have la1 := Ba.out.c1; have la2 := Ba.out.lt
  have lb0 := Bb.out.c0; have lb1 := Bb.out.c1; have lb2 := Bb.out.lt
  go_wp2_with fail
  with_reducible refine (OX _).out.mono ?_
  rintro e w6 ⟨rfl, hb⟩
  clear la0 la1 la2 lb0 lb1 lb2
  replace HB := Side.mk (below_then HB.out HB.out.size hb)
  replace Ba := Side.mk (Ba.out.below hb)
  replace Bb := Side.mk (Bb.out.below hb)
  clear hb
  go_upto_region 6 with (fail)
  replace Ba := Side.mk (Ba.out.alloc (.cells #[.int .i64 x0, .int .i64 x1] 26))
  replace Bb := Side.mk (Bb.out.alloc (.cells #[.int .i64 x0, .int .i64 x1] 26))
  replace HB := Side.mk (below_alloc2 HB.out (.cells #[.int .i64 x0, .int .i64 x1] 26))
  have Bx : Side (Box2 (w6.alloc (.cells #[.int .i64 x0, .int .i64 x1] 26)) w6.heap.size .i64 x0 x1) := ⟨Box2.new _ _ _ _ _⟩
  obtain ⟨gx, hgx⟩ : ∃ g, g = w6.heap.size := ⟨_, rfl⟩
  rw [← hgx] at Bx ⊢
  clear hgx
  generalize (w6.alloc (.cells #[.int .i64 x0, .int .i64 x1] 26)) = w7 at *
  have la0 := Ba.out.c0; have la1 := Ba.out.c1; have la2 := Ba.out.lt
  have lb0 := Bb.out.c0; have lb1 := Bb.out.c1; have lb2 := Bb.out.lt
  go_wp2_with fail
  with_reducible refine (OY _).out.mono ?_
  rintro e w8 ⟨rfl, hb⟩
  clear la0 la1 la2 lb0 lb1 lb2
  replace HB := Side.mk (below_then HB.out HB.out.size hb)
  replace Ba := Side.mk (Ba.out.below hb)
  replace Bb := Side.mk (Bb.out.below hb)
  replace Bx := Side.mk (Bx.out.below hb)
  clear hb
  go_upto_region 7 with (fail)
  replace Ba := Side.mk (Ba.out.alloc (.cells #[.int .i64 y0, .int .i64 y1] 26))
  replace Bb := Side.mk (Bb.out.alloc (.cells #[.int .i64 y0, .int .i64 y1] 26))
  replace Bx := Side.mk (Bx.out.alloc (.cells #[.int .i64 y0, .int .i64 y1] 26))
  replace HB := Side.mk (below_alloc2 HB.out (.cells #[.int .i64 y0, .int .i64 y1] 26))
  have By : Side (Box2 (w8.alloc (.cells #[.int .i64 y0, .int .i64 y1] 26)) w8.heap.size .i64 y0 y1) := ⟨Box2.new _ _ _ _ _⟩
  obtain ⟨gy, hgy⟩ : ∃ g, g = w8.heap.size := ⟨_, rfl⟩
  rw [← hgy] at By ⊢
  clear hgy
  generalize (w8.alloc (.cells #[.int .i64 y0, .int .i64 y1] 26)) = w9 at *
  have la0 := Ba.out.c0; have la1 := Ba.out.c1; have la2 := Ba.out.lt
  have lb0 := Bb.out.c0; have lb1 := Bb.out.c1; have lb2 := Bb.out.lt
  go_wp2
  go_ret
  exact ⟨rfl, HB.out⟩
set_option maxHeartbeats 32000000 in
set_option maxRecDepth 100000 in
theorem core (a0 a1 b0 b1 x0 x1 y0 y1 s0 s1 d0 d1 m0 m1 g h p q u v n0 n1 c fl ce : Int) (l1 l2 : Bool) (w : World)
    (AW : CC 9 #[] (.bool true))
    (SA0 : CC 15 #[.int .i64 a0] (.bool true))
    (SA1 : CC 15 #[.int .i64 a1] (.bool true))
    (SB0 : CC 15 #[.int .i64 b0] (.bool true))
    (SB1 : CC 15 #[.int .i64 b1] (.bool true))
    (OX : CC 10 #[.int .i64 a0, .int .i64 a1] (.tuple #[.agg #[.int .i64 x0, .int .i64 x1], .int .i64 0]))
    (OY : CC 10 #[.int .i64 b0, .int .i64 b1] (.tuple #[.agg #[.int .i64 y0, .int .i64 y1], .int .i64 0]))
    (RX : CC 16 #[.int .i64 a0, .int .i64 a1] (.agg #[.int .i64 x0, .int .i64 x1]))
    (RY : CC 16 #[.int .i64 b0, .int .i64 b1] (.agg #[.int .i64 y0, .int .i64 y1]))
    (AD : CC 11 #[.agg #[.int .i64 x0, .int .i64 x1], .agg #[.int .i64 y0, .int .i64 y1]] (.tuple #[.agg #[.int .i64 s0, .int .i64 s1], .int .i64 0]))
    (SU : CC 17 #[.agg #[.int .i64 x0, .int .i64 x1], .agg #[.int .i64 y0, .int .i64 y1]] (.tuple #[.agg #[.int .i64 d0, .int .i64 d1], .int .i64 0]))
    (MU : CC 18 #[.agg #[.int .i64 x0, .int .i64 x1], .agg #[.int .i64 y0, .int .i64 y1]] (.tuple #[.agg #[.int .i64 m0, .int .i64 m1], .int .i64 0]))
    (G1 : CC 19 #[.int .i64 x0, .int .i64 y1] (.int .i64 g))
    (G2 : CC 19 #[.int .i64 y0, .int .i64 x1] (.int .i64 h))
    (L1 : CC 20 #[.agg #[.int .i64 x0, .int .i64 x1], .agg #[.int .i64 y0, .int .i64 y1]] (.bool l1))
    (L2 : CC 20 #[.agg #[.int .i64 y0, .int .i64 y1], .agg #[.int .i64 x0, .int .i64 x1]] (.bool l2))
    (PL : CC 21 #[.agg #[.int .i64 x0, .int .i64 x1], .agg #[.int .i64 y0, .int .i64 y1]] (.agg #[.int .i64 s0, .int .i64 s1]))
    (MI : CC 22 #[.agg #[.int .i64 x0, .int .i64 x1], .agg #[.int .i64 y0, .int .i64 y1]] (.agg #[.int .i64 d0, .int .i64 d1]))
    (RO : CC 16 #[.int .i64 n0, .int .i64 n1] (.agg #[.int .i64 m0, .int .i64 m1]))
    (CM : CC 12 #[.agg #[.int .i64 x0, .int .i64 x1], .agg #[.int .i64 y0, .int .i64 y1]] (.int .i64 c))
    (FL : CC 13 #[.agg #[.int .i64 x0, .int .i64 x1]] (.int .i64 fl))
    (RF : CC 23 #[.int .i64 x0, .int .i64 x1] (.int .i64 fl))
    (CE : CC 14 #[.agg #[.int .i64 x0, .int .i64 x1]] (.int .i64 ce))
    (RC : CC 24 #[.int .i64 x0, .int .i64 x1] (.int .i64 ce))
    (z1 : (a1 == 0) = false) (z2 : (b1 == 0) = false) (hg : ¬ g = 0) (hh : ¬ h = 0) (t1 : Int.tdiv x0 g = p) (t2 : Int.tdiv y0 h = q) (t3 : Int.tdiv x1 h = u) (t4 : Int.tdiv y1 g = v)
    (e1 : IntKind.i64.wrap p = p) (e2 : IntKind.i64.wrap q = q) (e3 : IntKind.i64.wrap u = u) (e4 : IntKind.i64.wrap v = v) (e5 : IntKind.i64.wrap (p * q) = n0) (e6 : IntKind.i64.wrap (u * v) = n1)
    (hc : (l1 = true ∧ l2 = false ∧ c = -1) ∨ (l1 = false ∧ l2 = false ∧ c = 0) ∨ (l1 = false ∧ l2 = true ∧ c = 1))
    : Calls Try.prog 5 #[.agg #[.int .i64 a0, .int .i64 a1], .agg #[.int .i64 b0, .int .i64 b1]] w fun r w' => r = .returned (.bool true) ∧ Below w.heap.size w w' := by
  have HC := Side.mk hc
  have HE := Side.mk (And.intro hg (And.intro hh (And.intro t1 (And.intro t2 (And.intro t3 (And.intro t4 (And.intro e1 (And.intro e2 (And.intro e3 (And.intro e4 (And.intro e5 e6)))))))))))
  clear hc hg hh t1 t2 t3 t4 e1 e2 e3 e4 e5 e6
  go_enter Try.func5, Try.ntmps5
  go_wp2_with fail
  refine (AW _).out.mono ?_
  rintro e w1 ⟨rfl, hb⟩
  have HB : Side (Below w.heap.size w w1) := ⟨below_then (by (repeat (with_reducible first | exact Below.refl _ _ | apply below_drewN | apply below_drew | apply below_alloc))) (by simp <;> omega) hb⟩
  have Ba : Side (Box2 w1 (w.heap.size) .i64 a0 a1) := ⟨Box2.below (w := ((w.alloc (.cells #[.int .i64 a0, .int .i64 a1] 35)).alloc (.cells #[.int .i64 b0, .int .i64 b1] 35))) ⟨by go_simp, by go_simp, by simp <;> omega⟩ hb⟩
  have Bb : Side (Box2 w1 (w.heap.size + 1) .i64 b0 b1) := ⟨Box2.below (w := ((w.alloc (.cells #[.int .i64 a0, .int .i64 a1] 35)).alloc (.cells #[.int .i64 b0, .int .i64 b1] 35))) ⟨by go_simp, by go_simp, by simp <;> omega⟩ hb⟩
  clear hb
  obtain ⟨gb, hgb⟩ : ∃ g, g = w.heap.size + 1 := ⟨_, rfl⟩
  rw [← hgb] at Bb ⊢
  clear hgb
  obtain ⟨ga, hga⟩ : ∃ g, g = w.heap.size := ⟨_, rfl⟩
  rw [← hga] at Ba ⊢
  clear hga
  have la0 := Ba.out.c0; have la1 := Ba.out.c1; have la2 := Ba.out.lt
  have lb0 := Bb.out.c0; have lb1 := Bb.out.c1; have lb2 := Bb.out.lt
  go_wp2_with fail
  with_reducible refine (SA0 _).out.mono ?_
  rintro e w2 ⟨rfl, hb⟩
  clear la0 la1 la2 lb0 lb1 lb2
  replace HB := Side.mk (below_then HB.out HB.out.size hb)
  replace Ba := Side.mk (Ba.out.below hb)
  replace Bb := Side.mk (Bb.out.below hb)
  clear hb
  have la0 := Ba.out.c0; have la1 := Ba.out.c1; have la2 := Ba.out.lt
  have lb0 := Bb.out.c0; have lb1 := Bb.out.c1; have lb2 := Bb.out.lt
  go_wp2_with fail
  with_reducible refine (SA1 _).out.mono ?_
  rintro e w3 ⟨rfl, hb⟩
  clear la0 la1 la2 lb0 lb1 lb2
  replace HB := Side.mk (below_then HB.out HB.out.size hb)
  replace Ba := Side.mk (Ba.out.below hb)
  replace Bb := Side.mk (Bb.out.below hb)
  clear hb
  have la0 := Ba.out.c0; have la1 := Ba.out.c1; have la2 := Ba.out.lt
  have lb0 := Bb.out.c0; have lb1 := Bb.out.c1; have lb2 := Bb.out.lt
  go_wp2_with fail
  with_reducible refine (SB0 _).out.mono ?_
  rintro e w4 ⟨rfl, hb⟩
  clear la0 la1 la2 lb0 lb1 lb2
  replace HB := Side.mk (below_then HB.out HB.out.size hb)
  replace Ba := Side.mk (Ba.out.below hb)
  replace Bb := Side.mk (Bb.out.below hb)
  clear hb
  have la0 := Ba.out.c0; have la1 := Ba.out.c1; have la2 := Ba.out.lt
  have lb0 := Bb.out.c0; have lb1 := Bb.out.c1; have lb2 := Bb.out.lt
  go_wp2_with fail
  with_reducible refine (SB1 _).out.mono ?_
  rintro e w5 ⟨rfl, hb⟩
  clear la0 la1 la2 lb0 lb1 lb2
  replace HB := Side.mk (below_then HB.out HB.out.size hb)
  replace Ba := Side.mk (Ba.out.below hb)
  replace Bb := Side.mk (Bb.out.below hb)
  clear hb
  have la0 := Ba.out.c0; have la1 := Ba.out.c1; have la2 := Ba.out.lt
  have lb0 := Bb.out.c0; have lb1 := Bb.out.c1; have lb2 := Bb.out.lt
  go_wp2_with fail
  with_reducible refine (OX _).out.mono ?_
  rintro e w6 ⟨rfl, hb⟩
  clear la0 la1 la2 lb0 lb1 lb2
  replace HB := Side.mk (below_then HB.out HB.out.size hb)
  replace Ba := Side.mk (Ba.out.below hb)
  replace Bb := Side.mk (Bb.out.below hb)
  clear hb
  go_upto_region 6 with (fail)
  replace Ba := Side.mk (Ba.out.alloc (.cells #[.int .i64 x0, .int .i64 x1] 26))
  replace Bb := Side.mk (Bb.out.alloc (.cells #[.int .i64 x0, .int .i64 x1] 26))
  replace HB := Side.mk (below_alloc2 HB.out (.cells #[.int .i64 x0, .int .i64 x1] 26))
  have Bx : Side (Box2 (w6.alloc (.cells #[.int .i64 x0, .int .i64 x1] 26)) w6.heap.size .i64 x0 x1) := ⟨Box2.new _ _ _ _ _⟩
  obtain ⟨gx, hgx⟩ : ∃ g, g = w6.heap.size := ⟨_, rfl⟩
  rw [← hgx] at Bx ⊢
  clear hgx
  generalize (w6.alloc (.cells #[.int .i64 x0, .int .i64 x1] 26)) = w7 at *
  have la0 := Ba.out.c0; have la1 := Ba.out.c1; have la2 := Ba.out.lt
  have lb0 := Bb.out.c0; have lb1 := Bb.out.c1; have lb2 := Bb.out.lt
  go_wp2_with fail
  with_reducible refine (OY _).out.mono ?_
  rintro e w8 ⟨rfl, hb⟩
  clear la0 la1 la2 lb0 lb1 lb2
  replace HB := Side.mk (below_then HB.out HB.out.size hb)
  replace Ba := Side.mk (Ba.out.below hb)
  replace Bb := Side.mk (Bb.out.below hb)
  replace Bx := Side.mk (Bx.out.below hb)
  clear hb
  go_upto_region 7 with (fail)
  replace Ba := Side.mk (Ba.out.alloc (.cells #[.int .i64 y0, .int .i64 y1] 26))
  replace Bb := Side.mk (Bb.out.alloc (.cells #[.int .i64 y0, .int .i64 y1] 26))
  replace Bx := Side.mk (Bx.out.alloc (.cells #[.int .i64 y0, .int .i64 y1] 26))
  replace HB := Side.mk (below_alloc2 HB.out (.cells #[.int .i64 y0, .int .i64 y1] 26))
  have By : Side (Box2 (w8.alloc (.cells #[.int .i64 y0, .int .i64 y1] 26)) w8.heap.size .i64 y0 y1) := ⟨Box2.new _ _ _ _ _⟩
  obtain ⟨gy, hgy⟩ : ∃ g, g = w8.heap.size := ⟨_, rfl⟩
  rw [← hgy] at By ⊢
  clear hgy
  generalize (w8.alloc (.cells #[.int .i64 y0, .int .i64 y1] 26)) = w9 at *
  have la0 := Ba.out.c0; have la1 := Ba.out.c1; have la2 := Ba.out.lt
  have lb0 := Bb.out.c0; have lb1 := Bb.out.c1; have lb2 := Bb.out.lt
  go_upto_region 9 with (fail)
  clear la0 la1 la2 lb0 lb1 lb2
  refine start_ (n := 14) (S := fun w' => True) (ds := []) #[false, false, false, false, false, false, false, false, false, false, false, false, false, false] (by kernel_rfl) rfl rfl trivial (fun _ => ?_)
  refine inv_at (B := [0, 1, 0, 4, 15, 0, 32, 0, 128, 511, 0, 0, 1055, 3071]) [0, 1, 2, 3, 4, 5, 6, 7, 8, 9, 10, 11, 12, 13] (fun a0_ b_ a w' => ∃ p_ q_ : Nat, a = putSel a0_ b_ [(0, 82, .pointer (some ⟨ga, 0, none⟩)), (1, 83, .int .i64 a0), (2, 84, .pointer (some ⟨ga, 1, none⟩)), (3, 85, .int .i64 a1), (4, 86, .agg #[.int .i64 x0, .int .i64 x1]), (5, 87, .pointer (some ⟨gb, 0, none⟩)), (6, 88, .int .i64 b0), (7, 89, .pointer (some ⟨gb, 1, none⟩)), (8, 90, .int .i64 b1), (9, 91, .agg #[.int .i64 y0, .int .i64 y1]), (10, 9, .pointer (some ⟨p_, 0, none⟩)), (11, 10, .pointer (some ⟨q_, 0, none⟩))] ∧ RI w9.drew p_ q_ x0 x1 y0 y1 b_ w') rfl (by kernel_rfl) (by kernel_rfl) (by kernel_rfl) ?_ ?_ ?_
  · exact ⟨0, 0, by simp only [putSel, Bool.false_eq_true, if_false], ⟨Below.refl _ _, fun h => (by cases h), fun h => (by cases h), fun h => (by cases h), fun h => (by cases h), fun h => (by cases h), fun h => (by cases h), fun h => (by cases h)⟩⟩
  · refine steps_cons (by rintro b a w' ⟨p_, q_, t, I⟩ hb hon _; refine ⟨_, rfl, fun K k => ?_⟩; have e2 := poff t (t := 2) rfl rfl; exact value_ (v := .pointer (some ⟨ga, 0, none⟩)) (by rfl) rfl (by clear I t; go_simp) (k.out _ _ ⟨p_, q_, upk t 0 hb rfl rfl, I.low (Below.refl _ _) 0 (by decide) (by decide) (by decide) (by decide)⟩)) ?_
    refine steps_cons (by rintro b a w' ⟨p_, q_, t, I⟩ hb hon _; refine ⟨_, rfl, fun K k => ?_⟩; have e82 := pon t 0 (hon 0 rfl) rfl rfl rfl; have k0 := (Ba.out.below (dr I.bel)).c0; have k1 := (Ba.out.below (dr I.bel)).lt; exact value_ (v := .int .i64 a0) (by rfl) rfl (by clear I t; go_simp) (k.out _ _ ⟨p_, q_, upk t 1 hb rfl rfl, I.low (Below.refl _ _) 1 (by decide) (by decide) (by decide) (by decide)⟩)) ?_
    refine steps_cons (by rintro b a w' ⟨p_, q_, t, I⟩ hb hon _; refine ⟨_, rfl, fun K k => ?_⟩; have e2 := poff t (t := 2) rfl rfl; exact value_ (v := .pointer (some ⟨ga, 1, none⟩)) (by rfl) rfl (by clear I t; go_simp) (k.out _ _ ⟨p_, q_, upk t 2 hb rfl rfl, I.low (Below.refl _ _) 2 (by decide) (by decide) (by decide) (by decide)⟩)) ?_
    refine steps_cons (by rintro b a w' ⟨p_, q_, t, I⟩ hb hon _; refine ⟨_, rfl, fun K k => ?_⟩; have e84 := pon t 2 (hon 2 rfl) rfl rfl rfl; have k0 := (Ba.out.below (dr I.bel)).c1; have k1 := (Ba.out.below (dr I.bel)).lt; exact value_ (v := .int .i64 a1) (by rfl) rfl (by clear I t; go_simp) (k.out _ _ ⟨p_, q_, upk t 3 hb rfl rfl, I.low (Below.refl _ _) 3 (by decide) (by decide) (by decide) (by decide)⟩)) ?_
    refine steps_cons (by rintro b a w' ⟨p_, q_, t, I⟩ hb hon _; refine ⟨_, rfl, fun K k => ?_⟩; have e83 := pon t 1 (hon 1 rfl) rfl rfl rfl; have e85 := pon t 3 (hon 3 rfl) rfl rfl rfl; refine goes_ Try.func16 (by kernel_rfl) rfl #[.int .i64 a0, .int .i64 a1] (by rfl) rfl rfl (by simp [Act.eval, e83, e85]) ((RX _).out.mono ?_); rintro e_ w'' ⟨rfl, hbc⟩; exact ⟨_, rfl, k.out _ _ ⟨p_, q_, upk t 4 hb rfl rfl, I.low (hbc) 4 (by decide) (by decide) (by decide) (by decide)⟩⟩) ?_
    refine steps_cons (by rintro b a w' ⟨p_, q_, t, I⟩ hb hon _; refine ⟨_, rfl, fun K k => ?_⟩; have e3 := poff t (t := 3) rfl rfl; exact value_ (v := .pointer (some ⟨gb, 0, none⟩)) (by rfl) rfl (by clear I t; go_simp) (k.out _ _ ⟨p_, q_, upk t 5 hb rfl rfl, I.low (Below.refl _ _) 5 (by decide) (by decide) (by decide) (by decide)⟩)) ?_
    refine steps_cons (by rintro b a w' ⟨p_, q_, t, I⟩ hb hon _; refine ⟨_, rfl, fun K k => ?_⟩; have e87 := pon t 5 (hon 5 rfl) rfl rfl rfl; have k0 := (Bb.out.below (dr I.bel)).c0; have k1 := (Bb.out.below (dr I.bel)).lt; exact value_ (v := .int .i64 b0) (by rfl) rfl (by clear I t; go_simp) (k.out _ _ ⟨p_, q_, upk t 6 hb rfl rfl, I.low (Below.refl _ _) 6 (by decide) (by decide) (by decide) (by decide)⟩)) ?_
    refine steps_cons (by rintro b a w' ⟨p_, q_, t, I⟩ hb hon _; refine ⟨_, rfl, fun K k => ?_⟩; have e3 := poff t (t := 3) rfl rfl; exact value_ (v := .pointer (some ⟨gb, 1, none⟩)) (by rfl) rfl (by clear I t; go_simp) (k.out _ _ ⟨p_, q_, upk t 7 hb rfl rfl, I.low (Below.refl _ _) 7 (by decide) (by decide) (by decide) (by decide)⟩)) ?_
    refine steps_cons (by rintro b a w' ⟨p_, q_, t, I⟩ hb hon _; refine ⟨_, rfl, fun K k => ?_⟩; have e89 := pon t 7 (hon 7 rfl) rfl rfl rfl; have k0 := (Bb.out.below (dr I.bel)).c1; have k1 := (Bb.out.below (dr I.bel)).lt; exact value_ (v := .int .i64 b1) (by rfl) rfl (by clear I t; go_simp) (k.out _ _ ⟨p_, q_, upk t 8 hb rfl rfl, I.low (Below.refl _ _) 8 (by decide) (by decide) (by decide) (by decide)⟩)) ?_
    refine steps_cons (by rintro b a w' ⟨p_, q_, t, I⟩ hb hon _; refine ⟨_, rfl, fun K k => ?_⟩; have e88 := pon t 6 (hon 6 rfl) rfl rfl rfl; have e90 := pon t 8 (hon 8 rfl) rfl rfl rfl; have e86 := pon t 4 (hon 4 rfl) rfl rfl rfl; refine goes_ Try.func16 (by kernel_rfl) rfl #[.int .i64 b0, .int .i64 b1] (by rfl) rfl rfl (by simp [Act.eval, e88, e90]) ((RY _).out.mono ?_); rintro e_ w'' ⟨rfl, hbc⟩; exact ⟨_, rfl, k.out _ _ ⟨p_, q_, upk t 9 hb rfl rfl, I.low (hbc) 9 (by decide) (by decide) (by decide) (by decide)⟩⟩) ?_
    refine steps_cons (by rintro b a w' ⟨p_, q_, t, I⟩ hb hon hoff; refine ⟨_, rfl, fun K k => ?_⟩; exact value_ (w1 := w'.alloc (.cells #[.int .i64 0, .int .i64 0] 26)) (v := .pointer (some ⟨w'.heap.size, 0, none⟩)) (by rfl) rfl (by clear I t; go_simp) (k.out _ _ ⟨w'.heap.size, q_, by rw [t]; exact putSel_upk 10 hb rfl rfl rfl, I.al1 (hoff 12 (by kernel_rfl))⟩)) ?_
    refine steps_cons (by rintro b a w' ⟨p_, q_, t, I⟩ hb hon hoff; refine ⟨_, rfl, fun K k => ?_⟩; exact value_ (w1 := w'.alloc (.cells #[.int .i64 0, .int .i64 0] 26)) (v := .pointer (some ⟨w'.heap.size, 0, none⟩)) (by rfl) rfl (by clear I t; go_simp) (k.out _ _ ⟨p_, w'.heap.size, by rw [t]; exact putSel_upk 11 hb rfl rfl rfl, I.al2 (hoff 13 (by kernel_rfl))⟩)) ?_
    refine steps_cons (by rintro b a w' ⟨p_, q_, t, I⟩ hb hon _; refine ⟨_, rfl, fun K k => ?_⟩; have e9 := pon t 10 (hon 10 rfl) rfl rfl rfl; have e86 := pon t 4 (hon 4 rfl) rfl rfl rfl; obtain ⟨hp_, c0_, c1_, hc_⟩ := I.o1 (hon 10 (by kernel_rfl)); have hst := run_store_run (P := Try.prog) (o := 0) 26 (.agg #[.int .i64 x0, .int .i64 x1]) [.int .i64 x0, .int .i64 x1] hc_ rfl (by kernel_rfl) (by simp) (by simp [Value.oneCell']); exact skip_ (w1 := w'.setCells p_ 0 [.int .i64 x0, .int .i64 x1]) (by rfl) rfl (by unfold execOp; simp [Act.eval, e9, e86, hst]) (k.out _ _ ⟨p_, q_, ups t rfl, I.st1 (hon 10 (by kernel_rfl))⟩)) ?_
    refine steps_cons (by rintro b a w' ⟨p_, q_, t, I⟩ hb hon _; refine ⟨_, rfl, fun K k => ?_⟩; have e10 := pon t 11 (hon 11 rfl) rfl rfl rfl; have e91 := pon t 9 (hon 9 rfl) rfl rfl rfl; obtain ⟨hp_, c0_, c1_, hc_⟩ := I.o2 (hon 11 (by kernel_rfl)); have hst := run_store_run (P := Try.prog) (o := 0) 26 (.agg #[.int .i64 y0, .int .i64 y1]) [.int .i64 y0, .int .i64 y1] hc_ rfl (by kernel_rfl) (by simp) (by simp [Value.oneCell']); exact skip_ (w1 := w'.setCells q_ 0 [.int .i64 y0, .int .i64 y1]) (by rfl) rfl (by unfold execOp; simp [Act.eval, e10, e91, hst]) (k.out _ _ ⟨p_, q_, ups t rfl, I.st2 (hon 11 (by kernel_rfl))⟩)) ?_
    exact steps_nil
  · rintro b_ a w' hall ⟨p_, q_, ha, HI⟩
    have r0_ := hall 0 rfl; have r1_ := hall 1 rfl; have r2_ := hall 2 rfl; have r3_ := hall 3 rfl; have r4_ := hall 4 rfl; have r5_ := hall 5 rfl; have r6_ := hall 6 rfl; have r7_ := hall 7 rfl
    have r8_ := hall 8 rfl; have r9_ := hall 9 rfl; have r10_ := hall 10 rfl; have r11_ := hall 11 rfl; have r12_ := hall 12 rfl; have r13_ := hall 13 rfl
    subst ha
    simp only [putSel, r0_, r1_, r2_, r3_, r4_, r5_, r6_, r7_, r8_, r9_, r10_, r11_, if_true, Act.put, List.setIfInBounds_toArray, List.set_cons_zero, List.set_cons_succ]
    have hb := (below_then (below_drew (Below.refl _ w9)) (Nat.le_refl _) HI.bel : Below w9.heap.size w9 w')
    have Bp := Side.mk (HI.v1 r12_).box
    have Bq := Side.mk (HI.v2 r13_).box
    replace HB := Side.mk (below_then HB.out HB.out.size hb)
    replace Ba := Side.mk (Ba.out.below hb)
    replace Bb := Side.mk (Bb.out.below hb)
    replace Bx := Side.mk (Bx.out.below hb)
    replace By := Side.mk (By.out.below hb)
    clear hb
    clear HI hall r0_ r1_ r2_ r3_ r4_ r5_ r6_ r7_ r8_ r9_ r10_ r11_ r12_ r13_
    refine ‹∀ (a : Act) (w : World), Code.wp Try.prog _ _ a w → _› _ _ ?_
    generalize w' = w10 at *
    have lx0 := Bx.out.c0; have lx1 := Bx.out.c1; have lx2 := Bx.out.lt
    have ly0 := By.out.c0; have ly1 := By.out.c1; have ly2 := By.out.lt
    go_wp2_with fail
    with_reducible refine (AD _).out.mono ?_
    rintro e w11 ⟨rfl, hb⟩
    clear lx0 lx1 lx2 ly0 ly1 ly2
    replace HB := Side.mk (below_then HB.out HB.out.size hb)
    replace Ba := Side.mk (Ba.out.below hb)
    replace Bb := Side.mk (Bb.out.below hb)
    replace Bx := Side.mk (Bx.out.below hb)
    replace By := Side.mk (By.out.below hb)
    replace Bp := Side.mk (Bp.out.below hb)
    replace Bq := Side.mk (Bq.out.below hb)
    clear hb
    go_upto_region 11 with (fail)
    replace Ba := Side.mk (Ba.out.alloc (.cells #[.int .i64 s0, .int .i64 s1] 26))
    replace Bb := Side.mk (Bb.out.alloc (.cells #[.int .i64 s0, .int .i64 s1] 26))
    replace Bx := Side.mk (Bx.out.alloc (.cells #[.int .i64 s0, .int .i64 s1] 26))
    replace By := Side.mk (By.out.alloc (.cells #[.int .i64 s0, .int .i64 s1] 26))
    replace Bp := Side.mk (Bp.out.alloc (.cells #[.int .i64 s0, .int .i64 s1] 26))
    replace Bq := Side.mk (Bq.out.alloc (.cells #[.int .i64 s0, .int .i64 s1] 26))
    replace HB := Side.mk (below_alloc2 HB.out (.cells #[.int .i64 s0, .int .i64 s1] 26))
    have Bs : Side (Box2 (w11.alloc (.cells #[.int .i64 s0, .int .i64 s1] 26)) w11.heap.size .i64 s0 s1) := ⟨Box2.new _ _ _ _ _⟩
    obtain ⟨gs, hgs⟩ : ∃ g, g = w11.heap.size := ⟨_, rfl⟩
    rw [← hgs] at Bs ⊢
    clear hgs
    generalize (w11.alloc (.cells #[.int .i64 s0, .int .i64 s1] 26)) = w12 at *
    have lx0 := Bx.out.c0; have lx1 := Bx.out.c1; have lx2 := Bx.out.lt
    have ly0 := By.out.c0; have ly1 := By.out.c1; have ly2 := By.out.lt
    go_wp2_with fail
    with_reducible refine (SU _).out.mono ?_
    rintro e w13 ⟨rfl, hb⟩
    clear lx0 lx1 lx2 ly0 ly1 ly2
    replace HB := Side.mk (below_then HB.out HB.out.size hb)
    replace Ba := Side.mk (Ba.out.below hb)
    replace Bb := Side.mk (Bb.out.below hb)
    replace Bx := Side.mk (Bx.out.below hb)
    replace By := Side.mk (By.out.below hb)
    replace Bp := Side.mk (Bp.out.below hb)
    replace Bq := Side.mk (Bq.out.below hb)
    replace Bs := Side.mk (Bs.out.below hb)
    clear hb
    go_upto_region 12 with (fail)
    replace Ba := Side.mk (Ba.out.alloc (.cells #[.int .i64 d0, .int .i64 d1] 26))
    replace Bb := Side.mk (Bb.out.alloc (.cells #[.int .i64 d0, .int .i64 d1] 26))
    replace Bx := Side.mk (Bx.out.alloc (.cells #[.int .i64 d0, .int .i64 d1] 26))
    replace By := Side.mk (By.out.alloc (.cells #[.int .i64 d0, .int .i64 d1] 26))
    replace Bp := Side.mk (Bp.out.alloc (.cells #[.int .i64 d0, .int .i64 d1] 26))
    replace Bq := Side.mk (Bq.out.alloc (.cells #[.int .i64 d0, .int .i64 d1] 26))
    replace Bs := Side.mk (Bs.out.alloc (.cells #[.int .i64 d0, .int .i64 d1] 26))
    replace HB := Side.mk (below_alloc2 HB.out (.cells #[.int .i64 d0, .int .i64 d1] 26))
    have Bd : Side (Box2 (w13.alloc (.cells #[.int .i64 d0, .int .i64 d1] 26)) w13.heap.size .i64 d0 d1) := ⟨Box2.new _ _ _ _ _⟩
    obtain ⟨gd, hgd⟩ : ∃ g, g = w13.heap.size := ⟨_, rfl⟩
    rw [← hgd] at Bd ⊢
    clear hgd
    generalize (w13.alloc (.cells #[.int .i64 d0, .int .i64 d1] 26)) = w14 at *
    have lx0 := Bx.out.c0; have lx1 := Bx.out.c1; have lx2 := Bx.out.lt
    have ly0 := By.out.c0; have ly1 := By.out.c1; have ly2 := By.out.lt
    go_wp2_with fail
    with_reducible refine (MU _).out.mono ?_
    rintro e w15 ⟨rfl, hb⟩
    clear lx0 lx1 lx2 ly0 ly1 ly2
    replace HB := Side.mk (below_then HB.out HB.out.size hb)
    replace Ba := Side.mk (Ba.out.below hb)
    replace Bb := Side.mk (Bb.out.below hb)
    replace Bx := Side.mk (Bx.out.below hb)
    replace By := Side.mk (By.out.below hb)
    replace Bp := Side.mk (Bp.out.below hb)
    replace Bq := Side.mk (Bq.out.below hb)
    replace Bs := Side.mk (Bs.out.below hb)
    replace Bd := Side.mk (Bd.out.below hb)
    clear hb
    go_upto_region 13 with (fail)
    replace Ba := Side.mk (Ba.out.alloc (.cells #[.int .i64 m0, .int .i64 m1] 26))
    replace Bb := Side.mk (Bb.out.alloc (.cells #[.int .i64 m0, .int .i64 m1] 26))
    replace Bx := Side.mk (Bx.out.alloc (.cells #[.int .i64 m0, .int .i64 m1] 26))
    replace By := Side.mk (By.out.alloc (.cells #[.int .i64 m0, .int .i64 m1] 26))
    replace Bp := Side.mk (Bp.out.alloc (.cells #[.int .i64 m0, .int .i64 m1] 26))
    replace Bq := Side.mk (Bq.out.alloc (.cells #[.int .i64 m0, .int .i64 m1] 26))
    replace Bs := Side.mk (Bs.out.alloc (.cells #[.int .i64 m0, .int .i64 m1] 26))
    replace Bd := Side.mk (Bd.out.alloc (.cells #[.int .i64 m0, .int .i64 m1] 26))
    replace HB := Side.mk (below_alloc2 HB.out (.cells #[.int .i64 m0, .int .i64 m1] 26))
    have Bm : Side (Box2 (w15.alloc (.cells #[.int .i64 m0, .int .i64 m1] 26)) w15.heap.size .i64 m0 m1) := ⟨Box2.new _ _ _ _ _⟩
    obtain ⟨gm, hgm⟩ : ∃ g, g = w15.heap.size := ⟨_, rfl⟩
    rw [← hgm] at Bm ⊢
    clear hgm
    generalize (w15.alloc (.cells #[.int .i64 m0, .int .i64 m1] 26)) = w16 at *
    refine start_ (n := 12) (S := fun w' => True) (ds := []) #[false, false, false, false, false, false, false, false, false, false, false, false] (by kernel_rfl) rfl rfl trivial (fun _ => ?_)
    refine inv_at (B := [0, 1, 0, 4, 15, 0, 32, 0, 128, 511, 31, 1023]) [0, 1, 2, 3, 4, 5, 6, 7, 8, 9, 10, 11] (fun a0_ b_ a w' => a = putSel a0_ b_ [(0, 110, .pointer (some ⟨p_, 0, none⟩)), (1, 111, .int .i64 x0), (2, 112, .pointer (some ⟨q_, 1, none⟩)), (3, 113, .int .i64 y1), (4, 114, .int .i64 g), (5, 115, .pointer (some ⟨q_, 0, none⟩)), (6, 116, .int .i64 y0), (7, 117, .pointer (some ⟨p_, 1, none⟩)), (8, 118, .int .i64 x1), (9, 119, .int .i64 h), (10, 17, .int .i64 g), (11, 18, .int .i64 h)] ∧ Below w16.drew.heap.size w16.drew w') rfl (by kernel_rfl) (by kernel_rfl) (by kernel_rfl) ?_ ?_ ?_
    · exact ⟨by simp only [putSel, Bool.false_eq_true, if_false], Below.refl _ _⟩
    · refine steps_cons (by rintro b a w' ⟨t, I⟩ hb hon _; refine ⟨_, rfl, fun K k => ?_⟩; have e9 := poff t (t := 9) rfl rfl; exact value_ (v := .pointer (some ⟨p_, 0, none⟩)) (by rfl) rfl (by clear I t; go_simp) (k.out _ _ ⟨upk t 0 hb rfl rfl, I⟩)) ?_
      refine steps_cons (by rintro b a w' ⟨t, I⟩ hb hon _; refine ⟨_, rfl, fun K k => ?_⟩; have e110 := pon t 0 (hon 0 rfl) rfl rfl rfl; have k0 := (Bp.out.below (dr I)).c0; have k1 := (Bp.out.below (dr I)).lt; exact value_ (v := .int .i64 x0) (by rfl) rfl (by clear I t; go_simp) (k.out _ _ ⟨upk t 1 hb rfl rfl, I⟩)) ?_
      refine steps_cons (by rintro b a w' ⟨t, I⟩ hb hon _; refine ⟨_, rfl, fun K k => ?_⟩; have e10 := poff t (t := 10) rfl rfl; exact value_ (v := .pointer (some ⟨q_, 1, none⟩)) (by rfl) rfl (by clear I t; go_simp) (k.out _ _ ⟨upk t 2 hb rfl rfl, I⟩)) ?_
      refine steps_cons (by rintro b a w' ⟨t, I⟩ hb hon _; refine ⟨_, rfl, fun K k => ?_⟩; have e112 := pon t 2 (hon 2 rfl) rfl rfl rfl; have k0 := (Bq.out.below (dr I)).c1; have k1 := (Bq.out.below (dr I)).lt; exact value_ (v := .int .i64 y1) (by rfl) rfl (by clear I t; go_simp) (k.out _ _ ⟨upk t 3 hb rfl rfl, I⟩)) ?_
      refine steps_cons (by rintro b a w' ⟨t, I⟩ hb hon _; refine ⟨_, rfl, fun K k => ?_⟩; have e111 := pon t 1 (hon 1 rfl) rfl rfl rfl; have e113 := pon t 3 (hon 3 rfl) rfl rfl rfl; refine goes_ Try.func19 (by kernel_rfl) rfl #[.int .i64 x0, .int .i64 y1] (by rfl) rfl rfl (by simp [Act.eval, e111, e113]) ((G1 _).out.mono ?_); rintro e_ w'' ⟨rfl, hbc⟩; exact ⟨_, rfl, k.out _ _ ⟨upk t 4 hb rfl rfl, below_then I I.size hbc⟩⟩) ?_
      refine steps_cons (by rintro b a w' ⟨t, I⟩ hb hon _; refine ⟨_, rfl, fun K k => ?_⟩; have e10 := poff t (t := 10) rfl rfl; exact value_ (v := .pointer (some ⟨q_, 0, none⟩)) (by rfl) rfl (by clear I t; go_simp) (k.out _ _ ⟨upk t 5 hb rfl rfl, I⟩)) ?_
      refine steps_cons (by rintro b a w' ⟨t, I⟩ hb hon _; refine ⟨_, rfl, fun K k => ?_⟩; have e115 := pon t 5 (hon 5 rfl) rfl rfl rfl; have k0 := (Bq.out.below (dr I)).c0; have k1 := (Bq.out.below (dr I)).lt; exact value_ (v := .int .i64 y0) (by rfl) rfl (by clear I t; go_simp) (k.out _ _ ⟨upk t 6 hb rfl rfl, I⟩)) ?_
      refine steps_cons (by rintro b a w' ⟨t, I⟩ hb hon _; refine ⟨_, rfl, fun K k => ?_⟩; have e9 := poff t (t := 9) rfl rfl; exact value_ (v := .pointer (some ⟨p_, 1, none⟩)) (by rfl) rfl (by clear I t; go_simp) (k.out _ _ ⟨upk t 7 hb rfl rfl, I⟩)) ?_
      refine steps_cons (by rintro b a w' ⟨t, I⟩ hb hon _; refine ⟨_, rfl, fun K k => ?_⟩; have e117 := pon t 7 (hon 7 rfl) rfl rfl rfl; have k0 := (Bp.out.below (dr I)).c1; have k1 := (Bp.out.below (dr I)).lt; exact value_ (v := .int .i64 x1) (by rfl) rfl (by clear I t; go_simp) (k.out _ _ ⟨upk t 8 hb rfl rfl, I⟩)) ?_
      refine steps_cons (by rintro b a w' ⟨t, I⟩ hb hon _; refine ⟨_, rfl, fun K k => ?_⟩; have e116 := pon t 6 (hon 6 rfl) rfl rfl rfl; have e118 := pon t 8 (hon 8 rfl) rfl rfl rfl; have e114 := pon t 4 (hon 4 rfl) rfl rfl rfl; refine goes_ Try.func19 (by kernel_rfl) rfl #[.int .i64 y0, .int .i64 x1] (by rfl) rfl rfl (by simp [Act.eval, e116, e118]) ((G2 _).out.mono ?_); rintro e_ w'' ⟨rfl, hbc⟩; exact ⟨_, rfl, k.out _ _ ⟨upk t 9 hb rfl rfl, below_then I I.size hbc⟩⟩) ?_
      refine steps_cons (by rintro b a w' ⟨t, I⟩ hb hon _; refine ⟨_, rfl, fun K k => ?_⟩; have e114 := pon t 4 (hon 4 rfl) rfl rfl rfl; exact value_ (v := .int .i64 g) (by rfl) rfl (by clear I t; go_simp) (k.out _ _ ⟨upk t 10 hb rfl rfl, I⟩)) ?_
      refine steps_cons (by rintro b a w' ⟨t, I⟩ hb hon _; refine ⟨_, rfl, fun K k => ?_⟩; have e119 := pon t 9 (hon 9 rfl) rfl rfl rfl; exact value_ (v := .int .i64 h) (by rfl) rfl (by clear I t; go_simp) (k.out _ _ ⟨upk t 11 hb rfl rfl, I⟩)) ?_
      exact steps_nil
    · rintro b_ a w' hall ⟨ha, HI⟩
      have r0_ := hall 0 rfl; have r1_ := hall 1 rfl; have r2_ := hall 2 rfl; have r3_ := hall 3 rfl; have r4_ := hall 4 rfl; have r5_ := hall 5 rfl; have r6_ := hall 6 rfl; have r7_ := hall 7 rfl
      have r8_ := hall 8 rfl; have r9_ := hall 9 rfl; have r10_ := hall 10 rfl; have r11_ := hall 11 rfl
      subst ha
      simp only [putSel, r0_, r1_, r2_, r3_, r4_, r5_, r6_, r7_, r8_, r9_, r10_, r11_, if_true, Act.put, List.setIfInBounds_toArray, List.set_cons_zero, List.set_cons_succ]
      have hb := (below_then (below_drew (Below.refl _ w16)) (Nat.le_refl _) HI : Below w16.heap.size w16 w')
      replace HB := Side.mk (below_then HB.out HB.out.size hb)
      replace Ba := Side.mk (Ba.out.below hb)
      replace Bb := Side.mk (Bb.out.below hb)
      replace Bx := Side.mk (Bx.out.below hb)
      replace By := Side.mk (By.out.below hb)
      replace Bp := Side.mk (Bp.out.below hb)
      replace Bq := Side.mk (Bq.out.below hb)
      replace Bs := Side.mk (Bs.out.below hb)
      replace Bd := Side.mk (Bd.out.below hb)
      replace Bm := Side.mk (Bm.out.below hb)
      clear hb
      clear HI hall r0_ r1_ r2_ r3_ r4_ r5_ r6_ r7_ r8_ r9_ r10_ r11_
      refine ‹∀ (a : Act) (w : World), Code.wp Try.prog _ _ a w → _› _ _ ?_
      generalize w' = w17 at *
      have LV : Side (Live w gx gy p_ q_ gs gd gm x0 x1 y0 y1 s0 s1 d0 d1 m0 m1 w17) := ⟨⟨HB.out, Bx.out, By.out, Bp.out, Bq.out, Bs.out, Bd.out, Bm.out⟩⟩
      clear HB Ba Bb Bx By Bp Bq Bs Bd Bm
      go_upto_region 14 with (fail)
      go_cut [19] (fun v wc => v = .int .i64 0 ∧ Side (Live w gx gy p_ q_ gs gd gm x0 x1 y0 y1 s0 s1 d0 d1 m0 m1 wc))
      case first =>
        go_wp2
        go_meet
        case rel => exact ⟨rfl, LV⟩
      case rest =>
        clear LV
        obtain ⟨rfl, LV⟩ := hcut
        go_step
        go_step
        go_cut [19] (fun v wc => ∃ d : Int, v = .int .i64 d ∧ Side (d = if l1 = true then -1 else 0) ∧ Side (Live w gx gy p_ q_ gs gd gm x0 x1 y0 y1 s0 s1 d0 d1 m0 m1 wc))
        case first =>
          have lp0 := LV.out.p.c0
          have lp1 := LV.out.p.c1
          have lp2 := LV.out.p.lt
          have lq0 := LV.out.q.c0
          have lq1 := LV.out.q.c1
          have lq2 := LV.out.q.lt
          go_wp2_with fail
          refine (L1 _).out.mono ?_
          rintro e wl ⟨rfl, hb⟩
          have LV' := Side.mk (LV.out.below hb)
          clear hb lp0 lp1 lp2 lq0 lq1 lq2
          go_wp2
          all_goals
            go_meet
            case rel => exact ⟨_, rfl, ⟨by simp_all⟩, LV'⟩
        case rest =>
          clear LV
          obtain ⟨dv, rfl, HD, LV⟩ := hcut
          go_step
          go_step
          go_cut [19] (fun v wc => v = .int .i64 c ∧ Side (Live w gx gy p_ q_ gs gd gm x0 x1 y0 y1 s0 s1 d0 d1 m0 m1 wc))
          case first =>
            have lp0 := LV.out.p.c0
            have lp1 := LV.out.p.c1
            have lp2 := LV.out.p.lt
            have lq0 := LV.out.q.c0
            have lq1 := LV.out.q.c1
            have lq2 := LV.out.q.lt
            go_wp2_with fail
            refine (L2 _).out.mono ?_
            rintro e wl ⟨rfl, hb⟩
            have LV' := Side.mk (LV.out.below hb)
            clear hb lp0 lp1 lp2 lq0 lq1 lq2
            go_wp2
            all_goals
              go_meet
              case rel => exact ⟨by have hd := HD.out; rcases HC.out with ⟨h1, h2, h3⟩ | ⟨h1, h2, h3⟩ | ⟨h1, h2, h3⟩ <;> simp_all, LV'⟩
          case rest =>
            clear LV
            obtain ⟨rfl, LV⟩ := hcut
            go_step
            go_step
            have HB := Side.mk LV.out.bel
            have Bx := Side.mk LV.out.x
            have By := Side.mk LV.out.y
            have Bp := Side.mk LV.out.p
            have Bq := Side.mk LV.out.q
            have Bs := Side.mk LV.out.s
            have Bd := Side.mk LV.out.d
            have Bm := Side.mk LV.out.m
            generalize wc = w99 at *
            go_wp2_with fail
            simp only [List.append_eq, List.cons_append, List.nil_append]
            refine start_ (n := 93) (S := fun w' => True) (ds := []) #[false, false, false, false, false, false, false, false, false, false, false, false, false, false, false, false, false, false, false, false, false, false, false, false, false, false, false, false, false, false, false, false, false, false, false, false, false, false, false, false, false, false, false, false, false, false, false, false, false, false, false, false, false, false, false, false, false, false, false, false, false, false, false, false, false, false, false, false, false, false, false, false, false, false, false, false, false, false, false, false, false, false, false, false, false, false, false, false, false, false, false, false, false] (by kernel_rfl) rfl rfl trivial (fun _ => ?_)
            refine inv_at (B := [0, 1, 3, 7, 15, 31, 63, 127, 255, 511, 1023, 2047, 4095, 8191, 16383, 32767, 65535, 131071, 262143, 524287, 524287, 2097151, 4194303, 8388607, 16777215, 16777215, 67108863, 134217727, 268435455, 536870911, 536870911, 536870911, 3758096383, 8589934591, 17179869183, 34359738367, 68719476735, 68719476735, 68719476735, 481036337151, 1099511627775, 2199023255551, 4398046511103, 8796093022207, 8796093022207, 26388279066623, 8796093022207, 131941395333119, 8796093022207, 290271069732863, 8796093022207, 1979120929996799, 4494803534348287, 8796093022207, 9015995347763199, 8796093022207, 63059190876209151, 8796093022207, 144123984168878079, 8796093022207, 1008815112624013311, 2296844606051975167, 4611677222334365695, 9223372036854775807, 18446744073709551615, 36893488147419103231, 73786976294838206463, 73786976294838206463, 295147905179352825855, 73786976294838206463, 1180591620717411303423, 2361183241434822606847, 4722366482869645213695, 9444732965739290427391, 18889465931478580854783, 9444732965739290427391, 47223664828696452136959, 9444732965739290427391, 160560460417567937265663, 604462909807314587353087, 1208925819614629174706175, 2417851639229258349412351, 4835703278458516698824703, 9671406556917033397649407, 19342813113834066795298815, 9671406556917033397649407, 48357032784585166988247039, 9671406556917033397649407, 164413911467589567760039935, 618970019642690137449562111, 1237940039285380274899124223, 2475880078570760549798248447, 4951760157141521099596496895]) [0, 1, 2, 3, 4, 5, 6, 7, 8, 9, 10, 11, 12, 13, 14, 15, 16, 17, 18, 19, 20, 21, 22, 23, 24, 25, 26, 27, 28, 29, 30, 31, 32, 33, 34, 35, 36, 37, 38, 39, 40, 41, 42, 43, 44, 45, 46, 47, 48, 49, 50, 51, 52, 53, 54, 55, 56, 57, 58, 59, 60, 61, 62, 63, 64, 65, 66, 67, 68, 69, 70, 71, 72, 73, 74, 75, 76, 77, 78, 79, 80, 81, 82, 83, 84, 85, 86, 87, 88, 89, 90, 91, 92] (fun a0_ b_ a w' => a = putSel a0_ b_ [(0, 126, .int .i64 0), (1, 127, .bool true), (2, 128, .bool true), (3, 129, .int .i64 0), (4, 130, .bool true), (5, 131, .bool true), (6, 132, .bool true), (7, 133, .int .i64 0), (8, 134, .bool true), (9, 135, .bool true), (10, 136, .bool true), (11, 137, .int .i64 0), (12, 138, .bool true), (13, 139, .bool true), (14, 140, .bool true), (15, 141, .int .i64 0), (16, 142, .bool true), (17, 143, .bool true), (18, 144, .bool true), (19, 145, .agg #[.int .i64 x0, .int .i64 x1]), (20, 146, .agg #[.int .i64 x0, .int .i64 x1]), (21, 147, .bool true), (22, 148, .bool true), (23, 149, .bool true), (24, 150, .agg #[.int .i64 y0, .int .i64 y1]), (25, 151, .agg #[.int .i64 y0, .int .i64 y1]), (26, 152, .bool true), (27, 153, .bool true), (28, 154, .bool true), (29, 155, .agg #[.int .i64 s0, .int .i64 s1]), (30, 156, .agg #[.int .i64 x0, .int .i64 x1]), (31, 157, .agg #[.int .i64 y0, .int .i64 y1]), (32, 158, .agg #[.int .i64 s0, .int .i64 s1]), (33, 159, .bool true), (34, 160, .bool true), (35, 161, .bool true), (36, 162, .agg #[.int .i64 d0, .int .i64 d1]), (37, 163, .agg #[.int .i64 x0, .int .i64 x1]), (38, 164, .agg #[.int .i64 y0, .int .i64 y1]), (39, 165, .agg #[.int .i64 d0, .int .i64 d1]), (40, 166, .bool true), (41, 167, .bool true), (42, 168, .bool true), (43, 169, .agg #[.int .i64 m0, .int .i64 m1]), (44, 170, .pointer (some ⟨p_, 0, none⟩)), (45, 171, .int .i64 x0), (46, 172, .int .i64 g), (47, 173, .int .i64 p), (48, 174, .pointer (some ⟨q_, 0, none⟩)), (49, 175, .int .i64 y0), (50, 176, .int .i64 h), (51, 177, .int .i64 q), (52, 178, .int .i64 n0), (53, 179, .pointer (some ⟨p_, 1, none⟩)), (54, 180, .int .i64 x1), (55, 181, .int .i64 h), (56, 182, .int .i64 u), (57, 183, .pointer (some ⟨q_, 1, none⟩)), (58, 184, .int .i64 y1), (59, 185, .int .i64 g), (60, 186, .int .i64 v), (61, 187, .int .i64 n1), (62, 188, .agg #[.int .i64 m0, .int .i64 m1]), (63, 189, .bool true), (64, 190, .bool true), (65, 191, .bool true), (66, 192, .agg #[.int .i64 x0, .int .i64 x1]), (67, 193, .agg #[.int .i64 y0, .int .i64 y1]), (68, 194, .int .i64 c), (69, 195, .int .i64 c), (70, 196, .bool true), (71, 197, .bool true), (72, 198, .bool true), (73, 199, .agg #[.int .i64 x0, .int .i64 x1]), (74, 200, .int .i64 fl), (75, 201, .pointer (some ⟨p_, 0, none⟩)), (76, 202, .int .i64 x0), (77, 203, .pointer (some ⟨p_, 1, none⟩)), (78, 204, .int .i64 x1), (79, 205, .int .i64 fl), (80, 206, .bool true), (81, 207, .bool true), (82, 208, .bool true), (83, 209, .agg #[.int .i64 x0, .int .i64 x1]), (84, 210, .int .i64 ce), (85, 211, .pointer (some ⟨p_, 0, none⟩)), (86, 212, .int .i64 x0), (87, 213, .pointer (some ⟨p_, 1, none⟩)), (88, 214, .int .i64 x1), (89, 215, .int .i64 ce), (90, 216, .bool true), (91, 217, .bool true), (92, 4, .bool true)] ∧ Below w99.drew.heap.size w99.drew w') rfl (by kernel_rfl) (by kernel_rfl) (by kernel_rfl) ?_ ?_ ?_
            · exact ⟨by simp only [putSel, Bool.false_eq_true, if_false], Below.refl _ _⟩
            · refine steps_cons (by rintro b a w' ⟨t, I⟩ hb hon _; refine ⟨_, rfl, fun K k => ?_⟩; have e6 := poff t (t := 6) rfl rfl; exact value_ (v := .int .i64 0) (by rfl) rfl (by clear I t; go_simp) (k.out _ _ ⟨upk t 0 hb rfl rfl, I⟩)) ?_
              refine steps_cons (by rintro b a w' ⟨t, I⟩ hb hon _; refine ⟨_, rfl, fun K k => ?_⟩; have e126 := pon t 0 (hon 0 rfl) rfl rfl rfl; exact value_ (v := .bool true) (by rfl) rfl (by clear I t; go_simp) (k.out _ _ ⟨upk t 1 hb rfl rfl, I⟩)) ?_
              refine steps_cons (by rintro b a w' ⟨t, I⟩ hb hon _; refine ⟨_, rfl, fun K k => ?_⟩; have e127 := pon t 1 (hon 1 rfl) rfl rfl rfl; exact value_ (v := .bool true) (by rfl) rfl (by clear I t; go_simp) (k.out _ _ ⟨upk t 2 hb rfl rfl, I⟩)) ?_
              refine steps_cons (by rintro b a w' ⟨t, I⟩ hb hon _; refine ⟨_, rfl, fun K k => ?_⟩; have e8 := poff t (t := 8) rfl rfl; have e128 := pon t 2 (hon 2 rfl) rfl rfl rfl; exact value_ (v := .int .i64 0) (wanted_on (t := 128) (u := true) rfl rfl rfl e128) rfl (by clear I t; go_simp) (k.out _ _ ⟨upk t 3 hb rfl rfl, I⟩)) ?_
              refine steps_cons (by rintro b a w' ⟨t, I⟩ hb hon _; refine ⟨_, rfl, fun K k => ?_⟩; have e129 := pon t 3 (hon 3 rfl) rfl rfl rfl; have e128 := pon t 2 (hon 2 rfl) rfl rfl rfl; exact value_ (v := .bool true) (wanted_on (t := 128) (u := true) rfl rfl rfl e128) rfl (by clear I t; go_simp) (k.out _ _ ⟨upk t 4 hb rfl rfl, I⟩)) ?_
              refine steps_cons (by rintro b a w' ⟨t, I⟩ hb hon _; refine ⟨_, rfl, fun K k => ?_⟩; have e128 := pon t 2 (hon 2 rfl) rfl rfl rfl; have e130 := pon t 4 (hon 4 rfl) rfl rfl rfl; exact value_ (v := .bool true) (by rfl) rfl (by clear I t; go_simp) (k.out _ _ ⟨upk t 5 hb rfl rfl, I⟩)) ?_
              refine steps_cons (by rintro b a w' ⟨t, I⟩ hb hon _; refine ⟨_, rfl, fun K k => ?_⟩; have e131 := pon t 5 (hon 5 rfl) rfl rfl rfl; have e128 := pon t 2 (hon 2 rfl) rfl rfl rfl; exact value_ (v := .bool true) (by rfl) rfl (by clear I t; go_simp) (k.out _ _ ⟨upk t 6 hb rfl rfl, I⟩)) ?_
              refine steps_cons (by rintro b a w' ⟨t, I⟩ hb hon _; refine ⟨_, rfl, fun K k => ?_⟩; have e12 := poff t (t := 12) rfl rfl; have e132 := pon t 6 (hon 6 rfl) rfl rfl rfl; exact value_ (v := .int .i64 0) (wanted_on (t := 132) (u := true) rfl rfl rfl e132) rfl (by clear I t; go_simp) (k.out _ _ ⟨upk t 7 hb rfl rfl, I⟩)) ?_
              refine steps_cons (by rintro b a w' ⟨t, I⟩ hb hon _; refine ⟨_, rfl, fun K k => ?_⟩; have e133 := pon t 7 (hon 7 rfl) rfl rfl rfl; have e132 := pon t 6 (hon 6 rfl) rfl rfl rfl; exact value_ (v := .bool true) (wanted_on (t := 132) (u := true) rfl rfl rfl e132) rfl (by clear I t; go_simp) (k.out _ _ ⟨upk t 8 hb rfl rfl, I⟩)) ?_
              refine steps_cons (by rintro b a w' ⟨t, I⟩ hb hon _; refine ⟨_, rfl, fun K k => ?_⟩; have e132 := pon t 6 (hon 6 rfl) rfl rfl rfl; have e134 := pon t 8 (hon 8 rfl) rfl rfl rfl; exact value_ (v := .bool true) (by rfl) rfl (by clear I t; go_simp) (k.out _ _ ⟨upk t 9 hb rfl rfl, I⟩)) ?_
              refine steps_cons (by rintro b a w' ⟨t, I⟩ hb hon _; refine ⟨_, rfl, fun K k => ?_⟩; have e135 := pon t 9 (hon 9 rfl) rfl rfl rfl; have e132 := pon t 6 (hon 6 rfl) rfl rfl rfl; exact value_ (v := .bool true) (by rfl) rfl (by clear I t; go_simp) (k.out _ _ ⟨upk t 10 hb rfl rfl, I⟩)) ?_
              refine steps_cons (by rintro b a w' ⟨t, I⟩ hb hon _; refine ⟨_, rfl, fun K k => ?_⟩; have e14 := poff t (t := 14) rfl rfl; have e136 := pon t 10 (hon 10 rfl) rfl rfl rfl; exact value_ (v := .int .i64 0) (wanted_on (t := 136) (u := true) rfl rfl rfl e136) rfl (by clear I t; go_simp) (k.out _ _ ⟨upk t 11 hb rfl rfl, I⟩)) ?_
              refine steps_cons (by rintro b a w' ⟨t, I⟩ hb hon _; refine ⟨_, rfl, fun K k => ?_⟩; have e137 := pon t 11 (hon 11 rfl) rfl rfl rfl; have e136 := pon t 10 (hon 10 rfl) rfl rfl rfl; exact value_ (v := .bool true) (wanted_on (t := 136) (u := true) rfl rfl rfl e136) rfl (by clear I t; go_simp) (k.out _ _ ⟨upk t 12 hb rfl rfl, I⟩)) ?_
              refine steps_cons (by rintro b a w' ⟨t, I⟩ hb hon _; refine ⟨_, rfl, fun K k => ?_⟩; have e136 := pon t 10 (hon 10 rfl) rfl rfl rfl; have e138 := pon t 12 (hon 12 rfl) rfl rfl rfl; exact value_ (v := .bool true) (by rfl) rfl (by clear I t; go_simp) (k.out _ _ ⟨upk t 13 hb rfl rfl, I⟩)) ?_
              refine steps_cons (by rintro b a w' ⟨t, I⟩ hb hon _; refine ⟨_, rfl, fun K k => ?_⟩; have e139 := pon t 13 (hon 13 rfl) rfl rfl rfl; have e136 := pon t 10 (hon 10 rfl) rfl rfl rfl; exact value_ (v := .bool true) (by rfl) rfl (by clear I t; go_simp) (k.out _ _ ⟨upk t 14 hb rfl rfl, I⟩)) ?_
              refine steps_cons (by rintro b a w' ⟨t, I⟩ hb hon _; refine ⟨_, rfl, fun K k => ?_⟩; have e16 := poff t (t := 16) rfl rfl; have e140 := pon t 14 (hon 14 rfl) rfl rfl rfl; exact value_ (v := .int .i64 0) (wanted_on (t := 140) (u := true) rfl rfl rfl e140) rfl (by clear I t; go_simp) (k.out _ _ ⟨upk t 15 hb rfl rfl, I⟩)) ?_
              refine steps_cons (by rintro b a w' ⟨t, I⟩ hb hon _; refine ⟨_, rfl, fun K k => ?_⟩; have e141 := pon t 15 (hon 15 rfl) rfl rfl rfl; have e140 := pon t 14 (hon 14 rfl) rfl rfl rfl; exact value_ (v := .bool true) (wanted_on (t := 140) (u := true) rfl rfl rfl e140) rfl (by clear I t; go_simp) (k.out _ _ ⟨upk t 16 hb rfl rfl, I⟩)) ?_
              refine steps_cons (by rintro b a w' ⟨t, I⟩ hb hon _; refine ⟨_, rfl, fun K k => ?_⟩; have e140 := pon t 14 (hon 14 rfl) rfl rfl rfl; have e142 := pon t 16 (hon 16 rfl) rfl rfl rfl; exact value_ (v := .bool true) (by rfl) rfl (by clear I t; go_simp) (k.out _ _ ⟨upk t 17 hb rfl rfl, I⟩)) ?_
              refine steps_cons (by rintro b a w' ⟨t, I⟩ hb hon _; refine ⟨_, rfl, fun K k => ?_⟩; have e143 := pon t 17 (hon 17 rfl) rfl rfl rfl; have e140 := pon t 14 (hon 14 rfl) rfl rfl rfl; exact value_ (v := .bool true) (by rfl) rfl (by clear I t; go_simp) (k.out _ _ ⟨upk t 18 hb rfl rfl, I⟩)) ?_
              refine steps_cons (by rintro b a w' ⟨t, I⟩ hb hon _; refine ⟨_, rfl, fun K k => ?_⟩; have e5 := poff t (t := 5) rfl rfl; have e144 := pon t 18 (hon 18 rfl) rfl rfl rfl; have k0_ := (Bx.out.below (dr I)).c0; have k1_ := (Bx.out.below (dr I)).c1; have k9_ := (Bx.out.below (dr I)).lt; exact value_ (v := .agg #[.int .i64 x0, .int .i64 x1]) (wanted_on (t := 144) (u := true) rfl rfl rfl e144) rfl (by clear I t; go_simp) (k.out _ _ ⟨upk t 19 hb rfl rfl, I⟩)) ?_
              refine steps_cons (by rintro b a w' ⟨t, I⟩ hb hon _; refine ⟨_, rfl, fun K k => ?_⟩; have e9 := poff t (t := 9) rfl rfl; have e144 := pon t 18 (hon 18 rfl) rfl rfl rfl; have k0_ := (Bp.out.below (dr I)).c0; have k1_ := (Bp.out.below (dr I)).c1; have k9_ := (Bp.out.below (dr I)).lt; exact value_ (v := .agg #[.int .i64 x0, .int .i64 x1]) (wanted_on (t := 144) (u := true) rfl rfl rfl e144) rfl (by clear I t; go_simp) (k.out _ _ ⟨upk t 20 hb rfl rfl, I⟩)) ?_
              refine steps_cons (by rintro b a w' ⟨t, I⟩ hb hon _; refine ⟨_, rfl, fun K k => ?_⟩; have e145 := pon t 19 (hon 19 rfl) rfl rfl rfl; have e146 := pon t 20 (hon 20 rfl) rfl rfl rfl; have e144 := pon t 18 (hon 18 rfl) rfl rfl rfl; exact value_ (v := .bool true) (wanted_on (t := 144) (u := true) rfl rfl rfl e144) rfl (by clear I t; go_simp) (k.out _ _ ⟨upk t 21 hb rfl rfl, I⟩)) ?_
              refine steps_cons (by rintro b a w' ⟨t, I⟩ hb hon _; refine ⟨_, rfl, fun K k => ?_⟩; have e144 := pon t 18 (hon 18 rfl) rfl rfl rfl; have e147 := pon t 21 (hon 21 rfl) rfl rfl rfl; exact value_ (v := .bool true) (by rfl) rfl (by clear I t; go_simp) (k.out _ _ ⟨upk t 22 hb rfl rfl, I⟩)) ?_
              refine steps_cons (by rintro b a w' ⟨t, I⟩ hb hon _; refine ⟨_, rfl, fun K k => ?_⟩; have e148 := pon t 22 (hon 22 rfl) rfl rfl rfl; have e144 := pon t 18 (hon 18 rfl) rfl rfl rfl; exact value_ (v := .bool true) (by rfl) rfl (by clear I t; go_simp) (k.out _ _ ⟨upk t 23 hb rfl rfl, I⟩)) ?_
              refine steps_cons (by rintro b a w' ⟨t, I⟩ hb hon _; refine ⟨_, rfl, fun K k => ?_⟩; have e7 := poff t (t := 7) rfl rfl; have e149 := pon t 23 (hon 23 rfl) rfl rfl rfl; have k0_ := (By.out.below (dr I)).c0; have k1_ := (By.out.below (dr I)).c1; have k9_ := (By.out.below (dr I)).lt; exact value_ (v := .agg #[.int .i64 y0, .int .i64 y1]) (wanted_on (t := 149) (u := true) rfl rfl rfl e149) rfl (by clear I t; go_simp) (k.out _ _ ⟨upk t 24 hb rfl rfl, I⟩)) ?_
              refine steps_cons (by rintro b a w' ⟨t, I⟩ hb hon _; refine ⟨_, rfl, fun K k => ?_⟩; have e10 := poff t (t := 10) rfl rfl; have e149 := pon t 23 (hon 23 rfl) rfl rfl rfl; have k0_ := (Bq.out.below (dr I)).c0; have k1_ := (Bq.out.below (dr I)).c1; have k9_ := (Bq.out.below (dr I)).lt; exact value_ (v := .agg #[.int .i64 y0, .int .i64 y1]) (wanted_on (t := 149) (u := true) rfl rfl rfl e149) rfl (by clear I t; go_simp) (k.out _ _ ⟨upk t 25 hb rfl rfl, I⟩)) ?_
              refine steps_cons (by rintro b a w' ⟨t, I⟩ hb hon _; refine ⟨_, rfl, fun K k => ?_⟩; have e150 := pon t 24 (hon 24 rfl) rfl rfl rfl; have e151 := pon t 25 (hon 25 rfl) rfl rfl rfl; have e149 := pon t 23 (hon 23 rfl) rfl rfl rfl; exact value_ (v := .bool true) (wanted_on (t := 149) (u := true) rfl rfl rfl e149) rfl (by clear I t; go_simp) (k.out _ _ ⟨upk t 26 hb rfl rfl, I⟩)) ?_
              refine steps_cons (by rintro b a w' ⟨t, I⟩ hb hon _; refine ⟨_, rfl, fun K k => ?_⟩; have e149 := pon t 23 (hon 23 rfl) rfl rfl rfl; have e152 := pon t 26 (hon 26 rfl) rfl rfl rfl; exact value_ (v := .bool true) (by rfl) rfl (by clear I t; go_simp) (k.out _ _ ⟨upk t 27 hb rfl rfl, I⟩)) ?_
              refine steps_cons (by rintro b a w' ⟨t, I⟩ hb hon _; refine ⟨_, rfl, fun K k => ?_⟩; have e153 := pon t 27 (hon 27 rfl) rfl rfl rfl; have e149 := pon t 23 (hon 23 rfl) rfl rfl rfl; exact value_ (v := .bool true) (by rfl) rfl (by clear I t; go_simp) (k.out _ _ ⟨upk t 28 hb rfl rfl, I⟩)) ?_
              refine steps_cons (by rintro b a w' ⟨t, I⟩ hb hon _; refine ⟨_, rfl, fun K k => ?_⟩; have e11 := poff t (t := 11) rfl rfl; have e154 := pon t 28 (hon 28 rfl) rfl rfl rfl; have k0_ := (Bs.out.below (dr I)).c0; have k1_ := (Bs.out.below (dr I)).c1; have k9_ := (Bs.out.below (dr I)).lt; exact value_ (v := .agg #[.int .i64 s0, .int .i64 s1]) (wanted_on (t := 154) (u := true) rfl rfl rfl e154) rfl (by clear I t; go_simp) (k.out _ _ ⟨upk t 29 hb rfl rfl, I⟩)) ?_
              refine steps_cons (by rintro b a w' ⟨t, I⟩ hb hon _; refine ⟨_, rfl, fun K k => ?_⟩; have e9 := poff t (t := 9) rfl rfl; have e154 := pon t 28 (hon 28 rfl) rfl rfl rfl; have k0_ := (Bp.out.below (dr I)).c0; have k1_ := (Bp.out.below (dr I)).c1; have k9_ := (Bp.out.below (dr I)).lt; exact value_ (v := .agg #[.int .i64 x0, .int .i64 x1]) (wanted_on (t := 154) (u := true) rfl rfl rfl e154) rfl (by clear I t; go_simp) (k.out _ _ ⟨upk t 30 hb rfl rfl, I⟩)) ?_
              refine steps_cons (by rintro b a w' ⟨t, I⟩ hb hon _; refine ⟨_, rfl, fun K k => ?_⟩; have e10 := poff t (t := 10) rfl rfl; have e154 := pon t 28 (hon 28 rfl) rfl rfl rfl; have k0_ := (Bq.out.below (dr I)).c0; have k1_ := (Bq.out.below (dr I)).c1; have k9_ := (Bq.out.below (dr I)).lt; exact value_ (v := .agg #[.int .i64 y0, .int .i64 y1]) (wanted_on (t := 154) (u := true) rfl rfl rfl e154) rfl (by clear I t; go_simp) (k.out _ _ ⟨upk t 31 hb rfl rfl, I⟩)) ?_
              refine steps_cons (by rintro b a w' ⟨t, I⟩ hb hon _; refine ⟨_, rfl, fun K k => ?_⟩; have e156 := pon t 30 (hon 30 rfl) rfl rfl rfl; have e157 := pon t 31 (hon 31 rfl) rfl rfl rfl; have e154 := pon t 28 (hon 28 rfl) rfl rfl rfl; refine goes_ Try.func21 (by kernel_rfl) rfl #[.agg #[.int .i64 x0, .int .i64 x1], .agg #[.int .i64 y0, .int .i64 y1]] (wanted_on (t := 154) (u := true) rfl rfl rfl e154) rfl rfl (by simp [Act.eval, e156, e157]) ((PL _).out.mono ?_); rintro e_ w'' ⟨rfl, hbc⟩; exact ⟨_, rfl, k.out _ _ ⟨upk t 32 hb rfl rfl, below_then I I.size hbc⟩⟩) ?_
              refine steps_cons (by rintro b a w' ⟨t, I⟩ hb hon _; refine ⟨_, rfl, fun K k => ?_⟩; have e155 := pon t 29 (hon 29 rfl) rfl rfl rfl; have e158 := pon t 32 (hon 32 rfl) rfl rfl rfl; have e154 := pon t 28 (hon 28 rfl) rfl rfl rfl; exact value_ (v := .bool true) (wanted_on (t := 154) (u := true) rfl rfl rfl e154) rfl (by clear I t; go_simp) (k.out _ _ ⟨upk t 33 hb rfl rfl, I⟩)) ?_
              refine steps_cons (by rintro b a w' ⟨t, I⟩ hb hon _; refine ⟨_, rfl, fun K k => ?_⟩; have e154 := pon t 28 (hon 28 rfl) rfl rfl rfl; have e159 := pon t 33 (hon 33 rfl) rfl rfl rfl; exact value_ (v := .bool true) (by rfl) rfl (by clear I t; go_simp) (k.out _ _ ⟨upk t 34 hb rfl rfl, I⟩)) ?_
              refine steps_cons (by rintro b a w' ⟨t, I⟩ hb hon _; refine ⟨_, rfl, fun K k => ?_⟩; have e160 := pon t 34 (hon 34 rfl) rfl rfl rfl; have e158 := pon t 32 (hon 32 rfl) rfl rfl rfl; exact value_ (v := .bool true) (by rfl) rfl (by clear I t; go_simp) (k.out _ _ ⟨upk t 35 hb rfl rfl, I⟩)) ?_
              refine steps_cons (by rintro b a w' ⟨t, I⟩ hb hon _; refine ⟨_, rfl, fun K k => ?_⟩; have e13 := poff t (t := 13) rfl rfl; have e161 := pon t 35 (hon 35 rfl) rfl rfl rfl; have k0_ := (Bd.out.below (dr I)).c0; have k1_ := (Bd.out.below (dr I)).c1; have k9_ := (Bd.out.below (dr I)).lt; exact value_ (v := .agg #[.int .i64 d0, .int .i64 d1]) (wanted_on (t := 161) (u := true) rfl rfl rfl e161) rfl (by clear I t; go_simp) (k.out _ _ ⟨upk t 36 hb rfl rfl, I⟩)) ?_
              refine steps_cons (by rintro b a w' ⟨t, I⟩ hb hon _; refine ⟨_, rfl, fun K k => ?_⟩; have e9 := poff t (t := 9) rfl rfl; have e161 := pon t 35 (hon 35 rfl) rfl rfl rfl; have k0_ := (Bp.out.below (dr I)).c0; have k1_ := (Bp.out.below (dr I)).c1; have k9_ := (Bp.out.below (dr I)).lt; exact value_ (v := .agg #[.int .i64 x0, .int .i64 x1]) (wanted_on (t := 161) (u := true) rfl rfl rfl e161) rfl (by clear I t; go_simp) (k.out _ _ ⟨upk t 37 hb rfl rfl, I⟩)) ?_
              refine steps_cons (by rintro b a w' ⟨t, I⟩ hb hon _; refine ⟨_, rfl, fun K k => ?_⟩; have e10 := poff t (t := 10) rfl rfl; have e161 := pon t 35 (hon 35 rfl) rfl rfl rfl; have k0_ := (Bq.out.below (dr I)).c0; have k1_ := (Bq.out.below (dr I)).c1; have k9_ := (Bq.out.below (dr I)).lt; exact value_ (v := .agg #[.int .i64 y0, .int .i64 y1]) (wanted_on (t := 161) (u := true) rfl rfl rfl e161) rfl (by clear I t; go_simp) (k.out _ _ ⟨upk t 38 hb rfl rfl, I⟩)) ?_
              refine steps_cons (by rintro b a w' ⟨t, I⟩ hb hon _; refine ⟨_, rfl, fun K k => ?_⟩; have e163 := pon t 37 (hon 37 rfl) rfl rfl rfl; have e164 := pon t 38 (hon 38 rfl) rfl rfl rfl; have e161 := pon t 35 (hon 35 rfl) rfl rfl rfl; refine goes_ Try.func22 (by kernel_rfl) rfl #[.agg #[.int .i64 x0, .int .i64 x1], .agg #[.int .i64 y0, .int .i64 y1]] (wanted_on (t := 161) (u := true) rfl rfl rfl e161) rfl rfl (by simp [Act.eval, e163, e164]) ((MI _).out.mono ?_); rintro e_ w'' ⟨rfl, hbc⟩; exact ⟨_, rfl, k.out _ _ ⟨upk t 39 hb rfl rfl, below_then I I.size hbc⟩⟩) ?_
              refine steps_cons (by rintro b a w' ⟨t, I⟩ hb hon _; refine ⟨_, rfl, fun K k => ?_⟩; have e162 := pon t 36 (hon 36 rfl) rfl rfl rfl; have e165 := pon t 39 (hon 39 rfl) rfl rfl rfl; have e161 := pon t 35 (hon 35 rfl) rfl rfl rfl; exact value_ (v := .bool true) (wanted_on (t := 161) (u := true) rfl rfl rfl e161) rfl (by clear I t; go_simp) (k.out _ _ ⟨upk t 40 hb rfl rfl, I⟩)) ?_
              refine steps_cons (by rintro b a w' ⟨t, I⟩ hb hon _; refine ⟨_, rfl, fun K k => ?_⟩; have e161 := pon t 35 (hon 35 rfl) rfl rfl rfl; have e166 := pon t 40 (hon 40 rfl) rfl rfl rfl; exact value_ (v := .bool true) (by rfl) rfl (by clear I t; go_simp) (k.out _ _ ⟨upk t 41 hb rfl rfl, I⟩)) ?_
              refine steps_cons (by rintro b a w' ⟨t, I⟩ hb hon _; refine ⟨_, rfl, fun K k => ?_⟩; have e167 := pon t 41 (hon 41 rfl) rfl rfl rfl; have e165 := pon t 39 (hon 39 rfl) rfl rfl rfl; exact value_ (v := .bool true) (by rfl) rfl (by clear I t; go_simp) (k.out _ _ ⟨upk t 42 hb rfl rfl, I⟩)) ?_
              refine steps_cons (by rintro b a w' ⟨t, I⟩ hb hon _; refine ⟨_, rfl, fun K k => ?_⟩; have e15 := poff t (t := 15) rfl rfl; have e168 := pon t 42 (hon 42 rfl) rfl rfl rfl; have k0_ := (Bm.out.below (dr I)).c0; have k1_ := (Bm.out.below (dr I)).c1; have k9_ := (Bm.out.below (dr I)).lt; exact value_ (v := .agg #[.int .i64 m0, .int .i64 m1]) (wanted_on (t := 168) (u := true) rfl rfl rfl e168) rfl (by clear I t; go_simp) (k.out _ _ ⟨upk t 43 hb rfl rfl, I⟩)) ?_
              refine steps_cons (by rintro b a w' ⟨t, I⟩ hb hon _; refine ⟨_, rfl, fun K k => ?_⟩; have e9 := poff t (t := 9) rfl rfl; have e168 := pon t 42 (hon 42 rfl) rfl rfl rfl; exact value_ (v := .pointer (some ⟨p_, 0, none⟩)) (wanted_on (t := 168) (u := true) rfl rfl rfl e168) rfl (by clear I t; go_simp) (k.out _ _ ⟨upk t 44 hb rfl rfl, I⟩)) ?_
              refine steps_cons (by rintro b a w' ⟨t, I⟩ hb hon _; refine ⟨_, rfl, fun K k => ?_⟩; have e170 := pon t 44 (hon 44 rfl) rfl rfl rfl; have e168 := pon t 42 (hon 42 rfl) rfl rfl rfl; have k0_ := (Bp.out.below (dr I)).c0; have k9_ := (Bp.out.below (dr I)).lt; exact value_ (v := .int .i64 x0) (wanted_on (t := 168) (u := true) rfl rfl rfl e168) rfl (by clear I t; go_simp) (k.out _ _ ⟨upk t 45 hb rfl rfl, I⟩)) ?_
              refine steps_cons (by rintro b a w' ⟨t, I⟩ hb hon _; refine ⟨_, rfl, fun K k => ?_⟩; have e17 := poff t (t := 17) rfl rfl; have e168 := pon t 42 (hon 42 rfl) rfl rfl rfl; exact value_ (v := .int .i64 g) (wanted_on (t := 168) (u := true) rfl rfl rfl e168) rfl (by clear I t; go_simp) (k.out _ _ ⟨upk t 46 hb rfl rfl, I⟩)) ?_
              refine steps_cons (by rintro b a w' ⟨t, I⟩ hb hon _; refine ⟨_, rfl, fun K k => ?_⟩; have e171 := pon t 45 (hon 45 rfl) rfl rfl rfl; have e172 := pon t 46 (hon 46 rfl) rfl rfl rfl; have e168 := pon t 42 (hon 42 rfl) rfl rfl rfl; obtain ⟨hg, hh, t1, t2, t3, t4, e1, e2, e3, e4, e5, e6⟩ := HE.out; exact value_ (v := .int .i64 p) (wanted_on (t := 168) (u := true) rfl rfl rfl e168) rfl (by clear I t; go_simp) (k.out _ _ ⟨upk t 47 hb rfl rfl, I⟩)) ?_
              refine steps_cons (by rintro b a w' ⟨t, I⟩ hb hon _; refine ⟨_, rfl, fun K k => ?_⟩; have e10 := poff t (t := 10) rfl rfl; have e168 := pon t 42 (hon 42 rfl) rfl rfl rfl; exact value_ (v := .pointer (some ⟨q_, 0, none⟩)) (wanted_on (t := 168) (u := true) rfl rfl rfl e168) rfl (by clear I t; go_simp) (k.out _ _ ⟨upk t 48 hb rfl rfl, I⟩)) ?_
              refine steps_cons (by rintro b a w' ⟨t, I⟩ hb hon _; refine ⟨_, rfl, fun K k => ?_⟩; have e174 := pon t 48 (hon 48 rfl) rfl rfl rfl; have e168 := pon t 42 (hon 42 rfl) rfl rfl rfl; have k0_ := (Bq.out.below (dr I)).c0; have k9_ := (Bq.out.below (dr I)).lt; exact value_ (v := .int .i64 y0) (wanted_on (t := 168) (u := true) rfl rfl rfl e168) rfl (by clear I t; go_simp) (k.out _ _ ⟨upk t 49 hb rfl rfl, I⟩)) ?_
              refine steps_cons (by rintro b a w' ⟨t, I⟩ hb hon _; refine ⟨_, rfl, fun K k => ?_⟩; have e18 := poff t (t := 18) rfl rfl; have e168 := pon t 42 (hon 42 rfl) rfl rfl rfl; exact value_ (v := .int .i64 h) (wanted_on (t := 168) (u := true) rfl rfl rfl e168) rfl (by clear I t; go_simp) (k.out _ _ ⟨upk t 50 hb rfl rfl, I⟩)) ?_
              refine steps_cons (by rintro b a w' ⟨t, I⟩ hb hon _; refine ⟨_, rfl, fun K k => ?_⟩; have e175 := pon t 49 (hon 49 rfl) rfl rfl rfl; have e176 := pon t 50 (hon 50 rfl) rfl rfl rfl; have e168 := pon t 42 (hon 42 rfl) rfl rfl rfl; obtain ⟨hg, hh, t1, t2, t3, t4, e1, e2, e3, e4, e5, e6⟩ := HE.out; exact value_ (v := .int .i64 q) (wanted_on (t := 168) (u := true) rfl rfl rfl e168) rfl (by clear I t; go_simp) (k.out _ _ ⟨upk t 51 hb rfl rfl, I⟩)) ?_
              refine steps_cons (by rintro b a w' ⟨t, I⟩ hb hon _; refine ⟨_, rfl, fun K k => ?_⟩; have e173 := pon t 47 (hon 47 rfl) rfl rfl rfl; have e177 := pon t 51 (hon 51 rfl) rfl rfl rfl; have e168 := pon t 42 (hon 42 rfl) rfl rfl rfl; obtain ⟨hg, hh, t1, t2, t3, t4, e1, e2, e3, e4, e5, e6⟩ := HE.out; exact value_ (v := .int .i64 n0) (wanted_on (t := 168) (u := true) rfl rfl rfl e168) rfl (by clear I t; go_simp) (k.out _ _ ⟨upk t 52 hb rfl rfl, I⟩)) ?_
              refine steps_cons (by rintro b a w' ⟨t, I⟩ hb hon _; refine ⟨_, rfl, fun K k => ?_⟩; have e9 := poff t (t := 9) rfl rfl; have e168 := pon t 42 (hon 42 rfl) rfl rfl rfl; exact value_ (v := .pointer (some ⟨p_, 1, none⟩)) (wanted_on (t := 168) (u := true) rfl rfl rfl e168) rfl (by clear I t; go_simp) (k.out _ _ ⟨upk t 53 hb rfl rfl, I⟩)) ?_
              refine steps_cons (by rintro b a w' ⟨t, I⟩ hb hon _; refine ⟨_, rfl, fun K k => ?_⟩; have e179 := pon t 53 (hon 53 rfl) rfl rfl rfl; have e168 := pon t 42 (hon 42 rfl) rfl rfl rfl; have k1_ := (Bp.out.below (dr I)).c1; have k9_ := (Bp.out.below (dr I)).lt; exact value_ (v := .int .i64 x1) (wanted_on (t := 168) (u := true) rfl rfl rfl e168) rfl (by clear I t; go_simp) (k.out _ _ ⟨upk t 54 hb rfl rfl, I⟩)) ?_
              refine steps_cons (by rintro b a w' ⟨t, I⟩ hb hon _; refine ⟨_, rfl, fun K k => ?_⟩; have e18 := poff t (t := 18) rfl rfl; have e168 := pon t 42 (hon 42 rfl) rfl rfl rfl; exact value_ (v := .int .i64 h) (wanted_on (t := 168) (u := true) rfl rfl rfl e168) rfl (by clear I t; go_simp) (k.out _ _ ⟨upk t 55 hb rfl rfl, I⟩)) ?_
              refine steps_cons (by rintro b a w' ⟨t, I⟩ hb hon _; refine ⟨_, rfl, fun K k => ?_⟩; have e180 := pon t 54 (hon 54 rfl) rfl rfl rfl; have e181 := pon t 55 (hon 55 rfl) rfl rfl rfl; have e168 := pon t 42 (hon 42 rfl) rfl rfl rfl; obtain ⟨hg, hh, t1, t2, t3, t4, e1, e2, e3, e4, e5, e6⟩ := HE.out; exact value_ (v := .int .i64 u) (wanted_on (t := 168) (u := true) rfl rfl rfl e168) rfl (by clear I t; go_simp) (k.out _ _ ⟨upk t 56 hb rfl rfl, I⟩)) ?_
              refine steps_cons (by rintro b a w' ⟨t, I⟩ hb hon _; refine ⟨_, rfl, fun K k => ?_⟩; have e10 := poff t (t := 10) rfl rfl; have e168 := pon t 42 (hon 42 rfl) rfl rfl rfl; exact value_ (v := .pointer (some ⟨q_, 1, none⟩)) (wanted_on (t := 168) (u := true) rfl rfl rfl e168) rfl (by clear I t; go_simp) (k.out _ _ ⟨upk t 57 hb rfl rfl, I⟩)) ?_
              refine steps_cons (by rintro b a w' ⟨t, I⟩ hb hon _; refine ⟨_, rfl, fun K k => ?_⟩; have e183 := pon t 57 (hon 57 rfl) rfl rfl rfl; have e168 := pon t 42 (hon 42 rfl) rfl rfl rfl; have k1_ := (Bq.out.below (dr I)).c1; have k9_ := (Bq.out.below (dr I)).lt; exact value_ (v := .int .i64 y1) (wanted_on (t := 168) (u := true) rfl rfl rfl e168) rfl (by clear I t; go_simp) (k.out _ _ ⟨upk t 58 hb rfl rfl, I⟩)) ?_
              refine steps_cons (by rintro b a w' ⟨t, I⟩ hb hon _; refine ⟨_, rfl, fun K k => ?_⟩; have e17 := poff t (t := 17) rfl rfl; have e168 := pon t 42 (hon 42 rfl) rfl rfl rfl; exact value_ (v := .int .i64 g) (wanted_on (t := 168) (u := true) rfl rfl rfl e168) rfl (by clear I t; go_simp) (k.out _ _ ⟨upk t 59 hb rfl rfl, I⟩)) ?_
              refine steps_cons (by rintro b a w' ⟨t, I⟩ hb hon _; refine ⟨_, rfl, fun K k => ?_⟩; have e184 := pon t 58 (hon 58 rfl) rfl rfl rfl; have e185 := pon t 59 (hon 59 rfl) rfl rfl rfl; have e168 := pon t 42 (hon 42 rfl) rfl rfl rfl; obtain ⟨hg, hh, t1, t2, t3, t4, e1, e2, e3, e4, e5, e6⟩ := HE.out; exact value_ (v := .int .i64 v) (wanted_on (t := 168) (u := true) rfl rfl rfl e168) rfl (by clear I t; go_simp) (k.out _ _ ⟨upk t 60 hb rfl rfl, I⟩)) ?_
              refine steps_cons (by rintro b a w' ⟨t, I⟩ hb hon _; refine ⟨_, rfl, fun K k => ?_⟩; have e182 := pon t 56 (hon 56 rfl) rfl rfl rfl; have e186 := pon t 60 (hon 60 rfl) rfl rfl rfl; have e168 := pon t 42 (hon 42 rfl) rfl rfl rfl; obtain ⟨hg, hh, t1, t2, t3, t4, e1, e2, e3, e4, e5, e6⟩ := HE.out; exact value_ (v := .int .i64 n1) (wanted_on (t := 168) (u := true) rfl rfl rfl e168) rfl (by clear I t; go_simp) (k.out _ _ ⟨upk t 61 hb rfl rfl, I⟩)) ?_
              refine steps_cons (by rintro b a w' ⟨t, I⟩ hb hon _; refine ⟨_, rfl, fun K k => ?_⟩; have e178 := pon t 52 (hon 52 rfl) rfl rfl rfl; have e187 := pon t 61 (hon 61 rfl) rfl rfl rfl; have e168 := pon t 42 (hon 42 rfl) rfl rfl rfl; refine goes_ Try.func16 (by kernel_rfl) rfl #[.int .i64 n0, .int .i64 n1] (wanted_on (t := 168) (u := true) rfl rfl rfl e168) rfl rfl (by simp [Act.eval, e178, e187]) ((RO _).out.mono ?_); rintro e_ w'' ⟨rfl, hbc⟩; exact ⟨_, rfl, k.out _ _ ⟨upk t 62 hb rfl rfl, below_then I I.size hbc⟩⟩) ?_
              refine steps_cons (by rintro b a w' ⟨t, I⟩ hb hon _; refine ⟨_, rfl, fun K k => ?_⟩; have e169 := pon t 43 (hon 43 rfl) rfl rfl rfl; have e188 := pon t 62 (hon 62 rfl) rfl rfl rfl; have e168 := pon t 42 (hon 42 rfl) rfl rfl rfl; exact value_ (v := .bool true) (wanted_on (t := 168) (u := true) rfl rfl rfl e168) rfl (by clear I t; go_simp) (k.out _ _ ⟨upk t 63 hb rfl rfl, I⟩)) ?_
              refine steps_cons (by rintro b a w' ⟨t, I⟩ hb hon _; refine ⟨_, rfl, fun K k => ?_⟩; have e168 := pon t 42 (hon 42 rfl) rfl rfl rfl; have e189 := pon t 63 (hon 63 rfl) rfl rfl rfl; exact value_ (v := .bool true) (by rfl) rfl (by clear I t; go_simp) (k.out _ _ ⟨upk t 64 hb rfl rfl, I⟩)) ?_
              refine steps_cons (by rintro b a w' ⟨t, I⟩ hb hon _; refine ⟨_, rfl, fun K k => ?_⟩; have e190 := pon t 64 (hon 64 rfl) rfl rfl rfl; have e188 := pon t 62 (hon 62 rfl) rfl rfl rfl; exact value_ (v := .bool true) (by rfl) rfl (by clear I t; go_simp) (k.out _ _ ⟨upk t 65 hb rfl rfl, I⟩)) ?_
              refine steps_cons (by rintro b a w' ⟨t, I⟩ hb hon _; refine ⟨_, rfl, fun K k => ?_⟩; have e5 := poff t (t := 5) rfl rfl; have e191 := pon t 65 (hon 65 rfl) rfl rfl rfl; have k0_ := (Bx.out.below (dr I)).c0; have k1_ := (Bx.out.below (dr I)).c1; have k9_ := (Bx.out.below (dr I)).lt; exact value_ (v := .agg #[.int .i64 x0, .int .i64 x1]) (wanted_on (t := 191) (u := true) rfl rfl rfl e191) rfl (by clear I t; go_simp) (k.out _ _ ⟨upk t 66 hb rfl rfl, I⟩)) ?_
              refine steps_cons (by rintro b a w' ⟨t, I⟩ hb hon _; refine ⟨_, rfl, fun K k => ?_⟩; have e7 := poff t (t := 7) rfl rfl; have e191 := pon t 65 (hon 65 rfl) rfl rfl rfl; have k0_ := (By.out.below (dr I)).c0; have k1_ := (By.out.below (dr I)).c1; have k9_ := (By.out.below (dr I)).lt; exact value_ (v := .agg #[.int .i64 y0, .int .i64 y1]) (wanted_on (t := 191) (u := true) rfl rfl rfl e191) rfl (by clear I t; go_simp) (k.out _ _ ⟨upk t 67 hb rfl rfl, I⟩)) ?_
              refine steps_cons (by rintro b a w' ⟨t, I⟩ hb hon _; refine ⟨_, rfl, fun K k => ?_⟩; have e192 := pon t 66 (hon 66 rfl) rfl rfl rfl; have e193 := pon t 67 (hon 67 rfl) rfl rfl rfl; have e191 := pon t 65 (hon 65 rfl) rfl rfl rfl; refine goes_ Try.func12 (by kernel_rfl) rfl #[.agg #[.int .i64 x0, .int .i64 x1], .agg #[.int .i64 y0, .int .i64 y1]] (wanted_on (t := 191) (u := true) rfl rfl rfl e191) rfl rfl (by simp [Act.eval, e192, e193]) ((CM _).out.mono ?_); rintro e_ w'' ⟨rfl, hbc⟩; exact ⟨_, rfl, k.out _ _ ⟨upk t 68 hb rfl rfl, below_then I I.size hbc⟩⟩) ?_
              refine steps_cons (by rintro b a w' ⟨t, I⟩ hb hon _; refine ⟨_, rfl, fun K k => ?_⟩; have e19 := poff t (t := 19) rfl rfl; have e191 := pon t 65 (hon 65 rfl) rfl rfl rfl; exact value_ (v := .int .i64 c) (wanted_on (t := 191) (u := true) rfl rfl rfl e191) rfl (by clear I t; go_simp) (k.out _ _ ⟨upk t 69 hb rfl rfl, I⟩)) ?_
              refine steps_cons (by rintro b a w' ⟨t, I⟩ hb hon _; refine ⟨_, rfl, fun K k => ?_⟩; have e194 := pon t 68 (hon 68 rfl) rfl rfl rfl; have e195 := pon t 69 (hon 69 rfl) rfl rfl rfl; have e191 := pon t 65 (hon 65 rfl) rfl rfl rfl; exact value_ (v := .bool true) (wanted_on (t := 191) (u := true) rfl rfl rfl e191) rfl (by clear I t; go_simp) (k.out _ _ ⟨upk t 70 hb rfl rfl, I⟩)) ?_
              refine steps_cons (by rintro b a w' ⟨t, I⟩ hb hon _; refine ⟨_, rfl, fun K k => ?_⟩; have e191 := pon t 65 (hon 65 rfl) rfl rfl rfl; have e196 := pon t 70 (hon 70 rfl) rfl rfl rfl; exact value_ (v := .bool true) (by rfl) rfl (by clear I t; go_simp) (k.out _ _ ⟨upk t 71 hb rfl rfl, I⟩)) ?_
              refine steps_cons (by rintro b a w' ⟨t, I⟩ hb hon _; refine ⟨_, rfl, fun K k => ?_⟩; have e197 := pon t 71 (hon 71 rfl) rfl rfl rfl; have e194 := pon t 68 (hon 68 rfl) rfl rfl rfl; exact value_ (v := .bool true) (by rfl) rfl (by clear I t; go_simp) (k.out _ _ ⟨upk t 72 hb rfl rfl, I⟩)) ?_
              refine steps_cons (by rintro b a w' ⟨t, I⟩ hb hon _; refine ⟨_, rfl, fun K k => ?_⟩; have e5 := poff t (t := 5) rfl rfl; have e198 := pon t 72 (hon 72 rfl) rfl rfl rfl; have k0_ := (Bx.out.below (dr I)).c0; have k1_ := (Bx.out.below (dr I)).c1; have k9_ := (Bx.out.below (dr I)).lt; exact value_ (v := .agg #[.int .i64 x0, .int .i64 x1]) (wanted_on (t := 198) (u := true) rfl rfl rfl e198) rfl (by clear I t; go_simp) (k.out _ _ ⟨upk t 73 hb rfl rfl, I⟩)) ?_
              refine steps_cons (by rintro b a w' ⟨t, I⟩ hb hon _; refine ⟨_, rfl, fun K k => ?_⟩; have e199 := pon t 73 (hon 73 rfl) rfl rfl rfl; have e198 := pon t 72 (hon 72 rfl) rfl rfl rfl; refine goes_ Try.func13 (by kernel_rfl) rfl #[.agg #[.int .i64 x0, .int .i64 x1]] (wanted_on (t := 198) (u := true) rfl rfl rfl e198) rfl rfl (by simp [Act.eval, e199]) ((FL _).out.mono ?_); rintro e_ w'' ⟨rfl, hbc⟩; exact ⟨_, rfl, k.out _ _ ⟨upk t 74 hb rfl rfl, below_then I I.size hbc⟩⟩) ?_
              refine steps_cons (by rintro b a w' ⟨t, I⟩ hb hon _; refine ⟨_, rfl, fun K k => ?_⟩; have e9 := poff t (t := 9) rfl rfl; have e198 := pon t 72 (hon 72 rfl) rfl rfl rfl; exact value_ (v := .pointer (some ⟨p_, 0, none⟩)) (wanted_on (t := 198) (u := true) rfl rfl rfl e198) rfl (by clear I t; go_simp) (k.out _ _ ⟨upk t 75 hb rfl rfl, I⟩)) ?_
              refine steps_cons (by rintro b a w' ⟨t, I⟩ hb hon _; refine ⟨_, rfl, fun K k => ?_⟩; have e201 := pon t 75 (hon 75 rfl) rfl rfl rfl; have e198 := pon t 72 (hon 72 rfl) rfl rfl rfl; have k0_ := (Bp.out.below (dr I)).c0; have k9_ := (Bp.out.below (dr I)).lt; exact value_ (v := .int .i64 x0) (wanted_on (t := 198) (u := true) rfl rfl rfl e198) rfl (by clear I t; go_simp) (k.out _ _ ⟨upk t 76 hb rfl rfl, I⟩)) ?_
              refine steps_cons (by rintro b a w' ⟨t, I⟩ hb hon _; refine ⟨_, rfl, fun K k => ?_⟩; have e9 := poff t (t := 9) rfl rfl; have e198 := pon t 72 (hon 72 rfl) rfl rfl rfl; exact value_ (v := .pointer (some ⟨p_, 1, none⟩)) (wanted_on (t := 198) (u := true) rfl rfl rfl e198) rfl (by clear I t; go_simp) (k.out _ _ ⟨upk t 77 hb rfl rfl, I⟩)) ?_
              refine steps_cons (by rintro b a w' ⟨t, I⟩ hb hon _; refine ⟨_, rfl, fun K k => ?_⟩; have e203 := pon t 77 (hon 77 rfl) rfl rfl rfl; have e198 := pon t 72 (hon 72 rfl) rfl rfl rfl; have k1_ := (Bp.out.below (dr I)).c1; have k9_ := (Bp.out.below (dr I)).lt; exact value_ (v := .int .i64 x1) (wanted_on (t := 198) (u := true) rfl rfl rfl e198) rfl (by clear I t; go_simp) (k.out _ _ ⟨upk t 78 hb rfl rfl, I⟩)) ?_
              refine steps_cons (by rintro b a w' ⟨t, I⟩ hb hon _; refine ⟨_, rfl, fun K k => ?_⟩; have e202 := pon t 76 (hon 76 rfl) rfl rfl rfl; have e204 := pon t 78 (hon 78 rfl) rfl rfl rfl; have e198 := pon t 72 (hon 72 rfl) rfl rfl rfl; have e200 := pon t 74 (hon 74 rfl) rfl rfl rfl; refine goes_ Try.func23 (by kernel_rfl) rfl #[.int .i64 x0, .int .i64 x1] (wanted_on (t := 198) (u := true) rfl rfl rfl e198) rfl rfl (by simp [Act.eval, e202, e204]) ((RF _).out.mono ?_); rintro e_ w'' ⟨rfl, hbc⟩; exact ⟨_, rfl, k.out _ _ ⟨upk t 79 hb rfl rfl, below_then I I.size hbc⟩⟩) ?_
              refine steps_cons (by rintro b a w' ⟨t, I⟩ hb hon _; refine ⟨_, rfl, fun K k => ?_⟩; have e200 := pon t 74 (hon 74 rfl) rfl rfl rfl; have e205 := pon t 79 (hon 79 rfl) rfl rfl rfl; have e198 := pon t 72 (hon 72 rfl) rfl rfl rfl; exact value_ (v := .bool true) (wanted_on (t := 198) (u := true) rfl rfl rfl e198) rfl (by clear I t; go_simp) (k.out _ _ ⟨upk t 80 hb rfl rfl, I⟩)) ?_
              refine steps_cons (by rintro b a w' ⟨t, I⟩ hb hon _; refine ⟨_, rfl, fun K k => ?_⟩; have e198 := pon t 72 (hon 72 rfl) rfl rfl rfl; have e206 := pon t 80 (hon 80 rfl) rfl rfl rfl; exact value_ (v := .bool true) (by rfl) rfl (by clear I t; go_simp) (k.out _ _ ⟨upk t 81 hb rfl rfl, I⟩)) ?_
              refine steps_cons (by rintro b a w' ⟨t, I⟩ hb hon _; refine ⟨_, rfl, fun K k => ?_⟩; have e207 := pon t 81 (hon 81 rfl) rfl rfl rfl; have e205 := pon t 79 (hon 79 rfl) rfl rfl rfl; exact value_ (v := .bool true) (by rfl) rfl (by clear I t; go_simp) (k.out _ _ ⟨upk t 82 hb rfl rfl, I⟩)) ?_
              refine steps_cons (by rintro b a w' ⟨t, I⟩ hb hon _; refine ⟨_, rfl, fun K k => ?_⟩; have e5 := poff t (t := 5) rfl rfl; have e208 := pon t 82 (hon 82 rfl) rfl rfl rfl; have k0_ := (Bx.out.below (dr I)).c0; have k1_ := (Bx.out.below (dr I)).c1; have k9_ := (Bx.out.below (dr I)).lt; exact value_ (v := .agg #[.int .i64 x0, .int .i64 x1]) (wanted_on (t := 208) (u := true) rfl rfl rfl e208) rfl (by clear I t; go_simp) (k.out _ _ ⟨upk t 83 hb rfl rfl, I⟩)) ?_
              refine steps_cons (by rintro b a w' ⟨t, I⟩ hb hon _; refine ⟨_, rfl, fun K k => ?_⟩; have e209 := pon t 83 (hon 83 rfl) rfl rfl rfl; have e208 := pon t 82 (hon 82 rfl) rfl rfl rfl; refine goes_ Try.func14 (by kernel_rfl) rfl #[.agg #[.int .i64 x0, .int .i64 x1]] (wanted_on (t := 208) (u := true) rfl rfl rfl e208) rfl rfl (by simp [Act.eval, e209]) ((CE _).out.mono ?_); rintro e_ w'' ⟨rfl, hbc⟩; exact ⟨_, rfl, k.out _ _ ⟨upk t 84 hb rfl rfl, below_then I I.size hbc⟩⟩) ?_
              refine steps_cons (by rintro b a w' ⟨t, I⟩ hb hon _; refine ⟨_, rfl, fun K k => ?_⟩; have e9 := poff t (t := 9) rfl rfl; have e208 := pon t 82 (hon 82 rfl) rfl rfl rfl; exact value_ (v := .pointer (some ⟨p_, 0, none⟩)) (wanted_on (t := 208) (u := true) rfl rfl rfl e208) rfl (by clear I t; go_simp) (k.out _ _ ⟨upk t 85 hb rfl rfl, I⟩)) ?_
              refine steps_cons (by rintro b a w' ⟨t, I⟩ hb hon _; refine ⟨_, rfl, fun K k => ?_⟩; have e211 := pon t 85 (hon 85 rfl) rfl rfl rfl; have e208 := pon t 82 (hon 82 rfl) rfl rfl rfl; have k0_ := (Bp.out.below (dr I)).c0; have k9_ := (Bp.out.below (dr I)).lt; exact value_ (v := .int .i64 x0) (wanted_on (t := 208) (u := true) rfl rfl rfl e208) rfl (by clear I t; go_simp) (k.out _ _ ⟨upk t 86 hb rfl rfl, I⟩)) ?_
              refine steps_cons (by rintro b a w' ⟨t, I⟩ hb hon _; refine ⟨_, rfl, fun K k => ?_⟩; have e9 := poff t (t := 9) rfl rfl; have e208 := pon t 82 (hon 82 rfl) rfl rfl rfl; exact value_ (v := .pointer (some ⟨p_, 1, none⟩)) (wanted_on (t := 208) (u := true) rfl rfl rfl e208) rfl (by clear I t; go_simp) (k.out _ _ ⟨upk t 87 hb rfl rfl, I⟩)) ?_
              refine steps_cons (by rintro b a w' ⟨t, I⟩ hb hon _; refine ⟨_, rfl, fun K k => ?_⟩; have e213 := pon t 87 (hon 87 rfl) rfl rfl rfl; have e208 := pon t 82 (hon 82 rfl) rfl rfl rfl; have k1_ := (Bp.out.below (dr I)).c1; have k9_ := (Bp.out.below (dr I)).lt; exact value_ (v := .int .i64 x1) (wanted_on (t := 208) (u := true) rfl rfl rfl e208) rfl (by clear I t; go_simp) (k.out _ _ ⟨upk t 88 hb rfl rfl, I⟩)) ?_
              refine steps_cons (by rintro b a w' ⟨t, I⟩ hb hon _; refine ⟨_, rfl, fun K k => ?_⟩; have e212 := pon t 86 (hon 86 rfl) rfl rfl rfl; have e214 := pon t 88 (hon 88 rfl) rfl rfl rfl; have e208 := pon t 82 (hon 82 rfl) rfl rfl rfl; have e210 := pon t 84 (hon 84 rfl) rfl rfl rfl; refine goes_ Try.func24 (by kernel_rfl) rfl #[.int .i64 x0, .int .i64 x1] (wanted_on (t := 208) (u := true) rfl rfl rfl e208) rfl rfl (by simp [Act.eval, e212, e214]) ((RC _).out.mono ?_); rintro e_ w'' ⟨rfl, hbc⟩; exact ⟨_, rfl, k.out _ _ ⟨upk t 89 hb rfl rfl, below_then I I.size hbc⟩⟩) ?_
              refine steps_cons (by rintro b a w' ⟨t, I⟩ hb hon _; refine ⟨_, rfl, fun K k => ?_⟩; have e210 := pon t 84 (hon 84 rfl) rfl rfl rfl; have e215 := pon t 89 (hon 89 rfl) rfl rfl rfl; have e208 := pon t 82 (hon 82 rfl) rfl rfl rfl; exact value_ (v := .bool true) (wanted_on (t := 208) (u := true) rfl rfl rfl e208) rfl (by clear I t; go_simp) (k.out _ _ ⟨upk t 90 hb rfl rfl, I⟩)) ?_
              refine steps_cons (by rintro b a w' ⟨t, I⟩ hb hon _; refine ⟨_, rfl, fun K k => ?_⟩; have e208 := pon t 82 (hon 82 rfl) rfl rfl rfl; have e216 := pon t 90 (hon 90 rfl) rfl rfl rfl; exact value_ (v := .bool true) (by rfl) rfl (by clear I t; go_simp) (k.out _ _ ⟨upk t 91 hb rfl rfl, I⟩)) ?_
              refine steps_cons (by rintro b a w' ⟨t, I⟩ hb hon _; refine ⟨_, rfl, fun K k => ?_⟩; have e217 := pon t 91 (hon 91 rfl) rfl rfl rfl; have e215 := pon t 89 (hon 89 rfl) rfl rfl rfl; exact value_ (v := .bool true) (by rfl) rfl (by clear I t; go_simp) (k.out _ _ ⟨upk t 92 hb rfl rfl, I⟩)) ?_
              exact steps_nil
            · rintro b_ a w' hall ⟨ha, HI⟩
              have r0_ := hall 0 rfl; have r1_ := hall 1 rfl; have r2_ := hall 2 rfl; have r3_ := hall 3 rfl; have r4_ := hall 4 rfl; have r5_ := hall 5 rfl; have r6_ := hall 6 rfl; have r7_ := hall 7 rfl
              have r8_ := hall 8 rfl; have r9_ := hall 9 rfl; have r10_ := hall 10 rfl; have r11_ := hall 11 rfl; have r12_ := hall 12 rfl; have r13_ := hall 13 rfl; have r14_ := hall 14 rfl; have r15_ := hall 15 rfl
              have r16_ := hall 16 rfl; have r17_ := hall 17 rfl; have r18_ := hall 18 rfl; have r19_ := hall 19 rfl; have r20_ := hall 20 rfl; have r21_ := hall 21 rfl; have r22_ := hall 22 rfl; have r23_ := hall 23 rfl
              have r24_ := hall 24 rfl; have r25_ := hall 25 rfl; have r26_ := hall 26 rfl; have r27_ := hall 27 rfl; have r28_ := hall 28 rfl; have r29_ := hall 29 rfl; have r30_ := hall 30 rfl; have r31_ := hall 31 rfl
              have r32_ := hall 32 rfl; have r33_ := hall 33 rfl; have r34_ := hall 34 rfl; have r35_ := hall 35 rfl; have r36_ := hall 36 rfl; have r37_ := hall 37 rfl; have r38_ := hall 38 rfl; have r39_ := hall 39 rfl
              have r40_ := hall 40 rfl; have r41_ := hall 41 rfl; have r42_ := hall 42 rfl; have r43_ := hall 43 rfl; have r44_ := hall 44 rfl; have r45_ := hall 45 rfl; have r46_ := hall 46 rfl; have r47_ := hall 47 rfl
              have r48_ := hall 48 rfl; have r49_ := hall 49 rfl; have r50_ := hall 50 rfl; have r51_ := hall 51 rfl; have r52_ := hall 52 rfl; have r53_ := hall 53 rfl; have r54_ := hall 54 rfl; have r55_ := hall 55 rfl
              have r56_ := hall 56 rfl; have r57_ := hall 57 rfl; have r58_ := hall 58 rfl; have r59_ := hall 59 rfl; have r60_ := hall 60 rfl; have r61_ := hall 61 rfl; have r62_ := hall 62 rfl; have r63_ := hall 63 rfl
              have r64_ := hall 64 rfl; have r65_ := hall 65 rfl; have r66_ := hall 66 rfl; have r67_ := hall 67 rfl; have r68_ := hall 68 rfl; have r69_ := hall 69 rfl; have r70_ := hall 70 rfl; have r71_ := hall 71 rfl
              have r72_ := hall 72 rfl; have r73_ := hall 73 rfl; have r74_ := hall 74 rfl; have r75_ := hall 75 rfl; have r76_ := hall 76 rfl; have r77_ := hall 77 rfl; have r78_ := hall 78 rfl; have r79_ := hall 79 rfl
              have r80_ := hall 80 rfl; have r81_ := hall 81 rfl; have r82_ := hall 82 rfl; have r83_ := hall 83 rfl; have r84_ := hall 84 rfl; have r85_ := hall 85 rfl; have r86_ := hall 86 rfl; have r87_ := hall 87 rfl
              have r88_ := hall 88 rfl; have r89_ := hall 89 rfl; have r90_ := hall 90 rfl; have r91_ := hall 91 rfl; have r92_ := hall 92 rfl
              subst ha
              simp only [putSel, r0_, r1_, r2_, r3_, r4_, r5_, r6_, r7_, r8_, r9_, r10_, r11_, r12_, r13_, r14_, r15_, r16_, r17_, r18_, r19_, r20_, r21_, r22_, r23_, r24_, r25_, r26_, r27_, r28_, r29_, r30_, r31_, r32_, r33_, r34_, r35_, r36_, r37_, r38_, r39_, r40_, r41_, r42_, r43_, r44_, r45_, r46_, r47_, r48_, r49_, r50_, r51_, r52_, r53_, r54_, r55_, r56_, r57_, r58_, r59_, r60_, r61_, r62_, r63_, r64_, r65_, r66_, r67_, r68_, r69_, r70_, r71_, r72_, r73_, r74_, r75_, r76_, r77_, r78_, r79_, r80_, r81_, r82_, r83_, r84_, r85_, r86_, r87_, r88_, r89_, r90_, r91_, r92_, if_true, Act.put, List.setIfInBounds_toArray, List.set_cons_zero, List.set_cons_succ]
              have hB := (below_then (below_drew HB.out) (by have := HB.out.size; simpa using this) HI : Below w.heap.size w w')
              clear HI hall r0_ r1_ r2_ r3_ r4_ r5_ r6_ r7_ r8_ r9_ r10_ r11_ r12_ r13_ r14_ r15_ r16_ r17_ r18_ r19_ r20_ r21_ r22_ r23_ r24_ r25_ r26_ r27_ r28_ r29_ r30_ r31_ r32_ r33_ r34_ r35_ r36_ r37_ r38_ r39_ r40_ r41_ r42_ r43_ r44_ r45_ r46_ r47_ r48_ r49_ r50_ r51_ r52_ r53_ r54_ r55_ r56_ r57_ r58_ r59_ r60_ r61_ r62_ r63_ r64_ r65_ r66_ r67_ r68_ r69_ r70_ r71_ r72_ r73_ r74_ r75_ r76_ r77_ r78_ r79_ r80_ r81_ r82_ r83_ r84_ r85_ r86_ r87_ r88_ r89_ r90_ r91_ r92_
              refine ‹∀ (a : Act) (w : World), Code.wp Try.prog _ _ a w → _› _ _ ?_
              go_wp2
              go_ret
              exact ⟨rfl, hB⟩
end Go.Proofs.Ytpgecjedifcilaa.RReck0
