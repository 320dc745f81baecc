/- Package ratio: the walk of RatioOrder over contracts that are handed in. No condition beyond them. -/
import Derived.Test.YtpgecjedifcilaaRaB
import Derived.Test.YtpgecjedifcilaaWMore
set_option linter.unusedVariables false
set_option linter.unusedSimpArgs false
namespace Go.Proofs.Ytpgecjedifcilaa.ROrder
open Go.RowKit Go.Proofs.Ytpgecjedifcilaa.Kit Go.Proofs.Ytpgecjedifcilaa.RaB
attribute [local go_sem] Go.Proofs.YtpgecjedifcilaaW.PrintMore.max2_int Go.Proofs.YtpgecjedifcilaaW.PrintMore.min2_int Go.Proofs.YtpgecjedifcilaaW.PrintMore.max_two Go.Proofs.YtpgecjedifcilaaW.PrintMore.min_two

set_option maxHeartbeats 32000000 in
set_option maxRecDepth 100000 in
theorem core (a0 a1 b0 b1 c0 c1 p q u0 u1 v0 v1 x0 x1 y0 y1 z0 z1 : Int) (w : World)
    (AW : ∀ w, Side (Calls Try.prog 9 #[] w fun r w' => r = .returned (.bool true) ∧ Below w.heap.size w w'))
    (C1 : ∀ w, Side (Calls Try.prog 10 #[.int .i64 a0, .int .i64 a1] w fun r w' => r = .returned (.tuple #[.agg #[.int .i64 x0, .int .i64 x1], .int .i64 0]) ∧ Below w.heap.size w w'))
    (C2 : ∀ w, Side (Calls Try.prog 10 #[.int .i64 b0, .int .i64 b1] w fun r w' => r = .returned (.tuple #[.agg #[.int .i64 y0, .int .i64 y1], .int .i64 0]) ∧ Below w.heap.size w w'))
    (C3 : ∀ w, Side (Calls Try.prog 10 #[.int .i64 c0, .int .i64 c1] w fun r w' => r = .returned (.tuple #[.agg #[.int .i64 z0, .int .i64 z1], .int .i64 0]) ∧ Below w.heap.size w w'))
    (C4 : ∀ w, Side (Calls Try.prog 11 #[.agg #[.int .i64 x0, .int .i64 x1], .agg #[.int .i64 z0, .int .i64 z1]] w fun r w' => r = .returned (.tuple #[.agg #[.int .i64 u0, .int .i64 u1], .int .i64 0]) ∧ Below w.heap.size w w'))
    (C5 : ∀ w, Side (Calls Try.prog 11 #[.agg #[.int .i64 y0, .int .i64 y1], .agg #[.int .i64 z0, .int .i64 z1]] w fun r w' => r = .returned (.tuple #[.agg #[.int .i64 v0, .int .i64 v1], .int .i64 0]) ∧ Below w.heap.size w w'))
    (C6 : ∀ w, Side (Calls Try.prog 12 #[.agg #[.int .i64 x0, .int .i64 x1], .agg #[.int .i64 y0, .int .i64 y1]] w fun r w' => r = .returned (.int .i64 p) ∧ Below w.heap.size w w'))
    (C7 : ∀ w, Side (Calls Try.prog 12 #[.agg #[.int .i64 u0, .int .i64 u1], .agg #[.int .i64 v0, .int .i64 v1]] w fun r w' => r = .returned (.int .i64 p) ∧ Below w.heap.size w w'))
    (C8 : ∀ w, Side (Calls Try.prog 12 #[.agg #[.int .i64 u0, .int .i64 u1], .agg #[.int .i64 x0, .int .i64 x1]] w fun r w' => r = .returned (.int .i64 q) ∧ Below w.heap.size w w'))
    (C9 : ∀ w, Side (Calls Try.prog 12 #[.agg #[.int .i64 z0, .int .i64 z1], .agg #[.int .i64 0, .int .i64 1]] w fun r w' => r = .returned (.int .i64 q) ∧ Below w.heap.size w w'))
    (na : (a1 == 0) = false)
    (nb : (b1 == 0) = false)
    (nc : (c1 == 0) = false)
    (wa : (-32768 ≤ a0 ∧ a0 ≤ 32767) ∧ -32768 ≤ a1 ∧ a1 ≤ 32767)
    (wb : (-32768 ≤ b0 ∧ b0 ≤ 32767) ∧ -32768 ≤ b1 ∧ b1 ≤ 32767)
    (wc : (-32768 ≤ c0 ∧ c0 ≤ 32767) ∧ -32768 ≤ c1 ∧ c1 ≤ 32767)
    : Calls Try.prog 3 #[.agg #[.int .i16 a0, .int .i16 a1], .agg #[.int .i16 b0, .int .i16 b1], .agg #[.int .i16 c0, .int .i16 c1]] w fun r w' => r = .returned (.bool true) ∧ Below w.heap.size w w' := by
  go_enter Try.func3, Try.ntmps3
  go_wp2_with fail
  refine (AW _).out.mono ?_
  rintro e w1 ⟨rfl, hb⟩
  have HB : Side (Below w.heap.size w w1) := ⟨below_then (by (repeat (with_reducible first | exact Below.refl _ _ | apply below_drewN | apply below_drew | apply below_alloc))) (by simp <;> omega) hb⟩
  have Ba : Side (Box2 w1 (w.heap.size) .i16 a0 a1) := ⟨Box2.below (w := (((w.alloc (.cells #[.int .i16 a0, .int .i16 a1] 23)).alloc (.cells #[.int .i16 b0, .int .i16 b1] 23)).alloc (.cells #[.int .i16 c0, .int .i16 c1] 23))) ⟨by go_simp, by go_simp, by simp <;> omega⟩ hb⟩
  have Bb : Side (Box2 w1 (w.heap.size + 1) .i16 b0 b1) := ⟨Box2.below (w := (((w.alloc (.cells #[.int .i16 a0, .int .i16 a1] 23)).alloc (.cells #[.int .i16 b0, .int .i16 b1] 23)).alloc (.cells #[.int .i16 c0, .int .i16 c1] 23))) ⟨by go_simp, by go_simp, by simp <;> omega⟩ hb⟩
  have Bc : Side (Box2 w1 (w.heap.size + 1 + 1) .i16 c0 c1) := ⟨Box2.below (w := (((w.alloc (.cells #[.int .i16 a0, .int .i16 a1] 23)).alloc (.cells #[.int .i16 b0, .int .i16 b1] 23)).alloc (.cells #[.int .i16 c0, .int .i16 c1] 23))) ⟨by go_simp, by go_simp, by simp <;> omega⟩ hb⟩
  clear hb
  obtain ⟨gc, hgc⟩ : ∃ g, g = w.heap.size + 1 + 1 := ⟨_, rfl⟩
  rw [← hgc] at Bc ⊢
  clear hgc
  obtain ⟨gb, hgb⟩ : ∃ g, g = w.heap.size + 1 := ⟨_, rfl⟩
  rw [← hgb] at Bb ⊢
  clear hgb
  obtain ⟨ga, hga⟩ : ∃ g, g = w.heap.size := ⟨_, rfl⟩
  rw [← hga] at Ba ⊢
  clear hga
  have la0 := Ba.out.c0
  have la1 := Ba.out.c1
  have la2 := Ba.out.lt
  have lb0 := Bb.out.c0
  have lb1 := Bb.out.c1
  have lb2 := Bb.out.lt
  have lc0 := Bc.out.c0
  have lc1 := Bc.out.c1
  have lc2 := Bc.out.lt
  go_wp2_with fail
  with_reducible refine (C1 _).out.mono ?_
  rintro e w2 ⟨rfl, hb⟩
  have HB' := Side.mk (below_then HB.out HB.out.size hb)
  clear HB
  have HB := HB'
  clear HB'
  have B' := Side.mk (Ba.out.below hb)
  clear Ba
  have Ba := B'
  clear B'
  have B' := Side.mk (Bb.out.below hb)
  clear Bb
  have Bb := B'
  clear B'
  have B' := Side.mk (Bc.out.below hb)
  clear Bc
  have Bc := B'
  clear B'
  clear la0 la1 la2 lb0 lb1 lb2 lc0 lc1 lc2
  clear hb
  go_upto_region 6 with (fail)
  have B' := Side.mk (Ba.out.alloc (.cells #[.int .i64 x0, .int .i64 x1] 26))
  clear Ba
  have Ba := B'
  clear B'
  have B' := Side.mk (Bb.out.alloc (.cells #[.int .i64 x0, .int .i64 x1] 26))
  clear Bb
  have Bb := B'
  clear B'
  have B' := Side.mk (Bc.out.alloc (.cells #[.int .i64 x0, .int .i64 x1] 26))
  clear Bc
  have Bc := B'
  clear B'
  have HB' := Side.mk (below_alloc2 HB.out (.cells #[.int .i64 x0, .int .i64 x1] 26))
  clear HB
  have HB := HB'
  clear HB'
  have Bx : Side (Box2 (w2.alloc (.cells #[.int .i64 x0, .int .i64 x1] 26)) w2.heap.size .i64 x0 x1) := ⟨Box2.new _ _ _ _ _⟩
  obtain ⟨gx, hgx⟩ : ∃ g, g = w2.heap.size := ⟨_, rfl⟩
  rw [← hgx] at Bx ⊢
  clear hgx
  generalize (w2.alloc (.cells #[.int .i64 x0, .int .i64 x1] 26)) = w3 at *
  have lb0 := Bb.out.c0
  have lb1 := Bb.out.c1
  have lb2 := Bb.out.lt
  go_wp2_with fail
  with_reducible refine (C2 _).out.mono ?_
  rintro e w4 ⟨rfl, hb⟩
  have HB' := Side.mk (below_then HB.out HB.out.size hb)
  clear HB
  have HB := HB'
  clear HB'
  have B' := Side.mk (Ba.out.below hb)
  clear Ba
  have Ba := B'
  clear B'
  have B' := Side.mk (Bb.out.below hb)
  clear Bb
  have Bb := B'
  clear B'
  have B' := Side.mk (Bc.out.below hb)
  clear Bc
  have Bc := B'
  clear B'
  have B' := Side.mk (Bx.out.below hb)
  clear Bx
  have Bx := B'
  clear B'
  clear lb0 lb1 lb2
  clear hb
  go_upto_region 7 with (fail)
  have B' := Side.mk (Ba.out.alloc (.cells #[.int .i64 y0, .int .i64 y1] 26))
  clear Ba
  have Ba := B'
  clear B'
  have B' := Side.mk (Bb.out.alloc (.cells #[.int .i64 y0, .int .i64 y1] 26))
  clear Bb
  have Bb := B'
  clear B'
  have B' := Side.mk (Bc.out.alloc (.cells #[.int .i64 y0, .int .i64 y1] 26))
  clear Bc
  have Bc := B'
  clear B'
  have B' := Side.mk (Bx.out.alloc (.cells #[.int .i64 y0, .int .i64 y1] 26))
  clear Bx
  have Bx := B'
  clear B'
  have HB' := Side.mk (below_alloc2 HB.out (.cells #[.int .i64 y0, .int .i64 y1] 26))
  clear HB
  have HB := HB'
  clear HB'
  have By : Side (Box2 (w4.alloc (.cells #[.int .i64 y0, .int .i64 y1] 26)) w4.heap.size .i64 y0 y1) := ⟨Box2.new _ _ _ _ _⟩
  obtain ⟨gy, hgy⟩ : ∃ g, g = w4.heap.size := ⟨_, rfl⟩
  rw [← hgy] at By ⊢
  clear hgy
  generalize (w4.alloc (.cells #[.int .i64 y0, .int .i64 y1] 26)) = w5 at *
  have lc0 := Bc.out.c0
  have lc1 := Bc.out.c1
  have lc2 := Bc.out.lt
  go_wp2_with fail
  with_reducible refine (C3 _).out.mono ?_
  rintro e w6 ⟨rfl, hb⟩
  have HB' := Side.mk (below_then HB.out HB.out.size hb)
  clear HB
  have HB := HB'
  clear HB'
  have B' := Side.mk (Ba.out.below hb)
  clear Ba
  have Ba := B'
  clear B'
  have B' := Side.mk (Bb.out.below hb)
  clear Bb
  have Bb := B'
  clear B'
  have B' := Side.mk (Bc.out.below hb)
  clear Bc
  have Bc := B'
  clear B'
  have B' := Side.mk (Bx.out.below hb)
  clear Bx
  have Bx := B'
  clear B'
  have B' := Side.mk (By.out.below hb)
  clear By
  have By := B'
  clear B'
  clear lc0 lc1 lc2
  clear hb
  go_upto_region 8 with (fail)
  have B' := Side.mk (Ba.out.alloc (.cells #[.int .i64 z0, .int .i64 z1] 26))
  clear Ba
  have Ba := B'
  clear B'
  have B' := Side.mk (Bb.out.alloc (.cells #[.int .i64 z0, .int .i64 z1] 26))
  clear Bb
  have Bb := B'
  clear B'
  have B' := Side.mk (Bc.out.alloc (.cells #[.int .i64 z0, .int .i64 z1] 26))
  clear Bc
  have Bc := B'
  clear B'
  have B' := Side.mk (Bx.out.alloc (.cells #[.int .i64 z0, .int .i64 z1] 26))
  clear Bx
  have Bx := B'
  clear B'
  have B' := Side.mk (By.out.alloc (.cells #[.int .i64 z0, .int .i64 z1] 26))
  clear By
  have By := B'
  clear B'
  have HB' := Side.mk (below_alloc2 HB.out (.cells #[.int .i64 z0, .int .i64 z1] 26))
  clear HB
  have HB := HB'
  clear HB'
  have Bz : Side (Box2 (w6.alloc (.cells #[.int .i64 z0, .int .i64 z1] 26)) w6.heap.size .i64 z0 z1) := ⟨Box2.new _ _ _ _ _⟩
  obtain ⟨gz, hgz⟩ : ∃ g, g = w6.heap.size := ⟨_, rfl⟩
  rw [← hgz] at Bz ⊢
  clear hgz
  generalize (w6.alloc (.cells #[.int .i64 z0, .int .i64 z1] 26)) = w7 at *
  have lx0 := Bx.out.c0
  have lx1 := Bx.out.c1
  have lx2 := Bx.out.lt
  have lz0 := Bz.out.c0
  have lz1 := Bz.out.c1
  have lz2 := Bz.out.lt
  go_wp2_with fail
  with_reducible refine (C4 _).out.mono ?_
  rintro e w8 ⟨rfl, hb⟩
  have HB' := Side.mk (below_then HB.out HB.out.size hb)
  clear HB
  have HB := HB'
  clear HB'
  have B' := Side.mk (Ba.out.below hb)
  clear Ba
  have Ba := B'
  clear B'
  have B' := Side.mk (Bb.out.below hb)
  clear Bb
  have Bb := B'
  clear B'
  have B' := Side.mk (Bc.out.below hb)
  clear Bc
  have Bc := B'
  clear B'
  have B' := Side.mk (Bx.out.below hb)
  clear Bx
  have Bx := B'
  clear B'
  have B' := Side.mk (By.out.below hb)
  clear By
  have By := B'
  clear B'
  have B' := Side.mk (Bz.out.below hb)
  clear Bz
  have Bz := B'
  clear B'
  clear lx0 lx1 lx2 lz0 lz1 lz2
  clear hb
  go_upto_region 9 with (fail)
  have B' := Side.mk (Ba.out.alloc (.cells #[.int .i64 u0, .int .i64 u1] 26))
  clear Ba
  have Ba := B'
  clear B'
  have B' := Side.mk (Bb.out.alloc (.cells #[.int .i64 u0, .int .i64 u1] 26))
  clear Bb
  have Bb := B'
  clear B'
  have B' := Side.mk (Bc.out.alloc (.cells #[.int .i64 u0, .int .i64 u1] 26))
  clear Bc
  have Bc := B'
  clear B'
  have B' := Side.mk (Bx.out.alloc (.cells #[.int .i64 u0, .int .i64 u1] 26))
  clear Bx
  have Bx := B'
  clear B'
  have B' := Side.mk (By.out.alloc (.cells #[.int .i64 u0, .int .i64 u1] 26))
  clear By
  have By := B'
  clear B'
  have B' := Side.mk (Bz.out.alloc (.cells #[.int .i64 u0, .int .i64 u1] 26))
  clear Bz
  have Bz := B'
  clear B'
  have HB' := Side.mk (below_alloc2 HB.out (.cells #[.int .i64 u0, .int .i64 u1] 26))
  clear HB
  have HB := HB'
  clear HB'
  have Bu : Side (Box2 (w8.alloc (.cells #[.int .i64 u0, .int .i64 u1] 26)) w8.heap.size .i64 u0 u1) := ⟨Box2.new _ _ _ _ _⟩
  obtain ⟨gu, hgu⟩ : ∃ g, g = w8.heap.size := ⟨_, rfl⟩
  rw [← hgu] at Bu ⊢
  clear hgu
  generalize (w8.alloc (.cells #[.int .i64 u0, .int .i64 u1] 26)) = w9 at *
  have ly0 := By.out.c0
  have ly1 := By.out.c1
  have ly2 := By.out.lt
  have lz0 := Bz.out.c0
  have lz1 := Bz.out.c1
  have lz2 := Bz.out.lt
  go_wp2_with fail
  with_reducible refine (C5 _).out.mono ?_
  rintro e w10 ⟨rfl, hb⟩
  have HB' := Side.mk (below_then HB.out HB.out.size hb)
  clear HB
  have HB := HB'
  clear HB'
  have B' := Side.mk (Ba.out.below hb)
  clear Ba
  have Ba := B'
  clear B'
  have B' := Side.mk (Bb.out.below hb)
  clear Bb
  have Bb := B'
  clear B'
  have B' := Side.mk (Bc.out.below hb)
  clear Bc
  have Bc := B'
  clear B'
  have B' := Side.mk (Bx.out.below hb)
  clear Bx
  have Bx := B'
  clear B'
  have B' := Side.mk (By.out.below hb)
  clear By
  have By := B'
  clear B'
  have B' := Side.mk (Bz.out.below hb)
  clear Bz
  have Bz := B'
  clear B'
  have B' := Side.mk (Bu.out.below hb)
  clear Bu
  have Bu := B'
  clear B'
  clear ly0 ly1 ly2 lz0 lz1 lz2
  clear hb
  go_upto_region 10 with (fail)
  have B' := Side.mk (Ba.out.alloc (.cells #[.int .i64 v0, .int .i64 v1] 26))
  clear Ba
  have Ba := B'
  clear B'
  have B' := Side.mk (Bb.out.alloc (.cells #[.int .i64 v0, .int .i64 v1] 26))
  clear Bb
  have Bb := B'
  clear B'
  have B' := Side.mk (Bc.out.alloc (.cells #[.int .i64 v0, .int .i64 v1] 26))
  clear Bc
  have Bc := B'
  clear B'
  have B' := Side.mk (Bx.out.alloc (.cells #[.int .i64 v0, .int .i64 v1] 26))
  clear Bx
  have Bx := B'
  clear B'
  have B' := Side.mk (By.out.alloc (.cells #[.int .i64 v0, .int .i64 v1] 26))
  clear By
  have By := B'
  clear B'
  have B' := Side.mk (Bz.out.alloc (.cells #[.int .i64 v0, .int .i64 v1] 26))
  clear Bz
  have Bz := B'
  clear B'
  have B' := Side.mk (Bu.out.alloc (.cells #[.int .i64 v0, .int .i64 v1] 26))
  clear Bu
  have Bu := B'
  clear B'
  have HB' := Side.mk (below_alloc2 HB.out (.cells #[.int .i64 v0, .int .i64 v1] 26))
  clear HB
  have HB := HB'
  clear HB'
  have Bv : Side (Box2 (w10.alloc (.cells #[.int .i64 v0, .int .i64 v1] 26)) w10.heap.size .i64 v0 v1) := ⟨Box2.new _ _ _ _ _⟩
  obtain ⟨gv, hgv⟩ : ∃ g, g = w10.heap.size := ⟨_, rfl⟩
  rw [← hgv] at Bv ⊢
  clear hgv
  generalize (w10.alloc (.cells #[.int .i64 v0, .int .i64 v1] 26)) = w11 at *
  go_upto_region 11 with (fail)
  have B' := Side.mk (Ba.out.alloc (.cells #[.int .i64 0, .int .i64 1] 26))
  clear Ba
  have Ba := B'
  clear B'
  have B' := Side.mk (Bb.out.alloc (.cells #[.int .i64 0, .int .i64 1] 26))
  clear Bb
  have Bb := B'
  clear B'
  have B' := Side.mk (Bc.out.alloc (.cells #[.int .i64 0, .int .i64 1] 26))
  clear Bc
  have Bc := B'
  clear B'
  have B' := Side.mk (Bx.out.alloc (.cells #[.int .i64 0, .int .i64 1] 26))
  clear Bx
  have Bx := B'
  clear B'
  have B' := Side.mk (By.out.alloc (.cells #[.int .i64 0, .int .i64 1] 26))
  clear By
  have By := B'
  clear B'
  have B' := Side.mk (Bz.out.alloc (.cells #[.int .i64 0, .int .i64 1] 26))
  clear Bz
  have Bz := B'
  clear B'
  have B' := Side.mk (Bu.out.alloc (.cells #[.int .i64 0, .int .i64 1] 26))
  clear Bu
  have Bu := B'
  clear B'
  have B' := Side.mk (Bv.out.alloc (.cells #[.int .i64 0, .int .i64 1] 26))
  clear Bv
  have Bv := B'
  clear B'
  have HB' := Side.mk (below_alloc2 HB.out (.cells #[.int .i64 0, .int .i64 1] 26))
  clear HB
  have HB := HB'
  clear HB'
  have Bo : Side (Box2 (w11.alloc (.cells #[.int .i64 0, .int .i64 1] 26)) w11.heap.size .i64 0 1) := ⟨Box2.new _ _ _ _ _⟩
  obtain ⟨go, hgo⟩ : ∃ g, g = w11.heap.size := ⟨_, rfl⟩
  rw [← hgo] at Bo ⊢
  clear hgo
  generalize (w11.alloc (.cells #[.int .i64 0, .int .i64 1] 26)) = w12 at *
  have lx0 := Bx.out.c0
  have lx1 := Bx.out.c1
  have lx2 := Bx.out.lt
  have ly0 := By.out.c0
  have ly1 := By.out.c1
  have ly2 := By.out.lt
  have lz0 := Bz.out.c0
  have lz1 := Bz.out.c1
  have lz2 := Bz.out.lt
  have lu0 := Bu.out.c0
  have lu1 := Bu.out.c1
  have lu2 := Bu.out.lt
  have lv0 := Bv.out.c0
  have lv1 := Bv.out.c1
  have lv2 := Bv.out.lt
  have lo0 := Bo.out.c0
  have lo1 := Bo.out.c1
  have lo2 := Bo.out.lt
  have KS : ∀ W wc : World, Below W.heap.size W wc → (W.cell? ⟨gx, 0, none⟩ = some (.int .i64 x0) ∧ W.cell? ⟨gx, 1, none⟩ = some (.int .i64 x1) ∧ W.cell? ⟨gy, 0, none⟩ = some (.int .i64 y0) ∧ W.cell? ⟨gy, 1, none⟩ = some (.int .i64 y1) ∧ W.cell? ⟨gz, 0, none⟩ = some (.int .i64 z0) ∧ W.cell? ⟨gz, 1, none⟩ = some (.int .i64 z1) ∧ W.cell? ⟨gu, 0, none⟩ = some (.int .i64 u0) ∧ W.cell? ⟨gu, 1, none⟩ = some (.int .i64 u1) ∧ W.cell? ⟨gv, 0, none⟩ = some (.int .i64 v0) ∧ W.cell? ⟨gv, 1, none⟩ = some (.int .i64 v1) ∧ W.cell? ⟨go, 0, none⟩ = some (.int .i64 0) ∧ W.cell? ⟨go, 1, none⟩ = some (.int .i64 1) ∧ Below w.heap.size w W ∧ gx < W.heap.size ∧ gy < W.heap.size ∧ gz < W.heap.size ∧ gu < W.heap.size ∧ gv < W.heap.size ∧ go < W.heap.size) → (wc.cell? ⟨gx, 0, none⟩ = some (.int .i64 x0) ∧ wc.cell? ⟨gx, 1, none⟩ = some (.int .i64 x1) ∧ wc.cell? ⟨gy, 0, none⟩ = some (.int .i64 y0) ∧ wc.cell? ⟨gy, 1, none⟩ = some (.int .i64 y1) ∧ wc.cell? ⟨gz, 0, none⟩ = some (.int .i64 z0) ∧ wc.cell? ⟨gz, 1, none⟩ = some (.int .i64 z1) ∧ wc.cell? ⟨gu, 0, none⟩ = some (.int .i64 u0) ∧ wc.cell? ⟨gu, 1, none⟩ = some (.int .i64 u1) ∧ wc.cell? ⟨gv, 0, none⟩ = some (.int .i64 v0) ∧ wc.cell? ⟨gv, 1, none⟩ = some (.int .i64 v1) ∧ wc.cell? ⟨go, 0, none⟩ = some (.int .i64 0) ∧ wc.cell? ⟨go, 1, none⟩ = some (.int .i64 1) ∧ Below w.heap.size w wc ∧ gx < wc.heap.size ∧ gy < wc.heap.size ∧ gz < wc.heap.size ∧ gu < wc.heap.size ∧ gv < wc.heap.size ∧ go < wc.heap.size) := by
    intro W wc hbc hS
    obtain ⟨s0, s1, s2, s3, s4, s5, s6, s7, s8, s9, s10, s11, s12, s13, s14, s15, s16, s17, s18⟩ := hS
    have hcc := (bcell hbc).1
    have hzz := hbc.size
    exact ⟨(hcc _ _ s13).trans s0, (hcc _ _ s13).trans s1, (hcc _ _ s14).trans s2, (hcc _ _ s14).trans s3, (hcc _ _ s15).trans s4, (hcc _ _ s15).trans s5, (hcc _ _ s16).trans s6, (hcc _ _ s16).trans s7, (hcc _ _ s17).trans s8, (hcc _ _ s17).trans s9, (hcc _ _ s18).trans s10, (hcc _ _ s18).trans s11, below_then s12 s12.size hbc, Nat.lt_of_lt_of_le s13 hzz, Nat.lt_of_lt_of_le s14 hzz, Nat.lt_of_lt_of_le s15 hzz, Nat.lt_of_lt_of_le s16 hzz, Nat.lt_of_lt_of_le s17 hzz, Nat.lt_of_lt_of_le s18 hzz⟩
  have KS := Side.mk KS
  have KB : Side (∀ W : World, (W.cell? ⟨gx, 0, none⟩ = some (.int .i64 x0) ∧ W.cell? ⟨gx, 1, none⟩ = some (.int .i64 x1) ∧ W.cell? ⟨gy, 0, none⟩ = some (.int .i64 y0) ∧ W.cell? ⟨gy, 1, none⟩ = some (.int .i64 y1) ∧ W.cell? ⟨gz, 0, none⟩ = some (.int .i64 z0) ∧ W.cell? ⟨gz, 1, none⟩ = some (.int .i64 z1) ∧ W.cell? ⟨gu, 0, none⟩ = some (.int .i64 u0) ∧ W.cell? ⟨gu, 1, none⟩ = some (.int .i64 u1) ∧ W.cell? ⟨gv, 0, none⟩ = some (.int .i64 v0) ∧ W.cell? ⟨gv, 1, none⟩ = some (.int .i64 v1) ∧ W.cell? ⟨go, 0, none⟩ = some (.int .i64 0) ∧ W.cell? ⟨go, 1, none⟩ = some (.int .i64 1) ∧ Below w.heap.size w W ∧ gx < W.heap.size ∧ gy < W.heap.size ∧ gz < W.heap.size ∧ gu < W.heap.size ∧ gv < W.heap.size ∧ go < W.heap.size) → Below w.heap.size w W) := ⟨fun W hS => by
    obtain ⟨s0, s1, s2, s3, s4, s5, s6, s7, s8, s9, s10, s11, s12, s13, s14, s15, s16, s17, s18⟩ := hS
    exact s12⟩
  go_wp2_with fail
  go_region_held3 (fun w' => w'.cell? ⟨gx, 0, none⟩ = some (.int .i64 x0) ∧ w'.cell? ⟨gx, 1, none⟩ = some (.int .i64 x1) ∧ w'.cell? ⟨gy, 0, none⟩ = some (.int .i64 y0) ∧ w'.cell? ⟨gy, 1, none⟩ = some (.int .i64 y1) ∧ w'.cell? ⟨gz, 0, none⟩ = some (.int .i64 z0) ∧ w'.cell? ⟨gz, 1, none⟩ = some (.int .i64 z1) ∧ w'.cell? ⟨gu, 0, none⟩ = some (.int .i64 u0) ∧ w'.cell? ⟨gu, 1, none⟩ = some (.int .i64 u1) ∧ w'.cell? ⟨gv, 0, none⟩ = some (.int .i64 v0) ∧ w'.cell? ⟨gv, 1, none⟩ = some (.int .i64 v1) ∧ w'.cell? ⟨go, 0, none⟩ = some (.int .i64 0) ∧ w'.cell? ⟨go, 1, none⟩ = some (.int .i64 1) ∧ Below w.heap.size w w' ∧ gx < w'.heap.size ∧ gy < w'.heap.size ∧ gz < w'.heap.size ∧ gu < w'.heap.size ∧ gv < w'.heap.size ∧ go < w'.heap.size)
    (first
      | exact KS.out _ _ hbc (by assumption)
      | (refine ⟨?_, ?_, ?_, ?_, ?_, ?_, ?_, ?_, ?_, ?_, ?_, ?_, ?_, ?_, ?_, ?_, ?_, ?_, ?_⟩ <;> first | assumption | (go_simp; done) | (go_simp; assumption) | (simp; done) | (simp; omega) | (repeat (with_reducible first | exact HB.out | apply below_drewN | apply below_drew | apply below_alloc))))
    (first
      | (go_at_call 12; (with_reducible refine (C6 _).out.mono ?_); rintro e wc ⟨rfl, hbc⟩)
      | (go_at_call 12; (with_reducible refine (C7 _).out.mono ?_); rintro e wc ⟨rfl, hbc⟩)
      | (go_at_call 12; (with_reducible refine (C8 _).out.mono ?_); rintro e wc ⟨rfl, hbc⟩)
      | (go_at_call 12; (with_reducible refine (C9 _).out.mono ?_); rintro e wc ⟨rfl, hbc⟩))
  all_goals
    have hB := KB.out _ (by assumption)
    go_wp2
    go_ret
    exact ⟨rfl, hB⟩
set_option maxHeartbeats 8000000 in
set_option maxRecDepth 100000 in
theorem none_a (a0 a1 b0 b1 c0 c1 : Int) (w : World) (AW : ∀ w, Side (Calls Try.prog 9 #[] w fun r w' => r = .returned (.bool true) ∧ Below w.heap.size w w')) (na : (a1 == 0) = true)
    : Calls Try.prog 3 #[.agg #[.int .i16 a0, .int .i16 a1], .agg #[.int .i16 b0, .int .i16 b1], .agg #[.int .i16 c0, .int .i16 c1]] w fun r w' => r = .returned (.bool true) ∧ Below w.heap.size w w' := by
  go_enter Try.func3, Try.ntmps3
  go_wp2_with fail
  refine (AW _).out.mono ?_
  rintro e w1 ⟨rfl, hb⟩
  have HB : Side (Below w.heap.size w w1) := ⟨below_then (by (repeat (with_reducible first | exact Below.refl _ _ | apply below_drewN | apply below_drew | apply below_alloc))) (by simp <;> omega) hb⟩
  have Ba : Side (Box2 w1 (w.heap.size) .i16 a0 a1) := ⟨Box2.below (w := (((w.alloc (.cells #[.int .i16 a0, .int .i16 a1] 23)).alloc (.cells #[.int .i16 b0, .int .i16 b1] 23)).alloc (.cells #[.int .i16 c0, .int .i16 c1] 23))) ⟨by go_simp, by go_simp, by simp <;> omega⟩ hb⟩
  have Bb : Side (Box2 w1 (w.heap.size + 1) .i16 b0 b1) := ⟨Box2.below (w := (((w.alloc (.cells #[.int .i16 a0, .int .i16 a1] 23)).alloc (.cells #[.int .i16 b0, .int .i16 b1] 23)).alloc (.cells #[.int .i16 c0, .int .i16 c1] 23))) ⟨by go_simp, by go_simp, by simp <;> omega⟩ hb⟩
  have Bc : Side (Box2 w1 (w.heap.size + 1 + 1) .i16 c0 c1) := ⟨Box2.below (w := (((w.alloc (.cells #[.int .i16 a0, .int .i16 a1] 23)).alloc (.cells #[.int .i16 b0, .int .i16 b1] 23)).alloc (.cells #[.int .i16 c0, .int .i16 c1] 23))) ⟨by go_simp, by go_simp, by simp <;> omega⟩ hb⟩
  clear hb
  have la0 := Ba.out.c0
  have la1 := Ba.out.c1
  have la2 := Ba.out.lt
  have lb0 := Bb.out.c0
  have lb1 := Bb.out.c1
  have lb2 := Bb.out.lt
  have lc0 := Bc.out.c0
  have lc1 := Bc.out.c1
  have lc2 := Bc.out.lt
  go_wp2
  go_ret
  exact ⟨rfl, HB.out⟩
set_option maxHeartbeats 8000000 in
set_option maxRecDepth 100000 in
theorem none_b (a0 a1 b0 b1 c0 c1 : Int) (w : World) (AW : ∀ w, Side (Calls Try.prog 9 #[] w fun r w' => r = .returned (.bool true) ∧ Below w.heap.size w w')) (na : (a1 == 0) = false) (nb : (b1 == 0) = true)
    : Calls Try.prog 3 #[.agg #[.int .i16 a0, .int .i16 a1], .agg #[.int .i16 b0, .int .i16 b1], .agg #[.int .i16 c0, .int .i16 c1]] w fun r w' => r = .returned (.bool true) ∧ Below w.heap.size w w' := by
  go_enter Try.func3, Try.ntmps3
  go_wp2_with fail
  refine (AW _).out.mono ?_
  rintro e w1 ⟨rfl, hb⟩
  have HB : Side (Below w.heap.size w w1) := ⟨below_then (by (repeat (with_reducible first | exact Below.refl _ _ | apply below_drewN | apply below_drew | apply below_alloc))) (by simp <;> omega) hb⟩
  have Ba : Side (Box2 w1 (w.heap.size) .i16 a0 a1) := ⟨Box2.below (w := (((w.alloc (.cells #[.int .i16 a0, .int .i16 a1] 23)).alloc (.cells #[.int .i16 b0, .int .i16 b1] 23)).alloc (.cells #[.int .i16 c0, .int .i16 c1] 23))) ⟨by go_simp, by go_simp, by simp <;> omega⟩ hb⟩
  have Bb : Side (Box2 w1 (w.heap.size + 1) .i16 b0 b1) := ⟨Box2.below (w := (((w.alloc (.cells #[.int .i16 a0, .int .i16 a1] 23)).alloc (.cells #[.int .i16 b0, .int .i16 b1] 23)).alloc (.cells #[.int .i16 c0, .int .i16 c1] 23))) ⟨by go_simp, by go_simp, by simp <;> omega⟩ hb⟩
  have Bc : Side (Box2 w1 (w.heap.size + 1 + 1) .i16 c0 c1) := ⟨Box2.below (w := (((w.alloc (.cells #[.int .i16 a0, .int .i16 a1] 23)).alloc (.cells #[.int .i16 b0, .int .i16 b1] 23)).alloc (.cells #[.int .i16 c0, .int .i16 c1] 23))) ⟨by go_simp, by go_simp, by simp <;> omega⟩ hb⟩
  clear hb
  have la0 := Ba.out.c0
  have la1 := Ba.out.c1
  have la2 := Ba.out.lt
  have lb0 := Bb.out.c0
  have lb1 := Bb.out.c1
  have lb2 := Bb.out.lt
  have lc0 := Bc.out.c0
  have lc1 := Bc.out.c1
  have lc2 := Bc.out.lt
  go_wp2
  go_ret
  exact ⟨rfl, HB.out⟩
set_option maxHeartbeats 8000000 in
set_option maxRecDepth 100000 in
theorem none_c (a0 a1 b0 b1 c0 c1 : Int) (w : World) (AW : ∀ w, Side (Calls Try.prog 9 #[] w fun r w' => r = .returned (.bool true) ∧ Below w.heap.size w w')) (na : (a1 == 0) = false) (nb : (b1 == 0) = false) (nc : (c1 == 0) = true)
    : Calls Try.prog 3 #[.agg #[.int .i16 a0, .int .i16 a1], .agg #[.int .i16 b0, .int .i16 b1], .agg #[.int .i16 c0, .int .i16 c1]] w fun r w' => r = .returned (.bool true) ∧ Below w.heap.size w w' := by
  go_enter Try.func3, Try.ntmps3
  go_wp2_with fail
  refine (AW _).out.mono ?_
  rintro e w1 ⟨rfl, hb⟩
  have HB : Side (Below w.heap.size w w1) := ⟨below_then (by (repeat (with_reducible first | exact Below.refl _ _ | apply below_drewN | apply below_drew | apply below_alloc))) (by simp <;> omega) hb⟩
  have Ba : Side (Box2 w1 (w.heap.size) .i16 a0 a1) := ⟨Box2.below (w := (((w.alloc (.cells #[.int .i16 a0, .int .i16 a1] 23)).alloc (.cells #[.int .i16 b0, .int .i16 b1] 23)).alloc (.cells #[.int .i16 c0, .int .i16 c1] 23))) ⟨by go_simp, by go_simp, by simp <;> omega⟩ hb⟩
  have Bb : Side (Box2 w1 (w.heap.size + 1) .i16 b0 b1) := ⟨Box2.below (w := (((w.alloc (.cells #[.int .i16 a0, .int .i16 a1] 23)).alloc (.cells #[.int .i16 b0, .int .i16 b1] 23)).alloc (.cells #[.int .i16 c0, .int .i16 c1] 23))) ⟨by go_simp, by go_simp, by simp <;> omega⟩ hb⟩
  have Bc : Side (Box2 w1 (w.heap.size + 1 + 1) .i16 c0 c1) := ⟨Box2.below (w := (((w.alloc (.cells #[.int .i16 a0, .int .i16 a1] 23)).alloc (.cells #[.int .i16 b0, .int .i16 b1] 23)).alloc (.cells #[.int .i16 c0, .int .i16 c1] 23))) ⟨by go_simp, by go_simp, by simp <;> omega⟩ hb⟩
  clear hb
  have la0 := Ba.out.c0
  have la1 := Ba.out.c1
  have la2 := Ba.out.lt
  have lb0 := Bb.out.c0
  have lb1 := Bb.out.c1
  have lb2 := Bb.out.lt
  have lc0 := Bc.out.c0
  have lc1 := Bc.out.c1
  have lc2 := Bc.out.lt
  go_wp2
  go_ret
  exact ⟨rfl, HB.out⟩
end Go.Proofs.Ytpgecjedifcilaa.ROrder
