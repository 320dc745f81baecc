/- Package ratio: the walk of RatioLaws over contracts that are handed in. No condition beyond them. -/
import Derived.Test.YtpgecjedifcilaaRaB
import Derived.Test.YtpgecjedifcilaaWMore
set_option linter.unusedVariables false
set_option linter.unusedSimpArgs false
namespace Go.Proofs.Ytpgecjedifcilaa.RLaws
open Go.RowKit Go.Proofs.Ytpgecjedifcilaa.Kit Go.Proofs.Ytpgecjedifcilaa.RaB
attribute [local go_sem] Go.Proofs.YtpgecjedifcilaaW.PrintMore.max2_int Go.Proofs.YtpgecjedifcilaaW.PrintMore.min2_int Go.Proofs.YtpgecjedifcilaaW.PrintMore.max_two Go.Proofs.YtpgecjedifcilaaW.PrintMore.min_two

set_option maxHeartbeats 32000000 in
set_option maxRecDepth 100000 in
theorem core (a0 a1 b0 b1 c0 c1 d0 d1 e0 e1 f g h l m0 m1 n p0 p1 q r0 r1 s0 s1 x0 x1 y0 y1 z0 z1 : Int) (w : World)
    (AW : ∀ w, Side (Calls Try.prog 9 #[] w fun r w' => r = .returned (.bool true) ∧ Below w.heap.size w w'))
    (C1 : ∀ w, Side (Calls Try.prog 10 #[.int .i64 a0, .int .i64 a1] w fun r w' => r = .returned (.tuple #[.agg #[.int .i64 x0, .int .i64 x1], .int .i64 0]) ∧ Below w.heap.size w w'))
    (C2 : ∀ w, Side (Calls Try.prog 10 #[.int .i64 b0, .int .i64 b1] w fun r w' => r = .returned (.tuple #[.agg #[.int .i64 y0, .int .i64 y1], .int .i64 0]) ∧ Below w.heap.size w w'))
    (C3 : ∀ w, Side (Calls Try.prog 10 #[.int .i64 c0, .int .i64 c1] w fun r w' => r = .returned (.tuple #[.agg #[.int .i64 z0, .int .i64 z1], .int .i64 0]) ∧ Below w.heap.size w w'))
    (C4 : ∀ w, Side (Calls Try.prog 11 #[.agg #[.int .i64 x0, .int .i64 x1], .agg #[.int .i64 y0, .int .i64 y1]] w fun r w' => r = .returned (.tuple #[.agg #[.int .i64 d0, .int .i64 d1], .int .i64 0]) ∧ Below w.heap.size w w'))
    (C5 : ∀ w, Side (Calls Try.prog 11 #[.agg #[.int .i64 y0, .int .i64 y1], .agg #[.int .i64 x0, .int .i64 x1]] w fun r w' => r = .returned (.tuple #[.agg #[.int .i64 d0, .int .i64 d1], .int .i64 0]) ∧ Below w.heap.size w w'))
    (C6 : ∀ w, Side (Calls Try.prog 11 #[.agg #[.int .i64 d0, .int .i64 d1], .agg #[.int .i64 z0, .int .i64 z1]] w fun r w' => r = .returned (.tuple #[.agg #[.int .i64 s0, .int .i64 s1], .int .i64 0]) ∧ Below w.heap.size w w'))
    (C7 : ∀ w, Side (Calls Try.prog 11 #[.agg #[.int .i64 y0, .int .i64 y1], .agg #[.int .i64 z0, .int .i64 z1]] w fun r w' => r = .returned (.tuple #[.agg #[.int .i64 e0, .int .i64 e1], .int .i64 0]) ∧ Below w.heap.size w w'))
    (C8 : ∀ w, Side (Calls Try.prog 11 #[.agg #[.int .i64 x0, .int .i64 x1], .agg #[.int .i64 e0, .int .i64 e1]] w fun r w' => r = .returned (.tuple #[.agg #[.int .i64 s0, .int .i64 s1], .int .i64 0]) ∧ Below w.heap.size w w'))
    (C9 : ∀ w, Side (Calls Try.prog 17 #[.agg #[.int .i64 d0, .int .i64 d1], .agg #[.int .i64 y0, .int .i64 y1]] w fun r w' => r = .returned (.tuple #[.agg #[.int .i64 x0, .int .i64 x1], .int .i64 0]) ∧ Below w.heap.size w w'))
    (C10 : ∀ w, Side (Calls Try.prog 18 #[.agg #[.int .i64 x0, .int .i64 x1], .agg #[.int .i64 e0, .int .i64 e1]] w fun r w' => r = .returned (.tuple #[.agg #[.int .i64 p0, .int .i64 p1], .int .i64 0]) ∧ Below w.heap.size w w'))
    (C11 : ∀ w, Side (Calls Try.prog 18 #[.agg #[.int .i64 x0, .int .i64 x1], .agg #[.int .i64 y0, .int .i64 y1]] w fun r w' => r = .returned (.tuple #[.agg #[.int .i64 m0, .int .i64 m1], .int .i64 0]) ∧ Below w.heap.size w w'))
    (C12 : ∀ w, Side (Calls Try.prog 18 #[.agg #[.int .i64 x0, .int .i64 x1], .agg #[.int .i64 z0, .int .i64 z1]] w fun r w' => r = .returned (.tuple #[.agg #[.int .i64 r0, .int .i64 r1], .int .i64 0]) ∧ Below w.heap.size w w'))
    (C13 : ∀ w, Side (Calls Try.prog 11 #[.agg #[.int .i64 m0, .int .i64 m1], .agg #[.int .i64 r0, .int .i64 r1]] w fun r w' => r = .returned (.tuple #[.agg #[.int .i64 p0, .int .i64 p1], .int .i64 0]) ∧ Below w.heap.size w w'))
    (C14 : ∀ w, Side (Calls Try.prog 12 #[.agg #[.int .i64 x0, .int .i64 x1], .agg #[.int .i64 y0, .int .i64 y1]] w fun r w' => r = .returned (.int .i64 q) ∧ Below w.heap.size w w'))
    (C15 : ∀ w, Side (Calls Try.prog 12 #[.agg #[.int .i64 y0, .int .i64 y1], .agg #[.int .i64 x0, .int .i64 x1]] w fun r w' => r = .returned (.int .i64 n) ∧ Below w.heap.size w w'))
    (C16 : ∀ w, Side (Calls Try.prog 26 #[.agg #[.int .i64 p0, .int .i64 p1]] w fun r w' => r = .returned (.bool true) ∧ Below w.heap.size w w'))
    (C17 : ∀ w, Side (Calls Try.prog 14 #[.agg #[.int .i64 x0, .int .i64 x1]] w fun r w' => r = .returned (.int .i64 h) ∧ Below w.heap.size w w'))
    (C18 : ∀ w, Side (Calls Try.prog 13 #[.agg #[.int .i64 x0, .int .i64 x1]] w fun r w' => r = .returned (.int .i64 f) ∧ Below w.heap.size w w'))
    (na : (a1 == 0) = false)
    (nb : (b1 == 0) = false)
    (nc : (c1 == 0) = false)
    (wa : (-128 ≤ a0 ∧ a0 ≤ 127) ∧ -128 ≤ a1 ∧ a1 ≤ 127)
    (wb : (-128 ≤ b0 ∧ b0 ≤ 127) ∧ -128 ≤ b1 ∧ b1 ≤ 127)
    (wc : (-128 ≤ c0 ∧ c0 ≤ 127) ∧ -128 ≤ c1 ∧ c1 ≤ 127)
    (hn : IntKind.i64.wrap (-n) = q)
    (hs : IntKind.i64.wrap (h - f) = g)
    (ht : IntKind.i64.wrap (x1 - 1) = l)
    (hm : (if l < 1 then l else 1) = g)
    : Calls Try.prog 8 #[.agg #[.int .i8 a0, .int .i8 a1], .agg #[.int .i8 b0, .int .i8 b1], .agg #[.int .i8 c0, .int .i8 c1]] w fun r w' => r = .returned (.bool true) ∧ Below w.heap.size w w' := by
  go_enter Try.func8, Try.ntmps8
  go_wp2_with fail
  refine (AW _).out.mono ?_
  rintro e w1 ⟨rfl, hb⟩
  have HB : Side (Below w.heap.size w w1) := ⟨below_then (by (repeat (with_reducible first | exact Below.refl _ _ | apply below_drewN | apply below_drew | apply below_alloc))) (by simp <;> omega) hb⟩
  have Ba : Side (Box2 w1 (w.heap.size) .i8 a0 a1) := ⟨Box2.below (w := (((w.alloc (.cells #[.int .i8 a0, .int .i8 a1] 47)).alloc (.cells #[.int .i8 b0, .int .i8 b1] 47)).alloc (.cells #[.int .i8 c0, .int .i8 c1] 47))) ⟨by go_simp, by go_simp, by simp <;> omega⟩ hb⟩
  have Bb : Side (Box2 w1 (w.heap.size + 1) .i8 b0 b1) := ⟨Box2.below (w := (((w.alloc (.cells #[.int .i8 a0, .int .i8 a1] 47)).alloc (.cells #[.int .i8 b0, .int .i8 b1] 47)).alloc (.cells #[.int .i8 c0, .int .i8 c1] 47))) ⟨by go_simp, by go_simp, by simp <;> omega⟩ hb⟩
  have Bc : Side (Box2 w1 (w.heap.size + 1 + 1) .i8 c0 c1) := ⟨Box2.below (w := (((w.alloc (.cells #[.int .i8 a0, .int .i8 a1] 47)).alloc (.cells #[.int .i8 b0, .int .i8 b1] 47)).alloc (.cells #[.int .i8 c0, .int .i8 c1] 47))) ⟨by go_simp, by go_simp, by simp <;> omega⟩ hb⟩
  clear hb
  obtain ⟨gc, hgc⟩ : ∃ g, g = w.heap.size + 1 + 1 := ⟨_, rfl⟩
  rw [← hgc] at Bc ⊢
  clear hgc
  obtain ⟨gb, hgb⟩ : ∃ g, g = w.heap.size + 1 := ⟨_, rfl⟩
  rw [← hgb] at Bb ⊢
  clear hgb
  obtain ⟨ga, hga⟩ : ∃ g, g = w.heap.size := ⟨_, rfl⟩
  rw [← hga] at Ba ⊢
  clear hga
  have la0 := Ba.out.c0
  have la1 := Ba.out.c1
  have la2 := Ba.out.lt
  have lb0 := Bb.out.c0
  have lb1 := Bb.out.c1
  have lb2 := Bb.out.lt
  have lc0 := Bc.out.c0
  have lc1 := Bc.out.c1
  have lc2 := Bc.out.lt
  go_wp2_with fail
  with_reducible refine (C1 _).out.mono ?_
  rintro e w2 ⟨rfl, hb⟩
  have HB' := Side.mk (below_then HB.out HB.out.size hb)
  clear HB
  have HB := HB'
  clear HB'
  have B' := Side.mk (Ba.out.below hb)
  clear Ba
  have Ba := B'
  clear B'
  have B' := Side.mk (Bb.out.below hb)
  clear Bb
  have Bb := B'
  clear B'
  have B' := Side.mk (Bc.out.below hb)
  clear Bc
  have Bc := B'
  clear B'
  clear la0 la1 la2 lb0 lb1 lb2 lc0 lc1 lc2
  clear hb
  go_upto_region 6 with (fail)
  have B' := Side.mk (Ba.out.alloc (.cells #[.int .i64 x0, .int .i64 x1] 26))
  clear Ba
  have Ba := B'
  clear B'
  have B' := Side.mk (Bb.out.alloc (.cells #[.int .i64 x0, .int .i64 x1] 26))
  clear Bb
  have Bb := B'
  clear B'
  have B' := Side.mk (Bc.out.alloc (.cells #[.int .i64 x0, .int .i64 x1] 26))
  clear Bc
  have Bc := B'
  clear B'
  have HB' := Side.mk (below_alloc2 HB.out (.cells #[.int .i64 x0, .int .i64 x1] 26))
  clear HB
  have HB := HB'
  clear HB'
  have Bx : Side (Box2 (w2.alloc (.cells #[.int .i64 x0, .int .i64 x1] 26)) w2.heap.size .i64 x0 x1) := ⟨Box2.new _ _ _ _ _⟩
  obtain ⟨gx, hgx⟩ : ∃ g, g = w2.heap.size := ⟨_, rfl⟩
  rw [← hgx] at Bx ⊢
  clear hgx
  generalize (w2.alloc (.cells #[.int .i64 x0, .int .i64 x1] 26)) = w3 at *
  have lb0 := Bb.out.c0
  have lb1 := Bb.out.c1
  have lb2 := Bb.out.lt
  go_wp2_with fail
  with_reducible refine (C2 _).out.mono ?_
  rintro e w4 ⟨rfl, hb⟩
  have HB' := Side.mk (below_then HB.out HB.out.size hb)
  clear HB
  have HB := HB'
  clear HB'
  have B' := Side.mk (Ba.out.below hb)
  clear Ba
  have Ba := B'
  clear B'
  have B' := Side.mk (Bb.out.below hb)
  clear Bb
  have Bb := B'
  clear B'
  have B' := Side.mk (Bc.out.below hb)
  clear Bc
  have Bc := B'
  clear B'
  have B' := Side.mk (Bx.out.below hb)
  clear Bx
  have Bx := B'
  clear B'
  clear lb0 lb1 lb2
  clear hb
  go_upto_region 7 with (fail)
  have B' := Side.mk (Ba.out.alloc (.cells #[.int .i64 y0, .int .i64 y1] 26))
  clear Ba
  have Ba := B'
  clear B'
  have B' := Side.mk (Bb.out.alloc (.cells #[.int .i64 y0, .int .i64 y1] 26))
  clear Bb
  have Bb := B'
  clear B'
  have B' := Side.mk (Bc.out.alloc (.cells #[.int .i64 y0, .int .i64 y1] 26))
  clear Bc
  have Bc := B'
  clear B'
  have B' := Side.mk (Bx.out.alloc (.cells #[.int .i64 y0, .int .i64 y1] 26))
  clear Bx
  have Bx := B'
  clear B'
  have HB' := Side.mk (below_alloc2 HB.out (.cells #[.int .i64 y0, .int .i64 y1] 26))
  clear HB
  have HB := HB'
  clear HB'
  have By : Side (Box2 (w4.alloc (.cells #[.int .i64 y0, .int .i64 y1] 26)) w4.heap.size .i64 y0 y1) := ⟨Box2.new _ _ _ _ _⟩
  obtain ⟨gy, hgy⟩ : ∃ g, g = w4.heap.size := ⟨_, rfl⟩
  rw [← hgy] at By ⊢
  clear hgy
  generalize (w4.alloc (.cells #[.int .i64 y0, .int .i64 y1] 26)) = w5 at *
  have lc0 := Bc.out.c0
  have lc1 := Bc.out.c1
  have lc2 := Bc.out.lt
  go_wp2_with fail
  with_reducible refine (C3 _).out.mono ?_
  rintro e w6 ⟨rfl, hb⟩
  have HB' := Side.mk (below_then HB.out HB.out.size hb)
  clear HB
  have HB := HB'
  clear HB'
  have B' := Side.mk (Ba.out.below hb)
  clear Ba
  have Ba := B'
  clear B'
  have B' := Side.mk (Bb.out.below hb)
  clear Bb
  have Bb := B'
  clear B'
  have B' := Side.mk (Bc.out.below hb)
  clear Bc
  have Bc := B'
  clear B'
  have B' := Side.mk (Bx.out.below hb)
  clear Bx
  have Bx := B'
  clear B'
  have B' := Side.mk (By.out.below hb)
  clear By
  have By := B'
  clear B'
  clear lc0 lc1 lc2
  clear hb
  go_upto_region 8 with (fail)
  have B' := Side.mk (Ba.out.alloc (.cells #[.int .i64 z0, .int .i64 z1] 26))
  clear Ba
  have Ba := B'
  clear B'
  have B' := Side.mk (Bb.out.alloc (.cells #[.int .i64 z0, .int .i64 z1] 26))
  clear Bb
  have Bb := B'
  clear B'
  have B' := Side.mk (Bc.out.alloc (.cells #[.int .i64 z0, .int .i64 z1] 26))
  clear Bc
  have Bc := B'
  clear B'
  have B' := Side.mk (Bx.out.alloc (.cells #[.int .i64 z0, .int .i64 z1] 26))
  clear Bx
  have Bx := B'
  clear B'
  have B' := Side.mk (By.out.alloc (.cells #[.int .i64 z0, .int .i64 z1] 26))
  clear By
  have By := B'
  clear B'
  have HB' := Side.mk (below_alloc2 HB.out (.cells #[.int .i64 z0, .int .i64 z1] 26))
  clear HB
  have HB := HB'
  clear HB'
  have Bz : Side (Box2 (w6.alloc (.cells #[.int .i64 z0, .int .i64 z1] 26)) w6.heap.size .i64 z0 z1) := ⟨Box2.new _ _ _ _ _⟩
  obtain ⟨gz, hgz⟩ : ∃ g, g = w6.heap.size := ⟨_, rfl⟩
  rw [← hgz] at Bz ⊢
  clear hgz
  generalize (w6.alloc (.cells #[.int .i64 z0, .int .i64 z1] 26)) = w7 at *
  have lx0 := Bx.out.c0
  have lx1 := Bx.out.c1
  have lx2 := Bx.out.lt
  have ly0 := By.out.c0
  have ly1 := By.out.c1
  have ly2 := By.out.lt
  go_wp2_with fail
  with_reducible refine (C4 _).out.mono ?_
  rintro e w8 ⟨rfl, hb⟩
  have HB' := Side.mk (below_then HB.out HB.out.size hb)
  clear HB
  have HB := HB'
  clear HB'
  have B' := Side.mk (Ba.out.below hb)
  clear Ba
  have Ba := B'
  clear B'
  have B' := Side.mk (Bb.out.below hb)
  clear Bb
  have Bb := B'
  clear B'
  have B' := Side.mk (Bc.out.below hb)
  clear Bc
  have Bc := B'
  clear B'
  have B' := Side.mk (Bx.out.below hb)
  clear Bx
  have Bx := B'
  clear B'
  have B' := Side.mk (By.out.below hb)
  clear By
  have By := B'
  clear B'
  have B' := Side.mk (Bz.out.below hb)
  clear Bz
  have Bz := B'
  clear B'
  clear lx0 lx1 lx2 ly0 ly1 ly2
  clear hb
  go_upto_region 9 with (fail)
  have B' := Side.mk (Ba.out.alloc (.cells #[.int .i64 d0, .int .i64 d1] 26))
  clear Ba
  have Ba := B'
  clear B'
  have B' := Side.mk (Bb.out.alloc (.cells #[.int .i64 d0, .int .i64 d1] 26))
  clear Bb
  have Bb := B'
  clear B'
  have B' := Side.mk (Bc.out.alloc (.cells #[.int .i64 d0, .int .i64 d1] 26))
  clear Bc
  have Bc := B'
  clear B'
  have B' := Side.mk (Bx.out.alloc (.cells #[.int .i64 d0, .int .i64 d1] 26))
  clear Bx
  have Bx := B'
  clear B'
  have B' := Side.mk (By.out.alloc (.cells #[.int .i64 d0, .int .i64 d1] 26))
  clear By
  have By := B'
  clear B'
  have B' := Side.mk (Bz.out.alloc (.cells #[.int .i64 d0, .int .i64 d1] 26))
  clear Bz
  have Bz := B'
  clear B'
  have HB' := Side.mk (below_alloc2 HB.out (.cells #[.int .i64 d0, .int .i64 d1] 26))
  clear HB
  have HB := HB'
  clear HB'
  have BX : Side (Box2 (w8.alloc (.cells #[.int .i64 d0, .int .i64 d1] 26)) w8.heap.size .i64 d0 d1) := ⟨Box2.new _ _ _ _ _⟩
  obtain ⟨gX, hgX⟩ : ∃ g, g = w8.heap.size := ⟨_, rfl⟩
  rw [← hgX] at BX ⊢
  clear hgX
  generalize (w8.alloc (.cells #[.int .i64 d0, .int .i64 d1] 26)) = w9 at *
  have lx0 := Bx.out.c0
  have lx1 := Bx.out.c1
  have lx2 := Bx.out.lt
  have ly0 := By.out.c0
  have ly1 := By.out.c1
  have ly2 := By.out.lt
  go_wp2_with fail
  with_reducible refine (C5 _).out.mono ?_
  rintro e w10 ⟨rfl, hb⟩
  have HB' := Side.mk (below_then HB.out HB.out.size hb)
  clear HB
  have HB := HB'
  clear HB'
  have B' := Side.mk (Ba.out.below hb)
  clear Ba
  have Ba := B'
  clear B'
  have B' := Side.mk (Bb.out.below hb)
  clear Bb
  have Bb := B'
  clear B'
  have B' := Side.mk (Bc.out.below hb)
  clear Bc
  have Bc := B'
  clear B'
  have B' := Side.mk (Bx.out.below hb)
  clear Bx
  have Bx := B'
  clear B'
  have B' := Side.mk (By.out.below hb)
  clear By
  have By := B'
  clear B'
  have B' := Side.mk (Bz.out.below hb)
  clear Bz
  have Bz := B'
  clear B'
  have B' := Side.mk (BX.out.below hb)
  clear BX
  have BX := B'
  clear B'
  clear lx0 lx1 lx2 ly0 ly1 ly2
  clear hb
  go_upto_region 10 with (fail)
  have B' := Side.mk (Ba.out.alloc (.cells #[.int .i64 d0, .int .i64 d1] 26))
  clear Ba
  have Ba := B'
  clear B'
  have B' := Side.mk (Bb.out.alloc (.cells #[.int .i64 d0, .int .i64 d1] 26))
  clear Bb
  have Bb := B'
  clear B'
  have B' := Side.mk (Bc.out.alloc (.cells #[.int .i64 d0, .int .i64 d1] 26))
  clear Bc
  have Bc := B'
  clear B'
  have B' := Side.mk (Bx.out.alloc (.cells #[.int .i64 d0, .int .i64 d1] 26))
  clear Bx
  have Bx := B'
  clear B'
  have B' := Side.mk (By.out.alloc (.cells #[.int .i64 d0, .int .i64 d1] 26))
  clear By
  have By := B'
  clear B'
  have B' := Side.mk (Bz.out.alloc (.cells #[.int .i64 d0, .int .i64 d1] 26))
  clear Bz
  have Bz := B'
  clear B'
  have B' := Side.mk (BX.out.alloc (.cells #[.int .i64 d0, .int .i64 d1] 26))
  clear BX
  have BX := B'
  clear B'
  have HB' := Side.mk (below_alloc2 HB.out (.cells #[.int .i64 d0, .int .i64 d1] 26))
  clear HB
  have HB := HB'
  clear HB'
  have BY : Side (Box2 (w10.alloc (.cells #[.int .i64 d0, .int .i64 d1] 26)) w10.heap.size .i64 d0 d1) := ⟨Box2.new _ _ _ _ _⟩
  obtain ⟨gY, hgY⟩ : ∃ g, g = w10.heap.size := ⟨_, rfl⟩
  rw [← hgY] at BY ⊢
  clear hgY
  generalize (w10.alloc (.cells #[.int .i64 d0, .int .i64 d1] 26)) = w11 at *
  have lX0 := BX.out.c0
  have lX1 := BX.out.c1
  have lX2 := BX.out.lt
  have lz0 := Bz.out.c0
  have lz1 := Bz.out.c1
  have lz2 := Bz.out.lt
  go_wp2_with fail
  with_reducible refine (C6 _).out.mono ?_
  rintro e w12 ⟨rfl, hb⟩
  have HB' := Side.mk (below_then HB.out HB.out.size hb)
  clear HB
  have HB := HB'
  clear HB'
  have B' := Side.mk (Ba.out.below hb)
  clear Ba
  have Ba := B'
  clear B'
  have B' := Side.mk (Bb.out.below hb)
  clear Bb
  have Bb := B'
  clear B'
  have B' := Side.mk (Bc.out.below hb)
  clear Bc
  have Bc := B'
  clear B'
  have B' := Side.mk (Bx.out.below hb)
  clear Bx
  have Bx := B'
  clear B'
  have B' := Side.mk (By.out.below hb)
  clear By
  have By := B'
  clear B'
  have B' := Side.mk (Bz.out.below hb)
  clear Bz
  have Bz := B'
  clear B'
  have B' := Side.mk (BX.out.below hb)
  clear BX
  have BX := B'
  clear B'
  have B' := Side.mk (BY.out.below hb)
  clear BY
  have BY := B'
  clear B'
  clear lX0 lX1 lX2 lz0 lz1 lz2
  clear hb
  go_upto_region 11 with (fail)
  have B' := Side.mk (Ba.out.alloc (.cells #[.int .i64 s0, .int .i64 s1] 26))
  clear Ba
  have Ba := B'
  clear B'
  have B' := Side.mk (Bb.out.alloc (.cells #[.int .i64 s0, .int .i64 s1] 26))
  clear Bb
  have Bb := B'
  clear B'
  have B' := Side.mk (Bc.out.alloc (.cells #[.int .i64 s0, .int .i64 s1] 26))
  clear Bc
  have Bc := B'
  clear B'
  have B' := Side.mk (Bx.out.alloc (.cells #[.int .i64 s0, .int .i64 s1] 26))
  clear Bx
  have Bx := B'
  clear B'
  have B' := Side.mk (By.out.alloc (.cells #[.int .i64 s0, .int .i64 s1] 26))
  clear By
  have By := B'
  clear B'
  have B' := Side.mk (Bz.out.alloc (.cells #[.int .i64 s0, .int .i64 s1] 26))
  clear Bz
  have Bz := B'
  clear B'
  have B' := Side.mk (BX.out.alloc (.cells #[.int .i64 s0, .int .i64 s1] 26))
  clear BX
  have BX := B'
  clear B'
  have B' := Side.mk (BY.out.alloc (.cells #[.int .i64 s0, .int .i64 s1] 26))
  clear BY
  have BY := B'
  clear B'
  have HB' := Side.mk (below_alloc2 HB.out (.cells #[.int .i64 s0, .int .i64 s1] 26))
  clear HB
  have HB := HB'
  clear HB'
  have Bs : Side (Box2 (w12.alloc (.cells #[.int .i64 s0, .int .i64 s1] 26)) w12.heap.size .i64 s0 s1) := ⟨Box2.new _ _ _ _ _⟩
  obtain ⟨gs, hgs⟩ : ∃ g, g = w12.heap.size := ⟨_, rfl⟩
  rw [← hgs] at Bs ⊢
  clear hgs
  generalize (w12.alloc (.cells #[.int .i64 s0, .int .i64 s1] 26)) = w13 at *
  have ly0 := By.out.c0
  have ly1 := By.out.c1
  have ly2 := By.out.lt
  have lz0 := Bz.out.c0
  have lz1 := Bz.out.c1
  have lz2 := Bz.out.lt
  go_wp2_with fail
  with_reducible refine (C7 _).out.mono ?_
  rintro e w14 ⟨rfl, hb⟩
  have HB' := Side.mk (below_then HB.out HB.out.size hb)
  clear HB
  have HB := HB'
  clear HB'
  have B' := Side.mk (Ba.out.below hb)
  clear Ba
  have Ba := B'
  clear B'
  have B' := Side.mk (Bb.out.below hb)
  clear Bb
  have Bb := B'
  clear B'
  have B' := Side.mk (Bc.out.below hb)
  clear Bc
  have Bc := B'
  clear B'
  have B' := Side.mk (Bx.out.below hb)
  clear Bx
  have Bx := B'
  clear B'
  have B' := Side.mk (By.out.below hb)
  clear By
  have By := B'
  clear B'
  have B' := Side.mk (Bz.out.below hb)
  clear Bz
  have Bz := B'
  clear B'
  have B' := Side.mk (BX.out.below hb)
  clear BX
  have BX := B'
  clear B'
  have B' := Side.mk (BY.out.below hb)
  clear BY
  have BY := B'
  clear B'
  have B' := Side.mk (Bs.out.below hb)
  clear Bs
  have Bs := B'
  clear B'
  clear ly0 ly1 ly2 lz0 lz1 lz2
  clear hb
  go_upto_region 12 with (fail)
  have B' := Side.mk (Ba.out.alloc (.cells #[.int .i64 e0, .int .i64 e1] 26))
  clear Ba
  have Ba := B'
  clear B'
  have B' := Side.mk (Bb.out.alloc (.cells #[.int .i64 e0, .int .i64 e1] 26))
  clear Bb
  have Bb := B'
  clear B'
  have B' := Side.mk (Bc.out.alloc (.cells #[.int .i64 e0, .int .i64 e1] 26))
  clear Bc
  have Bc := B'
  clear B'
  have B' := Side.mk (Bx.out.alloc (.cells #[.int .i64 e0, .int .i64 e1] 26))
  clear Bx
  have Bx := B'
  clear B'
  have B' := Side.mk (By.out.alloc (.cells #[.int .i64 e0, .int .i64 e1] 26))
  clear By
  have By := B'
  clear B'
  have B' := Side.mk (Bz.out.alloc (.cells #[.int .i64 e0, .int .i64 e1] 26))
  clear Bz
  have Bz := B'
  clear B'
  have B' := Side.mk (BX.out.alloc (.cells #[.int .i64 e0, .int .i64 e1] 26))
  clear BX
  have BX := B'
  clear B'
  have B' := Side.mk (BY.out.alloc (.cells #[.int .i64 e0, .int .i64 e1] 26))
  clear BY
  have BY := B'
  clear B'
  have B' := Side.mk (Bs.out.alloc (.cells #[.int .i64 e0, .int .i64 e1] 26))
  clear Bs
  have Bs := B'
  clear B'
  have HB' := Side.mk (below_alloc2 HB.out (.cells #[.int .i64 e0, .int .i64 e1] 26))
  clear HB
  have HB := HB'
  clear HB'
  have Be : Side (Box2 (w14.alloc (.cells #[.int .i64 e0, .int .i64 e1] 26)) w14.heap.size .i64 e0 e1) := ⟨Box2.new _ _ _ _ _⟩
  obtain ⟨ge, hge⟩ : ∃ g, g = w14.heap.size := ⟨_, rfl⟩
  rw [← hge] at Be ⊢
  clear hge
  generalize (w14.alloc (.cells #[.int .i64 e0, .int .i64 e1] 26)) = w15 at *
  have lx0 := Bx.out.c0
  have lx1 := Bx.out.c1
  have lx2 := Bx.out.lt
  have le0 := Be.out.c0
  have le1 := Be.out.c1
  have le2 := Be.out.lt
  go_wp2_with fail
  with_reducible refine (C8 _).out.mono ?_
  rintro e w16 ⟨rfl, hb⟩
  have HB' := Side.mk (below_then HB.out HB.out.size hb)
  clear HB
  have HB := HB'
  clear HB'
  have B' := Side.mk (Ba.out.below hb)
  clear Ba
  have Ba := B'
  clear B'
  have B' := Side.mk (Bb.out.below hb)
  clear Bb
  have Bb := B'
  clear B'
  have B' := Side.mk (Bc.out.below hb)
  clear Bc
  have Bc := B'
  clear B'
  have B' := Side.mk (Bx.out.below hb)
  clear Bx
  have Bx := B'
  clear B'
  have B' := Side.mk (By.out.below hb)
  clear By
  have By := B'
  clear B'
  have B' := Side.mk (Bz.out.below hb)
  clear Bz
  have Bz := B'
  clear B'
  have B' := Side.mk (BX.out.below hb)
  clear BX
  have BX := B'
  clear B'
  have B' := Side.mk (BY.out.below hb)
  clear BY
  have BY := B'
  clear B'
  have B' := Side.mk (Bs.out.below hb)
  clear Bs
  have Bs := B'
  clear B'
  have B' := Side.mk (Be.out.below hb)
  clear Be
  have Be := B'
  clear B'
  clear lx0 lx1 lx2 le0 le1 le2
  clear hb
  go_upto_region 13 with (fail)
  have B' := Side.mk (Ba.out.alloc (.cells #[.int .i64 s0, .int .i64 s1] 26))
  clear Ba
  have Ba := B'
  clear B'
  have B' := Side.mk (Bb.out.alloc (.cells #[.int .i64 s0, .int .i64 s1] 26))
  clear Bb
  have Bb := B'
  clear B'
  have B' := Side.mk (Bc.out.alloc (.cells #[.int .i64 s0, .int .i64 s1] 26))
  clear Bc
  have Bc := B'
  clear B'
  have B' := Side.mk (Bx.out.alloc (.cells #[.int .i64 s0, .int .i64 s1] 26))
  clear Bx
  have Bx := B'
  clear B'
  have B' := Side.mk (By.out.alloc (.cells #[.int .i64 s0, .int .i64 s1] 26))
  clear By
  have By := B'
  clear B'
  have B' := Side.mk (Bz.out.alloc (.cells #[.int .i64 s0, .int .i64 s1] 26))
  clear Bz
  have Bz := B'
  clear B'
  have B' := Side.mk (BX.out.alloc (.cells #[.int .i64 s0, .int .i64 s1] 26))
  clear BX
  have BX := B'
  clear B'
  have B' := Side.mk (BY.out.alloc (.cells #[.int .i64 s0, .int .i64 s1] 26))
  clear BY
  have BY := B'
  clear B'
  have B' := Side.mk (Bs.out.alloc (.cells #[.int .i64 s0, .int .i64 s1] 26))
  clear Bs
  have Bs := B'
  clear B'
  have B' := Side.mk (Be.out.alloc (.cells #[.int .i64 s0, .int .i64 s1] 26))
  clear Be
  have Be := B'
  clear B'
  have HB' := Side.mk (below_alloc2 HB.out (.cells #[.int .i64 s0, .int .i64 s1] 26))
  clear HB
  have HB := HB'
  clear HB'
  have Bt : Side (Box2 (w16.alloc (.cells #[.int .i64 s0, .int .i64 s1] 26)) w16.heap.size .i64 s0 s1) := ⟨Box2.new _ _ _ _ _⟩
  obtain ⟨gt, hgt⟩ : ∃ g, g = w16.heap.size := ⟨_, rfl⟩
  rw [← hgt] at Bt ⊢
  clear hgt
  generalize (w16.alloc (.cells #[.int .i64 s0, .int .i64 s1] 26)) = w17 at *
  have lX0 := BX.out.c0
  have lX1 := BX.out.c1
  have lX2 := BX.out.lt
  have ly0 := By.out.c0
  have ly1 := By.out.c1
  have ly2 := By.out.lt
  go_wp2_with fail
  with_reducible refine (C9 _).out.mono ?_
  rintro e w18 ⟨rfl, hb⟩
  have HB' := Side.mk (below_then HB.out HB.out.size hb)
  clear HB
  have HB := HB'
  clear HB'
  have B' := Side.mk (Ba.out.below hb)
  clear Ba
  have Ba := B'
  clear B'
  have B' := Side.mk (Bb.out.below hb)
  clear Bb
  have Bb := B'
  clear B'
  have B' := Side.mk (Bc.out.below hb)
  clear Bc
  have Bc := B'
  clear B'
  have B' := Side.mk (Bx.out.below hb)
  clear Bx
  have Bx := B'
  clear B'
  have B' := Side.mk (By.out.below hb)
  clear By
  have By := B'
  clear B'
  have B' := Side.mk (Bz.out.below hb)
  clear Bz
  have Bz := B'
  clear B'
  have B' := Side.mk (BX.out.below hb)
  clear BX
  have BX := B'
  clear B'
  have B' := Side.mk (BY.out.below hb)
  clear BY
  have BY := B'
  clear B'
  have B' := Side.mk (Bs.out.below hb)
  clear Bs
  have Bs := B'
  clear B'
  have B' := Side.mk (Be.out.below hb)
  clear Be
  have Be := B'
  clear B'
  have B' := Side.mk (Bt.out.below hb)
  clear Bt
  have Bt := B'
  clear B'
  clear lX0 lX1 lX2 ly0 ly1 ly2
  clear hb
  go_upto_region 14 with (fail)
  have B' := Side.mk (Ba.out.alloc (.cells #[.int .i64 x0, .int .i64 x1] 26))
  clear Ba
  have Ba := B'
  clear B'
  have B' := Side.mk (Bb.out.alloc (.cells #[.int .i64 x0, .int .i64 x1] 26))
  clear Bb
  have Bb := B'
  clear B'
  have B' := Side.mk (Bc.out.alloc (.cells #[.int .i64 x0, .int .i64 x1] 26))
  clear Bc
  have Bc := B'
  clear B'
  have B' := Side.mk (Bx.out.alloc (.cells #[.int .i64 x0, .int .i64 x1] 26))
  clear Bx
  have Bx := B'
  clear B'
  have B' := Side.mk (By.out.alloc (.cells #[.int .i64 x0, .int .i64 x1] 26))
  clear By
  have By := B'
  clear B'
  have B' := Side.mk (Bz.out.alloc (.cells #[.int .i64 x0, .int .i64 x1] 26))
  clear Bz
  have Bz := B'
  clear B'
  have B' := Side.mk (BX.out.alloc (.cells #[.int .i64 x0, .int .i64 x1] 26))
  clear BX
  have BX := B'
  clear B'
  have B' := Side.mk (BY.out.alloc (.cells #[.int .i64 x0, .int .i64 x1] 26))
  clear BY
  have BY := B'
  clear B'
  have B' := Side.mk (Bs.out.alloc (.cells #[.int .i64 x0, .int .i64 x1] 26))
  clear Bs
  have Bs := B'
  clear B'
  have B' := Side.mk (Be.out.alloc (.cells #[.int .i64 x0, .int .i64 x1] 26))
  clear Be
  have Be := B'
  clear B'
  have B' := Side.mk (Bt.out.alloc (.cells #[.int .i64 x0, .int .i64 x1] 26))
  clear Bt
  have Bt := B'
  clear B'
  have HB' := Side.mk (below_alloc2 HB.out (.cells #[.int .i64 x0, .int .i64 x1] 26))
  clear HB
  have HB := HB'
  clear HB'
  have Bk : Side (Box2 (w18.alloc (.cells #[.int .i64 x0, .int .i64 x1] 26)) w18.heap.size .i64 x0 x1) := ⟨Box2.new _ _ _ _ _⟩
  obtain ⟨gk, hgk⟩ : ∃ g, g = w18.heap.size := ⟨_, rfl⟩
  rw [← hgk] at Bk ⊢
  clear hgk
  generalize (w18.alloc (.cells #[.int .i64 x0, .int .i64 x1] 26)) = w19 at *
  have lx0 := Bx.out.c0
  have lx1 := Bx.out.c1
  have lx2 := Bx.out.lt
  have le0 := Be.out.c0
  have le1 := Be.out.c1
  have le2 := Be.out.lt
  go_wp2_with fail
  with_reducible refine (C10 _).out.mono ?_
  rintro e w20 ⟨rfl, hb⟩
  have HB' := Side.mk (below_then HB.out HB.out.size hb)
  clear HB
  have HB := HB'
  clear HB'
  have B' := Side.mk (Ba.out.below hb)
  clear Ba
  have Ba := B'
  clear B'
  have B' := Side.mk (Bb.out.below hb)
  clear Bb
  have Bb := B'
  clear B'
  have B' := Side.mk (Bc.out.below hb)
  clear Bc
  have Bc := B'
  clear B'
  have B' := Side.mk (Bx.out.below hb)
  clear Bx
  have Bx := B'
  clear B'
  have B' := Side.mk (By.out.below hb)
  clear By
  have By := B'
  clear B'
  have B' := Side.mk (Bz.out.below hb)
  clear Bz
  have Bz := B'
  clear B'
  have B' := Side.mk (BX.out.below hb)
  clear BX
  have BX := B'
  clear B'
  have B' := Side.mk (BY.out.below hb)
  clear BY
  have BY := B'
  clear B'
  have B' := Side.mk (Bs.out.below hb)
  clear Bs
  have Bs := B'
  clear B'
  have B' := Side.mk (Be.out.below hb)
  clear Be
  have Be := B'
  clear B'
  have B' := Side.mk (Bt.out.below hb)
  clear Bt
  have Bt := B'
  clear B'
  have B' := Side.mk (Bk.out.below hb)
  clear Bk
  have Bk := B'
  clear B'
  clear lx0 lx1 lx2 le0 le1 le2
  clear hb
  go_upto_region 15 with (fail)
  have B' := Side.mk (Ba.out.alloc (.cells #[.int .i64 p0, .int .i64 p1] 26))
  clear Ba
  have Ba := B'
  clear B'
  have B' := Side.mk (Bb.out.alloc (.cells #[.int .i64 p0, .int .i64 p1] 26))
  clear Bb
  have Bb := B'
  clear B'
  have B' := Side.mk (Bc.out.alloc (.cells #[.int .i64 p0, .int .i64 p1] 26))
  clear Bc
  have Bc := B'
  clear B'
  have B' := Side.mk (Bx.out.alloc (.cells #[.int .i64 p0, .int .i64 p1] 26))
  clear Bx
  have Bx := B'
  clear B'
  have B' := Side.mk (By.out.alloc (.cells #[.int .i64 p0, .int .i64 p1] 26))
  clear By
  have By := B'
  clear B'
  have B' := Side.mk (Bz.out.alloc (.cells #[.int .i64 p0, .int .i64 p1] 26))
  clear Bz
  have Bz := B'
  clear B'
  have B' := Side.mk (BX.out.alloc (.cells #[.int .i64 p0, .int .i64 p1] 26))
  clear BX
  have BX := B'
  clear B'
  have B' := Side.mk (BY.out.alloc (.cells #[.int .i64 p0, .int .i64 p1] 26))
  clear BY
  have BY := B'
  clear B'
  have B' := Side.mk (Bs.out.alloc (.cells #[.int .i64 p0, .int .i64 p1] 26))
  clear Bs
  have Bs := B'
  clear B'
  have B' := Side.mk (Be.out.alloc (.cells #[.int .i64 p0, .int .i64 p1] 26))
  clear Be
  have Be := B'
  clear B'
  have B' := Side.mk (Bt.out.alloc (.cells #[.int .i64 p0, .int .i64 p1] 26))
  clear Bt
  have Bt := B'
  clear B'
  have B' := Side.mk (Bk.out.alloc (.cells #[.int .i64 p0, .int .i64 p1] 26))
  clear Bk
  have Bk := B'
  clear B'
  have HB' := Side.mk (below_alloc2 HB.out (.cells #[.int .i64 p0, .int .i64 p1] 26))
  clear HB
  have HB := HB'
  clear HB'
  have Bp : Side (Box2 (w20.alloc (.cells #[.int .i64 p0, .int .i64 p1] 26)) w20.heap.size .i64 p0 p1) := ⟨Box2.new _ _ _ _ _⟩
  obtain ⟨gp, hgp⟩ : ∃ g, g = w20.heap.size := ⟨_, rfl⟩
  rw [← hgp] at Bp ⊢
  clear hgp
  generalize (w20.alloc (.cells #[.int .i64 p0, .int .i64 p1] 26)) = w21 at *
  have lx0 := Bx.out.c0
  have lx1 := Bx.out.c1
  have lx2 := Bx.out.lt
  have ly0 := By.out.c0
  have ly1 := By.out.c1
  have ly2 := By.out.lt
  go_wp2_with fail
  with_reducible refine (C11 _).out.mono ?_
  rintro e w22 ⟨rfl, hb⟩
  have HB' := Side.mk (below_then HB.out HB.out.size hb)
  clear HB
  have HB := HB'
  clear HB'
  have B' := Side.mk (Ba.out.below hb)
  clear Ba
  have Ba := B'
  clear B'
  have B' := Side.mk (Bb.out.below hb)
  clear Bb
  have Bb := B'
  clear B'
  have B' := Side.mk (Bc.out.below hb)
  clear Bc
  have Bc := B'
  clear B'
  have B' := Side.mk (Bx.out.below hb)
  clear Bx
  have Bx := B'
  clear B'
  have B' := Side.mk (By.out.below hb)
  clear By
  have By := B'
  clear B'
  have B' := Side.mk (Bz.out.below hb)
  clear Bz
  have Bz := B'
  clear B'
  have B' := Side.mk (BX.out.below hb)
  clear BX
  have BX := B'
  clear B'
  have B' := Side.mk (BY.out.below hb)
  clear BY
  have BY := B'
  clear B'
  have B' := Side.mk (Bs.out.below hb)
  clear Bs
  have Bs := B'
  clear B'
  have B' := Side.mk (Be.out.below hb)
  clear Be
  have Be := B'
  clear B'
  have B' := Side.mk (Bt.out.below hb)
  clear Bt
  have Bt := B'
  clear B'
  have B' := Side.mk (Bk.out.below hb)
  clear Bk
  have Bk := B'
  clear B'
  have B' := Side.mk (Bp.out.below hb)
  clear Bp
  have Bp := B'
  clear B'
  clear lx0 lx1 lx2 ly0 ly1 ly2
  clear hb
  go_upto_region 16 with (fail)
  have B' := Side.mk (Ba.out.alloc (.cells #[.int .i64 m0, .int .i64 m1] 26))
  clear Ba
  have Ba := B'
  clear B'
  have B' := Side.mk (Bb.out.alloc (.cells #[.int .i64 m0, .int .i64 m1] 26))
  clear Bb
  have Bb := B'
  clear B'
  have B' := Side.mk (Bc.out.alloc (.cells #[.int .i64 m0, .int .i64 m1] 26))
  clear Bc
  have Bc := B'
  clear B'
  have B' := Side.mk (Bx.out.alloc (.cells #[.int .i64 m0, .int .i64 m1] 26))
  clear Bx
  have Bx := B'
  clear B'
  have B' := Side.mk (By.out.alloc (.cells #[.int .i64 m0, .int .i64 m1] 26))
  clear By
  have By := B'
  clear B'
  have B' := Side.mk (Bz.out.alloc (.cells #[.int .i64 m0, .int .i64 m1] 26))
  clear Bz
  have Bz := B'
  clear B'
  have B' := Side.mk (BX.out.alloc (.cells #[.int .i64 m0, .int .i64 m1] 26))
  clear BX
  have BX := B'
  clear B'
  have B' := Side.mk (BY.out.alloc (.cells #[.int .i64 m0, .int .i64 m1] 26))
  clear BY
  have BY := B'
  clear B'
  have B' := Side.mk (Bs.out.alloc (.cells #[.int .i64 m0, .int .i64 m1] 26))
  clear Bs
  have Bs := B'
  clear B'
  have B' := Side.mk (Be.out.alloc (.cells #[.int .i64 m0, .int .i64 m1] 26))
  clear Be
  have Be := B'
  clear B'
  have B' := Side.mk (Bt.out.alloc (.cells #[.int .i64 m0, .int .i64 m1] 26))
  clear Bt
  have Bt := B'
  clear B'
  have B' := Side.mk (Bk.out.alloc (.cells #[.int .i64 m0, .int .i64 m1] 26))
  clear Bk
  have Bk := B'
  clear B'
  have B' := Side.mk (Bp.out.alloc (.cells #[.int .i64 m0, .int .i64 m1] 26))
  clear Bp
  have Bp := B'
  clear B'
  have HB' := Side.mk (below_alloc2 HB.out (.cells #[.int .i64 m0, .int .i64 m1] 26))
  clear HB
  have HB := HB'
  clear HB'
  have Bm : Side (Box2 (w22.alloc (.cells #[.int .i64 m0, .int .i64 m1] 26)) w22.heap.size .i64 m0 m1) := ⟨Box2.new _ _ _ _ _⟩
  obtain ⟨gm, hgm⟩ : ∃ g, g = w22.heap.size := ⟨_, rfl⟩
  rw [← hgm] at Bm ⊢
  clear hgm
  generalize (w22.alloc (.cells #[.int .i64 m0, .int .i64 m1] 26)) = w23 at *
  have lx0 := Bx.out.c0
  have lx1 := Bx.out.c1
  have lx2 := Bx.out.lt
  have lz0 := Bz.out.c0
  have lz1 := Bz.out.c1
  have lz2 := Bz.out.lt
  go_wp2_with fail
  with_reducible refine (C12 _).out.mono ?_
  rintro e w24 ⟨rfl, hb⟩
  have HB' := Side.mk (below_then HB.out HB.out.size hb)
  clear HB
  have HB := HB'
  clear HB'
  have B' := Side.mk (Ba.out.below hb)
  clear Ba
  have Ba := B'
  clear B'
  have B' := Side.mk (Bb.out.below hb)
  clear Bb
  have Bb := B'
  clear B'
  have B' := Side.mk (Bc.out.below hb)
  clear Bc
  have Bc := B'
  clear B'
  have B' := Side.mk (Bx.out.below hb)
  clear Bx
  have Bx := B'
  clear B'
  have B' := Side.mk (By.out.below hb)
  clear By
  have By := B'
  clear B'
  have B' := Side.mk (Bz.out.below hb)
  clear Bz
  have Bz := B'
  clear B'
  have B' := Side.mk (BX.out.below hb)
  clear BX
  have BX := B'
  clear B'
  have B' := Side.mk (BY.out.below hb)
  clear BY
  have BY := B'
  clear B'
  have B' := Side.mk (Bs.out.below hb)
  clear Bs
  have Bs := B'
  clear B'
  have B' := Side.mk (Be.out.below hb)
  clear Be
  have Be := B'
  clear B'
  have B' := Side.mk (Bt.out.below hb)
  clear Bt
  have Bt := B'
  clear B'
  have B' := Side.mk (Bk.out.below hb)
  clear Bk
  have Bk := B'
  clear B'
  have B' := Side.mk (Bp.out.below hb)
  clear Bp
  have Bp := B'
  clear B'
  have B' := Side.mk (Bm.out.below hb)
  clear Bm
  have Bm := B'
  clear B'
  clear lx0 lx1 lx2 lz0 lz1 lz2
  clear hb
  go_upto_region 17 with (fail)
  have B' := Side.mk (Ba.out.alloc (.cells #[.int .i64 r0, .int .i64 r1] 26))
  clear Ba
  have Ba := B'
  clear B'
  have B' := Side.mk (Bb.out.alloc (.cells #[.int .i64 r0, .int .i64 r1] 26))
  clear Bb
  have Bb := B'
  clear B'
  have B' := Side.mk (Bc.out.alloc (.cells #[.int .i64 r0, .int .i64 r1] 26))
  clear Bc
  have Bc := B'
  clear B'
  have B' := Side.mk (Bx.out.alloc (.cells #[.int .i64 r0, .int .i64 r1] 26))
  clear Bx
  have Bx := B'
  clear B'
  have B' := Side.mk (By.out.alloc (.cells #[.int .i64 r0, .int .i64 r1] 26))
  clear By
  have By := B'
  clear B'
  have B' := Side.mk (Bz.out.alloc (.cells #[.int .i64 r0, .int .i64 r1] 26))
  clear Bz
  have Bz := B'
  clear B'
  have B' := Side.mk (BX.out.alloc (.cells #[.int .i64 r0, .int .i64 r1] 26))
  clear BX
  have BX := B'
  clear B'
  have B' := Side.mk (BY.out.alloc (.cells #[.int .i64 r0, .int .i64 r1] 26))
  clear BY
  have BY := B'
  clear B'
  have B' := Side.mk (Bs.out.alloc (.cells #[.int .i64 r0, .int .i64 r1] 26))
  clear Bs
  have Bs := B'
  clear B'
  have B' := Side.mk (Be.out.alloc (.cells #[.int .i64 r0, .int .i64 r1] 26))
  clear Be
  have Be := B'
  clear B'
  have B' := Side.mk (Bt.out.alloc (.cells #[.int .i64 r0, .int .i64 r1] 26))
  clear Bt
  have Bt := B'
  clear B'
  have B' := Side.mk (Bk.out.alloc (.cells #[.int .i64 r0, .int .i64 r1] 26))
  clear Bk
  have Bk := B'
  clear B'
  have B' := Side.mk (Bp.out.alloc (.cells #[.int .i64 r0, .int .i64 r1] 26))
  clear Bp
  have Bp := B'
  clear B'
  have B' := Side.mk (Bm.out.alloc (.cells #[.int .i64 r0, .int .i64 r1] 26))
  clear Bm
  have Bm := B'
  clear B'
  have HB' := Side.mk (below_alloc2 HB.out (.cells #[.int .i64 r0, .int .i64 r1] 26))
  clear HB
  have HB := HB'
  clear HB'
  have Br : Side (Box2 (w24.alloc (.cells #[.int .i64 r0, .int .i64 r1] 26)) w24.heap.size .i64 r0 r1) := ⟨Box2.new _ _ _ _ _⟩
  obtain ⟨gr, hgr⟩ : ∃ g, g = w24.heap.size := ⟨_, rfl⟩
  rw [← hgr] at Br ⊢
  clear hgr
  generalize (w24.alloc (.cells #[.int .i64 r0, .int .i64 r1] 26)) = w25 at *
  have lm0 := Bm.out.c0
  have lm1 := Bm.out.c1
  have lm2 := Bm.out.lt
  have lr0 := Br.out.c0
  have lr1 := Br.out.c1
  have lr2 := Br.out.lt
  go_wp2_with fail
  with_reducible refine (C13 _).out.mono ?_
  rintro e w26 ⟨rfl, hb⟩
  have HB' := Side.mk (below_then HB.out HB.out.size hb)
  clear HB
  have HB := HB'
  clear HB'
  have B' := Side.mk (Ba.out.below hb)
  clear Ba
  have Ba := B'
  clear B'
  have B' := Side.mk (Bb.out.below hb)
  clear Bb
  have Bb := B'
  clear B'
  have B' := Side.mk (Bc.out.below hb)
  clear Bc
  have Bc := B'
  clear B'
  have B' := Side.mk (Bx.out.below hb)
  clear Bx
  have Bx := B'
  clear B'
  have B' := Side.mk (By.out.below hb)
  clear By
  have By := B'
  clear B'
  have B' := Side.mk (Bz.out.below hb)
  clear Bz
  have Bz := B'
  clear B'
  have B' := Side.mk (BX.out.below hb)
  clear BX
  have BX := B'
  clear B'
  have B' := Side.mk (BY.out.below hb)
  clear BY
  have BY := B'
  clear B'
  have B' := Side.mk (Bs.out.below hb)
  clear Bs
  have Bs := B'
  clear B'
  have B' := Side.mk (Be.out.below hb)
  clear Be
  have Be := B'
  clear B'
  have B' := Side.mk (Bt.out.below hb)
  clear Bt
  have Bt := B'
  clear B'
  have B' := Side.mk (Bk.out.below hb)
  clear Bk
  have Bk := B'
  clear B'
  have B' := Side.mk (Bp.out.below hb)
  clear Bp
  have Bp := B'
  clear B'
  have B' := Side.mk (Bm.out.below hb)
  clear Bm
  have Bm := B'
  clear B'
  have B' := Side.mk (Br.out.below hb)
  clear Br
  have Br := B'
  clear B'
  clear lm0 lm1 lm2 lr0 lr1 lr2
  clear hb
  go_upto_region 18 with (fail)
  have B' := Side.mk (Ba.out.alloc (.cells #[.int .i64 p0, .int .i64 p1] 26))
  clear Ba
  have Ba := B'
  clear B'
  have B' := Side.mk (Bb.out.alloc (.cells #[.int .i64 p0, .int .i64 p1] 26))
  clear Bb
  have Bb := B'
  clear B'
  have B' := Side.mk (Bc.out.alloc (.cells #[.int .i64 p0, .int .i64 p1] 26))
  clear Bc
  have Bc := B'
  clear B'
  have B' := Side.mk (Bx.out.alloc (.cells #[.int .i64 p0, .int .i64 p1] 26))
  clear Bx
  have Bx := B'
  clear B'
  have B' := Side.mk (By.out.alloc (.cells #[.int .i64 p0, .int .i64 p1] 26))
  clear By
  have By := B'
  clear B'
  have B' := Side.mk (Bz.out.alloc (.cells #[.int .i64 p0, .int .i64 p1] 26))
  clear Bz
  have Bz := B'
  clear B'
  have B' := Side.mk (BX.out.alloc (.cells #[.int .i64 p0, .int .i64 p1] 26))
  clear BX
  have BX := B'
  clear B'
  have B' := Side.mk (BY.out.alloc (.cells #[.int .i64 p0, .int .i64 p1] 26))
  clear BY
  have BY := B'
  clear B'
  have B' := Side.mk (Bs.out.alloc (.cells #[.int .i64 p0, .int .i64 p1] 26))
  clear Bs
  have Bs := B'
  clear B'
  have B' := Side.mk (Be.out.alloc (.cells #[.int .i64 p0, .int .i64 p1] 26))
  clear Be
  have Be := B'
  clear B'
  have B' := Side.mk (Bt.out.alloc (.cells #[.int .i64 p0, .int .i64 p1] 26))
  clear Bt
  have Bt := B'
  clear B'
  have B' := Side.mk (Bk.out.alloc (.cells #[.int .i64 p0, .int .i64 p1] 26))
  clear Bk
  have Bk := B'
  clear B'
  have B' := Side.mk (Bp.out.alloc (.cells #[.int .i64 p0, .int .i64 p1] 26))
  clear Bp
  have Bp := B'
  clear B'
  have B' := Side.mk (Bm.out.alloc (.cells #[.int .i64 p0, .int .i64 p1] 26))
  clear Bm
  have Bm := B'
  clear B'
  have B' := Side.mk (Br.out.alloc (.cells #[.int .i64 p0, .int .i64 p1] 26))
  clear Br
  have Br := B'
  clear B'
  have HB' := Side.mk (below_alloc2 HB.out (.cells #[.int .i64 p0, .int .i64 p1] 26))
  clear HB
  have HB := HB'
  clear HB'
  have Bu : Side (Box2 (w26.alloc (.cells #[.int .i64 p0, .int .i64 p1] 26)) w26.heap.size .i64 p0 p1) := ⟨Box2.new _ _ _ _ _⟩
  obtain ⟨gu, hgu⟩ : ∃ g, g = w26.heap.size := ⟨_, rfl⟩
  rw [← hgu] at Bu ⊢
  clear hgu
  generalize (w26.alloc (.cells #[.int .i64 p0, .int .i64 p1] 26)) = w27 at *
  have lx0 := Bx.out.c0
  have lx1 := Bx.out.c1
  have lx2 := Bx.out.lt
  have ly0 := By.out.c0
  have ly1 := By.out.c1
  have ly2 := By.out.lt
  have lX0 := BX.out.c0
  have lX1 := BX.out.c1
  have lX2 := BX.out.lt
  have lY0 := BY.out.c0
  have lY1 := BY.out.c1
  have lY2 := BY.out.lt
  have ls0 := Bs.out.c0
  have ls1 := Bs.out.c1
  have ls2 := Bs.out.lt
  have lt0 := Bt.out.c0
  have lt1 := Bt.out.c1
  have lt2 := Bt.out.lt
  have lk0 := Bk.out.c0
  have lk1 := Bk.out.c1
  have lk2 := Bk.out.lt
  have lp0 := Bp.out.c0
  have lp1 := Bp.out.c1
  have lp2 := Bp.out.lt
  have lu0 := Bu.out.c0
  have lu1 := Bu.out.c1
  have lu2 := Bu.out.lt
  have KS : ∀ W wc : World, Below W.heap.size W wc → (W.cell? ⟨gx, 0, none⟩ = some (.int .i64 x0) ∧ W.cell? ⟨gx, 1, none⟩ = some (.int .i64 x1) ∧ W.cell? ⟨gy, 0, none⟩ = some (.int .i64 y0) ∧ W.cell? ⟨gy, 1, none⟩ = some (.int .i64 y1) ∧ W.cell? ⟨gX, 0, none⟩ = some (.int .i64 d0) ∧ W.cell? ⟨gX, 1, none⟩ = some (.int .i64 d1) ∧ W.cell? ⟨gY, 0, none⟩ = some (.int .i64 d0) ∧ W.cell? ⟨gY, 1, none⟩ = some (.int .i64 d1) ∧ W.cell? ⟨gs, 0, none⟩ = some (.int .i64 s0) ∧ W.cell? ⟨gs, 1, none⟩ = some (.int .i64 s1) ∧ W.cell? ⟨gt, 0, none⟩ = some (.int .i64 s0) ∧ W.cell? ⟨gt, 1, none⟩ = some (.int .i64 s1) ∧ W.cell? ⟨gk, 0, none⟩ = some (.int .i64 x0) ∧ W.cell? ⟨gk, 1, none⟩ = some (.int .i64 x1) ∧ W.cell? ⟨gp, 0, none⟩ = some (.int .i64 p0) ∧ W.cell? ⟨gp, 1, none⟩ = some (.int .i64 p1) ∧ W.cell? ⟨gu, 0, none⟩ = some (.int .i64 p0) ∧ W.cell? ⟨gu, 1, none⟩ = some (.int .i64 p1) ∧ Below w.heap.size w W ∧ gx < W.heap.size ∧ gy < W.heap.size ∧ gX < W.heap.size ∧ gY < W.heap.size ∧ gs < W.heap.size ∧ gt < W.heap.size ∧ gk < W.heap.size ∧ gp < W.heap.size ∧ gu < W.heap.size) → (wc.cell? ⟨gx, 0, none⟩ = some (.int .i64 x0) ∧ wc.cell? ⟨gx, 1, none⟩ = some (.int .i64 x1) ∧ wc.cell? ⟨gy, 0, none⟩ = some (.int .i64 y0) ∧ wc.cell? ⟨gy, 1, none⟩ = some (.int .i64 y1) ∧ wc.cell? ⟨gX, 0, none⟩ = some (.int .i64 d0) ∧ wc.cell? ⟨gX, 1, none⟩ = some (.int .i64 d1) ∧ wc.cell? ⟨gY, 0, none⟩ = some (.int .i64 d0) ∧ wc.cell? ⟨gY, 1, none⟩ = some (.int .i64 d1) ∧ wc.cell? ⟨gs, 0, none⟩ = some (.int .i64 s0) ∧ wc.cell? ⟨gs, 1, none⟩ = some (.int .i64 s1) ∧ wc.cell? ⟨gt, 0, none⟩ = some (.int .i64 s0) ∧ wc.cell? ⟨gt, 1, none⟩ = some (.int .i64 s1) ∧ wc.cell? ⟨gk, 0, none⟩ = some (.int .i64 x0) ∧ wc.cell? ⟨gk, 1, none⟩ = some (.int .i64 x1) ∧ wc.cell? ⟨gp, 0, none⟩ = some (.int .i64 p0) ∧ wc.cell? ⟨gp, 1, none⟩ = some (.int .i64 p1) ∧ wc.cell? ⟨gu, 0, none⟩ = some (.int .i64 p0) ∧ wc.cell? ⟨gu, 1, none⟩ = some (.int .i64 p1) ∧ Below w.heap.size w wc ∧ gx < wc.heap.size ∧ gy < wc.heap.size ∧ gX < wc.heap.size ∧ gY < wc.heap.size ∧ gs < wc.heap.size ∧ gt < wc.heap.size ∧ gk < wc.heap.size ∧ gp < wc.heap.size ∧ gu < wc.heap.size) := by
    intro W wc hbc hS
    obtain ⟨s0, s1, s2, s3, s4, s5, s6, s7, s8, s9, s10, s11, s12, s13, s14, s15, s16, s17, s18, s19, s20, s21, s22, s23, s24, s25, s26, s27⟩ := hS
    have hcc := (bcell hbc).1
    have hzz := hbc.size
    exact ⟨(hcc _ _ s19).trans s0, (hcc _ _ s19).trans s1, (hcc _ _ s20).trans s2, (hcc _ _ s20).trans s3, (hcc _ _ s21).trans s4, (hcc _ _ s21).trans s5, (hcc _ _ s22).trans s6, (hcc _ _ s22).trans s7, (hcc _ _ s23).trans s8, (hcc _ _ s23).trans s9, (hcc _ _ s24).trans s10, (hcc _ _ s24).trans s11, (hcc _ _ s25).trans s12, (hcc _ _ s25).trans s13, (hcc _ _ s26).trans s14, (hcc _ _ s26).trans s15, (hcc _ _ s27).trans s16, (hcc _ _ s27).trans s17, below_then s18 s18.size hbc, Nat.lt_of_lt_of_le s19 hzz, Nat.lt_of_lt_of_le s20 hzz, Nat.lt_of_lt_of_le s21 hzz, Nat.lt_of_lt_of_le s22 hzz, Nat.lt_of_lt_of_le s23 hzz, Nat.lt_of_lt_of_le s24 hzz, Nat.lt_of_lt_of_le s25 hzz, Nat.lt_of_lt_of_le s26 hzz, Nat.lt_of_lt_of_le s27 hzz⟩
  have KS := Side.mk KS
  have KB : Side (∀ W : World, (W.cell? ⟨gx, 0, none⟩ = some (.int .i64 x0) ∧ W.cell? ⟨gx, 1, none⟩ = some (.int .i64 x1) ∧ W.cell? ⟨gy, 0, none⟩ = some (.int .i64 y0) ∧ W.cell? ⟨gy, 1, none⟩ = some (.int .i64 y1) ∧ W.cell? ⟨gX, 0, none⟩ = some (.int .i64 d0) ∧ W.cell? ⟨gX, 1, none⟩ = some (.int .i64 d1) ∧ W.cell? ⟨gY, 0, none⟩ = some (.int .i64 d0) ∧ W.cell? ⟨gY, 1, none⟩ = some (.int .i64 d1) ∧ W.cell? ⟨gs, 0, none⟩ = some (.int .i64 s0) ∧ W.cell? ⟨gs, 1, none⟩ = some (.int .i64 s1) ∧ W.cell? ⟨gt, 0, none⟩ = some (.int .i64 s0) ∧ W.cell? ⟨gt, 1, none⟩ = some (.int .i64 s1) ∧ W.cell? ⟨gk, 0, none⟩ = some (.int .i64 x0) ∧ W.cell? ⟨gk, 1, none⟩ = some (.int .i64 x1) ∧ W.cell? ⟨gp, 0, none⟩ = some (.int .i64 p0) ∧ W.cell? ⟨gp, 1, none⟩ = some (.int .i64 p1) ∧ W.cell? ⟨gu, 0, none⟩ = some (.int .i64 p0) ∧ W.cell? ⟨gu, 1, none⟩ = some (.int .i64 p1) ∧ Below w.heap.size w W ∧ gx < W.heap.size ∧ gy < W.heap.size ∧ gX < W.heap.size ∧ gY < W.heap.size ∧ gs < W.heap.size ∧ gt < W.heap.size ∧ gk < W.heap.size ∧ gp < W.heap.size ∧ gu < W.heap.size) → Below w.heap.size w W) := ⟨fun W hS => by
    obtain ⟨s0, s1, s2, s3, s4, s5, s6, s7, s8, s9, s10, s11, s12, s13, s14, s15, s16, s17, s18, s19, s20, s21, s22, s23, s24, s25, s26, s27⟩ := hS
    exact s18⟩
  go_wp2_with fail
  go_region_held3 (fun w' => w'.cell? ⟨gx, 0, none⟩ = some (.int .i64 x0) ∧ w'.cell? ⟨gx, 1, none⟩ = some (.int .i64 x1) ∧ w'.cell? ⟨gy, 0, none⟩ = some (.int .i64 y0) ∧ w'.cell? ⟨gy, 1, none⟩ = some (.int .i64 y1) ∧ w'.cell? ⟨gX, 0, none⟩ = some (.int .i64 d0) ∧ w'.cell? ⟨gX, 1, none⟩ = some (.int .i64 d1) ∧ w'.cell? ⟨gY, 0, none⟩ = some (.int .i64 d0) ∧ w'.cell? ⟨gY, 1, none⟩ = some (.int .i64 d1) ∧ w'.cell? ⟨gs, 0, none⟩ = some (.int .i64 s0) ∧ w'.cell? ⟨gs, 1, none⟩ = some (.int .i64 s1) ∧ w'.cell? ⟨gt, 0, none⟩ = some (.int .i64 s0) ∧ w'.cell? ⟨gt, 1, none⟩ = some (.int .i64 s1) ∧ w'.cell? ⟨gk, 0, none⟩ = some (.int .i64 x0) ∧ w'.cell? ⟨gk, 1, none⟩ = some (.int .i64 x1) ∧ w'.cell? ⟨gp, 0, none⟩ = some (.int .i64 p0) ∧ w'.cell? ⟨gp, 1, none⟩ = some (.int .i64 p1) ∧ w'.cell? ⟨gu, 0, none⟩ = some (.int .i64 p0) ∧ w'.cell? ⟨gu, 1, none⟩ = some (.int .i64 p1) ∧ Below w.heap.size w w' ∧ gx < w'.heap.size ∧ gy < w'.heap.size ∧ gX < w'.heap.size ∧ gY < w'.heap.size ∧ gs < w'.heap.size ∧ gt < w'.heap.size ∧ gk < w'.heap.size ∧ gp < w'.heap.size ∧ gu < w'.heap.size)
    (first
      | exact KS.out _ _ hbc (by assumption)
      | (refine ⟨?_, ?_, ?_, ?_, ?_, ?_, ?_, ?_, ?_, ?_, ?_, ?_, ?_, ?_, ?_, ?_, ?_, ?_, ?_, ?_, ?_, ?_, ?_, ?_, ?_, ?_, ?_, ?_⟩ <;> first | assumption | (go_simp; done) | (go_simp; assumption) | (simp; done) | (simp; omega) | (repeat (with_reducible first | exact HB.out | apply below_drewN | apply below_drew | apply below_alloc))))
    (first
      | (go_at_call 12; (with_reducible refine (C14 _).out.mono ?_); rintro e wc ⟨rfl, hbc⟩)
      | (go_at_call 12; (with_reducible refine (C15 _).out.mono ?_); rintro e wc ⟨rfl, hbc⟩)
      | (go_at_call 26; (with_reducible refine (C16 _).out.mono ?_); rintro e wc ⟨rfl, hbc⟩)
      | (go_at_call 14; (with_reducible refine (C17 _).out.mono ?_); rintro e wc ⟨rfl, hbc⟩)
      | (go_at_call 13; (with_reducible refine (C18 _).out.mono ?_); rintro e wc ⟨rfl, hbc⟩))
  all_goals
    have hB := KB.out _ (by assumption)
    go_wp2
    go_ret
    exact ⟨rfl, hB⟩
set_option maxHeartbeats 8000000 in
set_option maxRecDepth 100000 in
theorem none_a (a0 a1 b0 b1 c0 c1 : Int) (w : World) (AW : ∀ w, Side (Calls Try.prog 9 #[] w fun r w' => r = .returned (.bool true) ∧ Below w.heap.size w w')) (na : (a1 == 0) = true)
    : Calls Try.prog 8 #[.agg #[.int .i8 a0, .int .i8 a1], .agg #[.int .i8 b0, .int .i8 b1], .agg #[.int .i8 c0, .int .i8 c1]] w fun r w' => r = .returned (.bool true) ∧ Below w.heap.size w w' := by
  go_enter Try.func8, Try.ntmps8
  go_wp2_with fail
  refine (AW _).out.mono ?_
  rintro e w1 ⟨rfl, hb⟩
  have HB : Side (Below w.heap.size w w1) := ⟨below_then (by (repeat (with_reducible first | exact Below.refl _ _ | apply below_drewN | apply below_drew | apply below_alloc))) (by simp <;> omega) hb⟩
  have Ba : Side (Box2 w1 (w.heap.size) .i8 a0 a1) := ⟨Box2.below (w := (((w.alloc (.cells #[.int .i8 a0, .int .i8 a1] 47)).alloc (.cells #[.int .i8 b0, .int .i8 b1] 47)).alloc (.cells #[.int .i8 c0, .int .i8 c1] 47))) ⟨by go_simp, by go_simp, by simp <;> omega⟩ hb⟩
  have Bb : Side (Box2 w1 (w.heap.size + 1) .i8 b0 b1) := ⟨Box2.below (w := (((w.alloc (.cells #[.int .i8 a0, .int .i8 a1] 47)).alloc (.cells #[.int .i8 b0, .int .i8 b1] 47)).alloc (.cells #[.int .i8 c0, .int .i8 c1] 47))) ⟨by go_simp, by go_simp, by simp <;> omega⟩ hb⟩
  have Bc : Side (Box2 w1 (w.heap.size + 1 + 1) .i8 c0 c1) := ⟨Box2.below (w := (((w.alloc (.cells #[.int .i8 a0, .int .i8 a1] 47)).alloc (.cells #[.int .i8 b0, .int .i8 b1] 47)).alloc (.cells #[.int .i8 c0, .int .i8 c1] 47))) ⟨by go_simp, by go_simp, by simp <;> omega⟩ hb⟩
  clear hb
  have la0 := Ba.out.c0
  have la1 := Ba.out.c1
  have la2 := Ba.out.lt
  have lb0 := Bb.out.c0
  have lb1 := Bb.out.c1
  have lb2 := Bb.out.lt
  have lc0 := Bc.out.c0
  have lc1 := Bc.out.c1
  have lc2 := Bc.out.lt
  go_wp2
  go_ret
  exact ⟨rfl, HB.out⟩
set_option maxHeartbeats 8000000 in
set_option maxRecDepth 100000 in
theorem none_b (a0 a1 b0 b1 c0 c1 : Int) (w : World) (AW : ∀ w, Side (Calls Try.prog 9 #[] w fun r w' => r = .returned (.bool true) ∧ Below w.heap.size w w')) (na : (a1 == 0) = false) (nb : (b1 == 0) = true)
    : Calls Try.prog 8 #[.agg #[.int .i8 a0, .int .i8 a1], .agg #[.int .i8 b0, .int .i8 b1], .agg #[.int .i8 c0, .int .i8 c1]] w fun r w' => r = .returned (.bool true) ∧ Below w.heap.size w w' := by
  go_enter Try.func8, Try.ntmps8
  go_wp2_with fail
  refine (AW _).out.mono ?_
  rintro e w1 ⟨rfl, hb⟩
  have HB : Side (Below w.heap.size w w1) := ⟨below_then (by (repeat (with_reducible first | exact Below.refl _ _ | apply below_drewN | apply below_drew | apply below_alloc))) (by simp <;> omega) hb⟩
  have Ba : Side (Box2 w1 (w.heap.size) .i8 a0 a1) := ⟨Box2.below (w := (((w.alloc (.cells #[.int .i8 a0, .int .i8 a1] 47)).alloc (.cells #[.int .i8 b0, .int .i8 b1] 47)).alloc (.cells #[.int .i8 c0, .int .i8 c1] 47))) ⟨by go_simp, by go_simp, by simp <;> omega⟩ hb⟩
  have Bb : Side (Box2 w1 (w.heap.size + 1) .i8 b0 b1) := ⟨Box2.below (w := (((w.alloc (.cells #[.int .i8 a0, .int .i8 a1] 47)).alloc (.cells #[.int .i8 b0, .int .i8 b1] 47)).alloc (.cells #[.int .i8 c0, .int .i8 c1] 47))) ⟨by go_simp, by go_simp, by simp <;> omega⟩ hb⟩
  have Bc : Side (Box2 w1 (w.heap.size + 1 + 1) .i8 c0 c1) := ⟨Box2.below (w := (((w.alloc (.cells #[.int .i8 a0, .int .i8 a1] 47)).alloc (.cells #[.int .i8 b0, .int .i8 b1] 47)).alloc (.cells #[.int .i8 c0, .int .i8 c1] 47))) ⟨by go_simp, by go_simp, by simp <;> omega⟩ hb⟩
  clear hb
  have la0 := Ba.out.c0
  have la1 := Ba.out.c1
  have la2 := Ba.out.lt
  have lb0 := Bb.out.c0
  have lb1 := Bb.out.c1
  have lb2 := Bb.out.lt
  have lc0 := Bc.out.c0
  have lc1 := Bc.out.c1
  have lc2 := Bc.out.lt
  go_wp2
  go_ret
  exact ⟨rfl, HB.out⟩
set_option maxHeartbeats 8000000 in
set_option maxRecDepth 100000 in
theorem none_c (a0 a1 b0 b1 c0 c1 : Int) (w : World) (AW : ∀ w, Side (Calls Try.prog 9 #[] w fun r w' => r = .returned (.bool true) ∧ Below w.heap.size w w')) (na : (a1 == 0) = false) (nb : (b1 == 0) = false) (nc : (c1 == 0) = true)
    : Calls Try.prog 8 #[.agg #[.int .i8 a0, .int .i8 a1], .agg #[.int .i8 b0, .int .i8 b1], .agg #[.int .i8 c0, .int .i8 c1]] w fun r w' => r = .returned (.bool true) ∧ Below w.heap.size w w' := by
  go_enter Try.func8, Try.ntmps8
  go_wp2_with fail
  refine (AW _).out.mono ?_
  rintro e w1 ⟨rfl, hb⟩
  have HB : Side (Below w.heap.size w w1) := ⟨below_then (by (repeat (with_reducible first | exact Below.refl _ _ | apply below_drewN | apply below_drew | apply below_alloc))) (by simp <;> omega) hb⟩
  have Ba : Side (Box2 w1 (w.heap.size) .i8 a0 a1) := ⟨Box2.below (w := (((w.alloc (.cells #[.int .i8 a0, .int .i8 a1] 47)).alloc (.cells #[.int .i8 b0, .int .i8 b1] 47)).alloc (.cells #[.int .i8 c0, .int .i8 c1] 47))) ⟨by go_simp, by go_simp, by simp <;> omega⟩ hb⟩
  have Bb : Side (Box2 w1 (w.heap.size + 1) .i8 b0 b1) := ⟨Box2.below (w := (((w.alloc (.cells #[.int .i8 a0, .int .i8 a1] 47)).alloc (.cells #[.int .i8 b0, .int .i8 b1] 47)).alloc (.cells #[.int .i8 c0, .int .i8 c1] 47))) ⟨by go_simp, by go_simp, by simp <;> omega⟩ hb⟩
  have Bc : Side (Box2 w1 (w.heap.size + 1 + 1) .i8 c0 c1) := ⟨Box2.below (w := (((w.alloc (.cells #[.int .i8 a0, .int .i8 a1] 47)).alloc (.cells #[.int .i8 b0, .int .i8 b1] 47)).alloc (.cells #[.int .i8 c0, .int .i8 c1] 47))) ⟨by go_simp, by go_simp, by simp <;> omega⟩ hb⟩
  clear hb
  have la0 := Ba.out.c0
  have la1 := Ba.out.c1
  have la2 := Ba.out.lt
  have lb0 := Bb.out.c0
  have lb1 := Bb.out.c1
  have lb2 := Bb.out.lt
  have lc0 := Bc.out.c0
  have lc1 := Bc.out.c1
  have lc2 := Bc.out.lt
  go_wp2
  go_ret
  exact ⟨rfl, HB.out⟩
end Go.Proofs.Ytpgecjedifcilaa.RLaws
