/- Package lag: the walk of LagFluid over contracts that are handed in. No condition beyond them. -/
import Derived.Test.YtiemhmaijiifkaaLaE
set_option linter.unusedVariables false
set_option linter.unusedSimpArgs false
namespace Go.Proofs.Ytiemhmaijiifkaa.LFluid
open Go.RowKit Go.Proofs.Ytiemhmaijiifkaa.Kit Go.Proofs.Ytiemhmaijiifkaa.RaB
structure Box3 (w : World) (g : Nat) (k : IntKind) (a b c : Int) : Prop where
  c0 : w.cell? ⟨g, 0, none⟩ = some (.int k a)
  c1 : w.cell? ⟨g, 1, none⟩ = some (.int k b)
  c2 : w.cell? ⟨g, 2, none⟩ = some (.int k c)
  lt : g < w.heap.size
theorem Box3.below {w w' : World} {g : Nat} {k : IntKind} {a b c : Int} (h : Box3 w g k a b c) (hb : Below w.heap.size w w') : Box3 w' g k a b c :=
  ⟨((bcell hb).1 _ _ h.lt).trans h.c0, ((bcell hb).1 _ _ h.lt).trans h.c1, ((bcell hb).1 _ _ h.lt).trans h.c2, Nat.lt_of_lt_of_le h.lt hb.size⟩
theorem Box3.alloc {w : World} {g : Nat} {k : IntKind} {a b c : Int} (h : Box3 w g k a b c) (o : Obj) : Box3 (w.alloc o) g k a b c := h.below ((Below.refl _ w).alloc (Nat.le_refl _) o)
set_option maxHeartbeats 8000000 in
set_option maxRecDepth 100000 in
theorem none1 (e p n0 n1 n2 : Int) (w : World) (AW : ∀ w, Side (Calls Try.prog 6 #[] w fun r w' => r = .returned (.bool true) ∧ Below w.heap.size w w')) (TM : ∀ w, Side (Calls Try.prog 7 #[.int .i64 e, .int .i64 p] w fun r w' => r = .returned (.bool false) ∧ Still w w')) 
    : Calls Try.prog 3 #[.int .i64 e, .int .i64 p, .agg #[.int .u8 n0, .int .u8 n1, .int .u8 n2]] w fun r w' => r = .returned (.bool true) ∧ Below w.heap.size w w' := by
  go_enter Try.func3, Try.ntmps3
  go_wp2_with fail
  refine (AW _).out.mono ?_
  rintro e w1 ⟨rfl, hb⟩
  have HB : Side (Below w.heap.size w w1) := ⟨below_then (by (repeat (with_reducible first | exact Below.refl _ _ | apply below_drewN | apply below_drew | apply below_alloc))) (by simp <;> omega) hb⟩
  have BN : Side (Box3 w1 w.heap.size .u8 n0 n1 n2) := ⟨Box3.below (w := w.alloc (.cells #[.int .u8 n0, .int .u8 n1, .int .u8 n2] 22)) ⟨by go_simp, by go_simp, by go_simp, by simp <;> omega⟩ hb⟩
  clear hb
  obtain ⟨gn, hgn⟩ : ∃ g, g = w.heap.size := ⟨_, rfl⟩
  rw [← hgn] at BN ⊢
  clear hgn
  go_wp2_with fail
  refine (TM _).out.mono ?_
  rintro e w2 ⟨rfl, nq, rfl⟩
  go_wp2
  go_ret
  exact ⟨rfl, by (repeat (with_reducible first | exact HB.out | apply below_drewN | apply below_drew | apply below_alloc))⟩
set_option maxHeartbeats 8000000 in
set_option maxRecDepth 100000 in
theorem none2 (e p n0 n1 n2 : Int) (w : World) (AW : ∀ w, Side (Calls Try.prog 6 #[] w fun r w' => r = .returned (.bool true) ∧ Below w.heap.size w w')) (TM : ∀ w, Side (Calls Try.prog 7 #[.int .i64 e, .int .i64 p] w fun r w' => r = .returned (.bool true) ∧ Still w w')) (hp : decide (65536 < p) = true)
    : Calls Try.prog 3 #[.int .i64 e, .int .i64 p, .agg #[.int .u8 n0, .int .u8 n1, .int .u8 n2]] w fun r w' => r = .returned (.bool true) ∧ Below w.heap.size w w' := by
  go_enter Try.func3, Try.ntmps3
  go_wp2_with fail
  refine (AW _).out.mono ?_
  rintro e w1 ⟨rfl, hb⟩
  have HB : Side (Below w.heap.size w w1) := ⟨below_then (by (repeat (with_reducible first | exact Below.refl _ _ | apply below_drewN | apply below_drew | apply below_alloc))) (by simp <;> omega) hb⟩
  have BN : Side (Box3 w1 w.heap.size .u8 n0 n1 n2) := ⟨Box3.below (w := w.alloc (.cells #[.int .u8 n0, .int .u8 n1, .int .u8 n2] 22)) ⟨by go_simp, by go_simp, by go_simp, by simp <;> omega⟩ hb⟩
  clear hb
  obtain ⟨gn, hgn⟩ : ∃ g, g = w.heap.size := ⟨_, rfl⟩
  rw [← hgn] at BN ⊢
  clear hgn
  go_wp2_with fail
  refine (TM _).out.mono ?_
  rintro e w2 ⟨rfl, nq, rfl⟩
  go_wp2
  go_ret
  exact ⟨rfl, by (repeat (with_reducible first | exact HB.out | apply below_drewN | apply below_drew | apply below_alloc))⟩
set_option maxHeartbeats 16000000 in
set_option maxRecDepth 100000 in
theorem core (e p n0 n1 n2 a0 a1 b0 b1 d0 d1 q0 q1 : Int) (w : World)
    (AW : ∀ w, Side (Calls Try.prog 6 #[] w fun r w' => r = .returned (.bool true) ∧ Below w.heap.size w w'))
    (TM : ∀ w, Side (Calls Try.prog 7 #[.int .i64 e, .int .i64 p] w fun r w' => r = .returned (.bool true) ∧ Still w w'))
    (C1 : ∀ w, Side (Calls Try.prog 8 #[.int .i64 e, .int .i64 p, .int .i64 n0, .int .i64 (n0 + n1), .agg #[.int .i64 n2, .int .i64 1]] w fun r w' => r = .returned (.tuple #[.agg #[.int .i64 a0, .int .i64 a1], .int .i64 0]) ∧ Below w.heap.size w w'))
    (C2 : ∀ w, Side (Calls Try.prog 8 #[.int .i64 e, .int .i64 p, .int .i64 n0, .int .i64 (n0 + n1), .agg #[.int .i64 (n2 + 1), .int .i64 1]] w fun r w' => r = .returned (.tuple #[.agg #[.int .i64 b0, .int .i64 b1], .int .i64 0]) ∧ Below w.heap.size w w'))
    (C3 : ∀ w, Side (Calls Try.prog 8 #[.int .i64 e, .int .i64 p, .int .i64 n0, .int .i64 (n0 + n1 + 1), .agg #[.int .i64 n2, .int .i64 1]] w fun r w' => r = .returned (.tuple #[.agg #[.int .i64 d0, .int .i64 d1], .int .i64 0]) ∧ Below w.heap.size w w'))
    (C4 : ∀ w, Side (Calls Try.prog 8 #[.int .i64 e, .int .i64 p, .int .i64 n0, .int .i64 (n0 + p), .agg #[.int .i64 e, .int .i64 1]] w fun r w' => r = .returned (.tuple #[.agg #[.int .i64 0, .int .i64 1], .int .i64 0]) ∧ Below w.heap.size w w'))
    (C5 : ∀ w, Side (Calls Try.prog 9 #[.agg #[.int .i64 a0, .int .i64 a1], .agg #[.int .i64 b0, .int .i64 b1]] w fun r w' => r = .returned (.agg #[.int .i64 1, .int .i64 1]) ∧ Below w.heap.size w w'))
    (C6 : ∀ w, Side (Calls Try.prog 9 #[.agg #[.int .i64 d0, .int .i64 d1], .agg #[.int .i64 a0, .int .i64 a1]] w fun r w' => r = .returned (.agg #[.int .i64 q0, .int .i64 q1]) ∧ Below w.heap.size w w'))
    (C7 : ∀ w, Side (Calls Try.prog 10 #[.int .i64 e, .int .i64 p] w fun r w' => r = .returned (.agg #[.int .i64 q0, .int .i64 q1]) ∧ Below w.heap.size w w'))
    (hp : decide (65536 < p) = false) (hp1 : 0 ≤ p) (hp2 : p ≤ 65536) (m0 : 0 ≤ n0) (m0' : n0 ≤ 255) (m1 : 0 ≤ n1) (m1' : n1 ≤ 255) (m2 : 0 ≤ n2) (m2' : n2 ≤ 255)
    : Calls Try.prog 3 #[.int .i64 e, .int .i64 p, .agg #[.int .u8 n0, .int .u8 n1, .int .u8 n2]] w fun r w' => r = .returned (.bool true) ∧ Below w.heap.size w w' := by
  go_enter Try.func3, Try.ntmps3
  go_wp2_with fail
  refine (AW _).out.mono ?_
  rintro e w1 ⟨rfl, hb⟩
  have HB : Side (Below w.heap.size w w1) := ⟨below_then (by (repeat (with_reducible first | exact Below.refl _ _ | apply below_drewN | apply below_drew | apply below_alloc))) (by simp <;> omega) hb⟩
  have BN : Side (Box3 w1 w.heap.size .u8 n0 n1 n2) := ⟨Box3.below (w := w.alloc (.cells #[.int .u8 n0, .int .u8 n1, .int .u8 n2] 22)) ⟨by go_simp, by go_simp, by go_simp, by simp <;> omega⟩ hb⟩
  clear hb
  obtain ⟨gn, hgn⟩ : ∃ g, g = w.heap.size := ⟨_, rfl⟩
  rw [← hgn] at BN ⊢
  clear hgn
  go_wp2_with fail
  refine (TM _).out.mono ?_
  rintro e w2 ⟨rfl, nq, rfl⟩
  have HB2 : Side (Below w.heap.size w (w1.drewN nq)) := ⟨below_drewN HB.out nq⟩
  have BN2 := Side.mk (BN.out.below (below_drewN (Below.refl _ w1) nq))
  generalize w1.drewN nq = w2 at *
  clear HB BN
  have k0 := BN2.out.c0
  have k1 := BN2.out.c1
  have k2 := BN2.out.c2
  have k3 := BN2.out.lt
  have x1 : IntKind.i64.wrap n0 = n0 := IntWalk.i64_in _ (by omega)
  have x2 : IntKind.i64.wrap n1 = n1 := IntWalk.i64_in _ (by omega)
  have x3 : IntKind.i64.wrap (n0 + n1) = n0 + n1 := IntWalk.i64_in _ (by omega)
  have x4 : 0 ≤ n0 + n1 := by omega
  have x5 : n0 + n1 ≤ 510 := by omega
  go_upto_region 5 with (fail)
  go_quiet (fail)
  clear x1 x2 x3
  have HB3 : Side (Below w.heap.size w (w2.drewN nq)) := ⟨below_drewN HB2.out nq⟩
  have BN3 := Side.mk (BN2.out.below (below_drewN (Below.refl _ w2) nq))
  clear k0 k1 k2 k3 HB2 BN2
  generalize w2.drewN nq = w3 at *
  have k0 := BN3.out.c0
  have k1 := BN3.out.c1
  have k2 := BN3.out.c2
  have k3 := BN3.out.lt
  have x1 : IntKind.i64.wrap n2 = n2 := IntWalk.i64_in _ (by omega)
  have x2 : IntKind.i64.wrap (n2 + 1) = n2 + 1 := IntWalk.i64_in _ (by omega)
  have x3 : IntKind.i64.wrap (n0 + n1 + 1) = n0 + n1 + 1 := IntWalk.i64_in _ (by omega)
  have x6 : IntKind.i64.wrap (n0 + p) = n0 + p := IntWalk.i64_in _ (by omega)
  go_upto_region 7 with (fail)
  have Bn := BN3
  clear BN3
  have HB := HB3
  clear HB3
  clear k0 k1 k2 k3 x1
  have B' := Side.mk (Bn.out.alloc (.cells #[.int .i64 n2, .int .i64 1] 26))
  clear Bn
  have Bn := B'
  clear B'
  have HB' := Side.mk (below_alloc2 HB.out (.cells #[.int .i64 n2, .int .i64 1] 26))
  clear HB
  have HB := HB'
  clear HB'
  have Bg : Side (Box2 (w3.alloc (.cells #[.int .i64 n2, .int .i64 1] 26)) w3.heap.size .i64 n2 1) := ⟨Box2.new _ _ _ _ _⟩
  obtain ⟨gg, hgg⟩ : ∃ g, g = w3.heap.size := ⟨_, rfl⟩
  rw [← hgg] at Bg ⊢
  clear hgg
  generalize (w3.alloc (.cells #[.int .i64 n2, .int .i64 1] 26)) = w4 at *
  have ln0 := Bn.out.c0
  have ln1 := Bn.out.c1
  have ln3 := Bn.out.c2
  have ln2 := Bn.out.lt
  have lg0 := Bg.out.c0
  have lg1 := Bg.out.c1
  have lg2 := Bg.out.lt
  go_wp2_with fail
  clear ln0 ln1 ln2 ln3 lg0 lg1 lg2
  with_reducible refine (C1 _).out.mono ?_
  rintro e w5 ⟨rfl, hb⟩
  have HB' := Side.mk (below_then HB.out HB.out.size hb)
  clear HB
  have HB := HB'
  clear HB'
  have B' := Side.mk (Bn.out.below hb)
  clear Bn
  have Bn := B'
  clear B'
  have B' := Side.mk (Bg.out.below hb)
  clear Bg
  have Bg := B'
  clear B'
  clear hb
  go_upto_region 8 with (fail)
  have B' := Side.mk (Bn.out.alloc (.cells #[.int .i64 a0, .int .i64 a1] 26))
  clear Bn
  have Bn := B'
  clear B'
  have B' := Side.mk (Bg.out.alloc (.cells #[.int .i64 a0, .int .i64 a1] 26))
  clear Bg
  have Bg := B'
  clear B'
  have HB' := Side.mk (below_alloc2 HB.out (.cells #[.int .i64 a0, .int .i64 a1] 26))
  clear HB
  have HB := HB'
  clear HB'
  have Ba : Side (Box2 (w5.alloc (.cells #[.int .i64 a0, .int .i64 a1] 26)) w5.heap.size .i64 a0 a1) := ⟨Box2.new _ _ _ _ _⟩
  obtain ⟨ga, hga⟩ : ∃ g, g = w5.heap.size := ⟨_, rfl⟩
  rw [← hga] at Ba ⊢
  clear hga
  generalize (w5.alloc (.cells #[.int .i64 a0, .int .i64 a1] 26)) = w6 at *
  have x1 : IntKind.i64.wrap n2 = n2 := IntWalk.i64_in _ (by omega)
  have ln0 := Bn.out.c0
  have ln1 := Bn.out.c1
  have ln3 := Bn.out.c2
  have ln2 := Bn.out.lt
  have lg0 := Bg.out.c0
  have lg1 := Bg.out.c1
  have lg2 := Bg.out.lt
  have la0 := Ba.out.c0
  have la1 := Ba.out.c1
  have la2 := Ba.out.lt
  go_wp2_with fail
  clear ln0 ln1 ln2 ln3 lg0 lg1 lg2 la0 la1 la2
  with_reducible refine (C2 _).out.mono ?_
  rintro e w7 ⟨rfl, hb⟩
  have HB' := Side.mk (below_then HB.out HB.out.size hb)
  clear HB
  have HB := HB'
  clear HB'
  have B' := Side.mk (Bn.out.below hb)
  clear Bn
  have Bn := B'
  clear B'
  have B' := Side.mk (Bg.out.below hb)
  clear Bg
  have Bg := B'
  clear B'
  have B' := Side.mk (Ba.out.below hb)
  clear Ba
  have Ba := B'
  clear B'
  clear hb
  go_upto_region 9 with (fail)
  have B' := Side.mk (Bn.out.alloc (.cells #[.int .i64 b0, .int .i64 b1] 26))
  clear Bn
  have Bn := B'
  clear B'
  have B' := Side.mk (Bg.out.alloc (.cells #[.int .i64 b0, .int .i64 b1] 26))
  clear Bg
  have Bg := B'
  clear B'
  have B' := Side.mk (Ba.out.alloc (.cells #[.int .i64 b0, .int .i64 b1] 26))
  clear Ba
  have Ba := B'
  clear B'
  have HB' := Side.mk (below_alloc2 HB.out (.cells #[.int .i64 b0, .int .i64 b1] 26))
  clear HB
  have HB := HB'
  clear HB'
  have Bb : Side (Box2 (w7.alloc (.cells #[.int .i64 b0, .int .i64 b1] 26)) w7.heap.size .i64 b0 b1) := ⟨Box2.new _ _ _ _ _⟩
  obtain ⟨gb, hgb⟩ : ∃ g, g = w7.heap.size := ⟨_, rfl⟩
  rw [← hgb] at Bb ⊢
  clear hgb
  generalize (w7.alloc (.cells #[.int .i64 b0, .int .i64 b1] 26)) = w8 at *
  have ln0 := Bn.out.c0
  have ln1 := Bn.out.c1
  have ln3 := Bn.out.c2
  have ln2 := Bn.out.lt
  have lg0 := Bg.out.c0
  have lg1 := Bg.out.c1
  have lg2 := Bg.out.lt
  have la0 := Ba.out.c0
  have la1 := Ba.out.c1
  have la2 := Ba.out.lt
  have lb0 := Bb.out.c0
  have lb1 := Bb.out.c1
  have lb2 := Bb.out.lt
  go_wp2_with fail
  clear ln0 ln1 ln2 ln3 lg0 lg1 lg2 la0 la1 la2 lb0 lb1 lb2
  with_reducible refine (C3 _).out.mono ?_
  rintro e w9 ⟨rfl, hb⟩
  have HB' := Side.mk (below_then HB.out HB.out.size hb)
  clear HB
  have HB := HB'
  clear HB'
  have B' := Side.mk (Bn.out.below hb)
  clear Bn
  have Bn := B'
  clear B'
  have B' := Side.mk (Bg.out.below hb)
  clear Bg
  have Bg := B'
  clear B'
  have B' := Side.mk (Ba.out.below hb)
  clear Ba
  have Ba := B'
  clear B'
  have B' := Side.mk (Bb.out.below hb)
  clear Bb
  have Bb := B'
  clear B'
  clear hb
  go_upto_region 10 with (fail)
  have B' := Side.mk (Bn.out.alloc (.cells #[.int .i64 d0, .int .i64 d1] 26))
  clear Bn
  have Bn := B'
  clear B'
  have B' := Side.mk (Bg.out.alloc (.cells #[.int .i64 d0, .int .i64 d1] 26))
  clear Bg
  have Bg := B'
  clear B'
  have B' := Side.mk (Ba.out.alloc (.cells #[.int .i64 d0, .int .i64 d1] 26))
  clear Ba
  have Ba := B'
  clear B'
  have B' := Side.mk (Bb.out.alloc (.cells #[.int .i64 d0, .int .i64 d1] 26))
  clear Bb
  have Bb := B'
  clear B'
  have HB' := Side.mk (below_alloc2 HB.out (.cells #[.int .i64 d0, .int .i64 d1] 26))
  clear HB
  have HB := HB'
  clear HB'
  have Bd : Side (Box2 (w9.alloc (.cells #[.int .i64 d0, .int .i64 d1] 26)) w9.heap.size .i64 d0 d1) := ⟨Box2.new _ _ _ _ _⟩
  obtain ⟨gd, hgd⟩ : ∃ g, g = w9.heap.size := ⟨_, rfl⟩
  rw [← hgd] at Bd ⊢
  clear hgd
  generalize (w9.alloc (.cells #[.int .i64 d0, .int .i64 d1] 26)) = w10 at *
  have ln0 := Bn.out.c0
  have ln1 := Bn.out.c1
  have ln3 := Bn.out.c2
  have ln2 := Bn.out.lt
  have lg0 := Bg.out.c0
  have lg1 := Bg.out.c1
  have lg2 := Bg.out.lt
  have la0 := Ba.out.c0
  have la1 := Ba.out.c1
  have la2 := Ba.out.lt
  have lb0 := Bb.out.c0
  have lb1 := Bb.out.c1
  have lb2 := Bb.out.lt
  have ld0 := Bd.out.c0
  have ld1 := Bd.out.c1
  have ld2 := Bd.out.lt
  go_wp2_with fail
  clear ln0 ln1 ln2 ln3 lg0 lg1 lg2 la0 la1 la2 lb0 lb1 lb2 ld0 ld1 ld2
  with_reducible refine (C4 _).out.mono ?_
  rintro e w11 ⟨rfl, hb⟩
  have HB' := Side.mk (below_then HB.out HB.out.size hb)
  clear HB
  have HB := HB'
  clear HB'
  have B' := Side.mk (Bn.out.below hb)
  clear Bn
  have Bn := B'
  clear B'
  have B' := Side.mk (Bg.out.below hb)
  clear Bg
  have Bg := B'
  clear B'
  have B' := Side.mk (Ba.out.below hb)
  clear Ba
  have Ba := B'
  clear B'
  have B' := Side.mk (Bb.out.below hb)
  clear Bb
  have Bb := B'
  clear B'
  have B' := Side.mk (Bd.out.below hb)
  clear Bd
  have Bd := B'
  clear B'
  clear hb
  go_upto_region 11 with (fail)
  have B' := Side.mk (Bn.out.alloc (.cells #[.int .i64 0, .int .i64 1] 26))
  clear Bn
  have Bn := B'
  clear B'
  have B' := Side.mk (Bg.out.alloc (.cells #[.int .i64 0, .int .i64 1] 26))
  clear Bg
  have Bg := B'
  clear B'
  have B' := Side.mk (Ba.out.alloc (.cells #[.int .i64 0, .int .i64 1] 26))
  clear Ba
  have Ba := B'
  clear B'
  have B' := Side.mk (Bb.out.alloc (.cells #[.int .i64 0, .int .i64 1] 26))
  clear Bb
  have Bb := B'
  clear B'
  have B' := Side.mk (Bd.out.alloc (.cells #[.int .i64 0, .int .i64 1] 26))
  clear Bd
  have Bd := B'
  clear B'
  have HB' := Side.mk (below_alloc2 HB.out (.cells #[.int .i64 0, .int .i64 1] 26))
  clear HB
  have HB := HB'
  clear HB'
  have Bz : Side (Box2 (w11.alloc (.cells #[.int .i64 0, .int .i64 1] 26)) w11.heap.size .i64 0 1) := ⟨Box2.new _ _ _ _ _⟩
  obtain ⟨gz, hgz⟩ : ∃ g, g = w11.heap.size := ⟨_, rfl⟩
  rw [← hgz] at Bz ⊢
  clear hgz
  generalize (w11.alloc (.cells #[.int .i64 0, .int .i64 1] 26)) = w12 at *
  have ln0 := Bn.out.c0
  have ln1 := Bn.out.c1
  have ln3 := Bn.out.c2
  have ln2 := Bn.out.lt
  have lg0 := Bg.out.c0
  have lg1 := Bg.out.c1
  have lg2 := Bg.out.lt
  have la0 := Ba.out.c0
  have la1 := Ba.out.c1
  have la2 := Ba.out.lt
  have lb0 := Bb.out.c0
  have lb1 := Bb.out.c1
  have lb2 := Bb.out.lt
  have ld0 := Bd.out.c0
  have ld1 := Bd.out.c1
  have ld2 := Bd.out.lt
  have lz0 := Bz.out.c0
  have lz1 := Bz.out.c1
  have lz2 := Bz.out.lt
  go_wp2_with fail
  clear ln0 ln1 ln2 ln3 lg0 lg1 lg2 la0 la1 la2 lb0 lb1 lb2 ld0 ld1 ld2 lz0 lz1 lz2
  with_reducible refine (C5 _).out.mono ?_
  rintro e w13 ⟨rfl, hb⟩
  have HB' := Side.mk (below_then HB.out HB.out.size hb)
  clear HB
  have HB := HB'
  clear HB'
  have B' := Side.mk (Bn.out.below hb)
  clear Bn
  have Bn := B'
  clear B'
  have B' := Side.mk (Bg.out.below hb)
  clear Bg
  have Bg := B'
  clear B'
  have B' := Side.mk (Ba.out.below hb)
  clear Ba
  have Ba := B'
  clear B'
  have B' := Side.mk (Bb.out.below hb)
  clear Bb
  have Bb := B'
  clear B'
  have B' := Side.mk (Bd.out.below hb)
  clear Bd
  have Bd := B'
  clear B'
  have B' := Side.mk (Bz.out.below hb)
  clear Bz
  have Bz := B'
  clear B'
  clear hb
  have ln0 := Bn.out.c0
  have ln1 := Bn.out.c1
  have ln3 := Bn.out.c2
  have ln2 := Bn.out.lt
  have lg0 := Bg.out.c0
  have lg1 := Bg.out.c1
  have lg2 := Bg.out.lt
  have la0 := Ba.out.c0
  have la1 := Ba.out.c1
  have la2 := Ba.out.lt
  have lb0 := Bb.out.c0
  have lb1 := Bb.out.c1
  have lb2 := Bb.out.lt
  have ld0 := Bd.out.c0
  have ld1 := Bd.out.c1
  have ld2 := Bd.out.lt
  have lz0 := Bz.out.c0
  have lz1 := Bz.out.c1
  have lz2 := Bz.out.lt
  go_wp2_with fail
  clear ln0 ln1 ln2 ln3 lg0 lg1 lg2 la0 la1 la2 lb0 lb1 lb2 ld0 ld1 ld2 lz0 lz1 lz2
  with_reducible refine (C6 _).out.mono ?_
  rintro e w14 ⟨rfl, hb⟩
  have HB' := Side.mk (below_then HB.out HB.out.size hb)
  clear HB
  have HB := HB'
  clear HB'
  have B' := Side.mk (Bn.out.below hb)
  clear Bn
  have Bn := B'
  clear B'
  have B' := Side.mk (Bg.out.below hb)
  clear Bg
  have Bg := B'
  clear B'
  have B' := Side.mk (Ba.out.below hb)
  clear Ba
  have Ba := B'
  clear B'
  have B' := Side.mk (Bb.out.below hb)
  clear Bb
  have Bb := B'
  clear B'
  have B' := Side.mk (Bd.out.below hb)
  clear Bd
  have Bd := B'
  clear B'
  have B' := Side.mk (Bz.out.below hb)
  clear Bz
  have Bz := B'
  clear B'
  clear hb
  have ln0 := Bn.out.c0
  have ln1 := Bn.out.c1
  have ln3 := Bn.out.c2
  have ln2 := Bn.out.lt
  have lg0 := Bg.out.c0
  have lg1 := Bg.out.c1
  have lg2 := Bg.out.lt
  have la0 := Ba.out.c0
  have la1 := Ba.out.c1
  have la2 := Ba.out.lt
  have lb0 := Bb.out.c0
  have lb1 := Bb.out.c1
  have lb2 := Bb.out.lt
  have ld0 := Bd.out.c0
  have ld1 := Bd.out.c1
  have ld2 := Bd.out.lt
  have lz0 := Bz.out.c0
  have lz1 := Bz.out.c1
  have lz2 := Bz.out.lt
  go_wp2_with fail
  clear ln0 ln1 ln2 ln3 lg0 lg1 lg2 la0 la1 la2 lb0 lb1 lb2 ld0 ld1 ld2 lz0 lz1 lz2
  with_reducible refine (C7 _).out.mono ?_
  rintro e w15 ⟨rfl, hb⟩
  have HB' := Side.mk (below_then HB.out HB.out.size hb)
  clear HB
  have HB := HB'
  clear HB'
  have B' := Side.mk (Bn.out.below hb)
  clear Bn
  have Bn := B'
  clear B'
  have B' := Side.mk (Bg.out.below hb)
  clear Bg
  have Bg := B'
  clear B'
  have B' := Side.mk (Ba.out.below hb)
  clear Ba
  have Ba := B'
  clear B'
  have B' := Side.mk (Bb.out.below hb)
  clear Bb
  have Bb := B'
  clear B'
  have B' := Side.mk (Bd.out.below hb)
  clear Bd
  have Bd := B'
  clear B'
  have B' := Side.mk (Bz.out.below hb)
  clear Bz
  have Bz := B'
  clear B'
  clear hb
  have ln0 := Bn.out.c0
  have ln1 := Bn.out.c1
  have ln3 := Bn.out.c2
  have ln2 := Bn.out.lt
  have lg0 := Bg.out.c0
  have lg1 := Bg.out.c1
  have lg2 := Bg.out.lt
  have la0 := Ba.out.c0
  have la1 := Ba.out.c1
  have la2 := Ba.out.lt
  have lb0 := Bb.out.c0
  have lb1 := Bb.out.c1
  have lb2 := Bb.out.lt
  have ld0 := Bd.out.c0
  have ld1 := Bd.out.c1
  have ld2 := Bd.out.lt
  have lz0 := Bz.out.c0
  have lz1 := Bz.out.c1
  have lz2 := Bz.out.lt
  go_wp2
  go_ret
  exact ⟨rfl, HB.out⟩
end Go.Proofs.Ytiemhmaijiifkaa.LFluid
