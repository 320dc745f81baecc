/- The reference's product, Cross and Less, walked by hand. No condition but that the numbers are of 64 bits. -/
import Derived.Test.YtpgecjedifcilaaRwC
import Derived.Test.YtpgecjedifcilaaKit
import Derived.Deep.RegionWith
import Derived.Deep.RegionHeld3
import Derived.StillTactics
import Derived.Outline
set_option linter.unusedVariables false
set_option linter.unusedSimpArgs false
namespace Go.Proofs.Ytpgecjedifcilaa.RwX
open Go.RowKit Go.Proofs.Ytpgecjedifcilaa.PW Go.Proofs.Ytpgecjedifcilaa.RwC Go.Proofs.YtpgecjedifcilaaW.PrintWords Go.Proofs.YtpgecjedifcilaaW.PrintLast Go.Proofs.YtpgecjedifcilaaW.PrintMore WhPlain
theorem ret_int {k : IntKind} {a b : Int} (h : a = b) : Ending.returned (.int k a) = .returned (.int k b) := by rw [h]
theorem magnitude_at (a : Int) (w : World) (ha : I a) : Calls Try.prog 52 #[.int .i64 a] w fun e w' => e = .returned (.int .u64 (a.natAbs : Int)) ∧ Drawn0 w w' := by
  have h1 : a < 0 → IntKind.u64.wrap (IntKind.u64.wrap (wrap64 (-(wrap64 (a + 1)))) + 1) = (a.natAbs : Int) := fun h => by
    unfold I at ha
    rw [wr (x := a + 1) (by omega) (by omega), wr (x := -(a + 1)) (by omega) (by omega), wu (x := -(a + 1)) (by omega) (by omega), wu (by omega) (by omega)]; omega
  have h2 : ¬ a < 0 → IntKind.u64.wrap a = (a.natAbs : Int) := fun h => by unfold I at ha; rw [wu (by omega) (by omega)]; omega
  by_cases h : a < 0
  · have H := Aside0.mk (h1 h)
    have hb : decide (a < 0) = true := decide_eq_true h
    clear h1 h2 h
    go_enter Try.func52, Try.ntmps52
    go_wp2
    go_ret
    exact ⟨ret_int H.out, Drawn0.refl w⟩
  · have H := Aside0.mk (h2 h)
    have hb : decide (a < 0) = false := decide_eq_false h
    clear h1 h2 h
    go_enter Try.func52, Try.ntmps52
    go_wp2
    go_ret
    exact ⟨ret_int H.out, Drawn0.refl w⟩
set_option maxHeartbeats 1000000 in
set_option maxRecDepth 100000 in
theorem product_zero (a b : Int) (w : World) (h : (a == 0) = true ∨ ((a == 0) = false ∧ (b == 0) = true)) :
    Calls Try.prog 36 #[.int .i64 a, .int .i64 b] w fun e w' => e = .returned (.agg #[.int .i64 0, .int .u64 0, .int .u64 0]) ∧ Below w.heap.size w w' := by
  rcases h with h | ⟨h, h'⟩
  all_goals
    go_enter Try.func36, Try.ntmps36
    go_wp2
    exact bodyPost_ret (v := .agg #[.int .i64 0, .int .u64 0, .int .u64 0]) (by simp [results, Try.results36, go_sem]) rfl ⟨rfl, (Below.refl _ _).alloc (Nat.le_refl _) _⟩
set_option maxHeartbeats 1000000 in
set_option maxRecDepth 100000 in
theorem product_core (a b : Int) (x y : Nat) (hi lo : Int) (s1 s2 : Bool) (w : World) (ma : ∀ w, Aside0 (Calls Try.prog 52 #[.int .i64 a] w fun e w' => e = .returned (.int .u64 (x : Int)) ∧ Drawn0 w w')) (mb : ∀ w, Aside0 (Calls Try.prog 52 #[.int .i64 b] w fun e w' => e = .returned (.int .u64 (y : Int)) ∧ Drawn0 w w'))
    (hm : Aside0 (bits_Mul64.f x y = some (hi, lo))) (h1 : decide (a < 0) = s1) (h2 : decide (b < 0) = s2) (h3 : (a == 0) = false) (h4 : (b == 0) = false) :
    Calls Try.prog 36 #[.int .i64 a, .int .i64 b] w fun e w' => e = .returned (.agg #[.int .i64 (if (s1 != s2) = true then -1 else 1), .int .u64 hi, .int .u64 lo]) ∧ Below w.heap.size w w' := by
  cases s1 <;> cases s2
  all_goals
    go_enter Try.func36, Try.ntmps36
    go_wp2_with (first
      | (go_at_call 52; (with_reducible refine (ma _).out.mono ?_); rintro e wa ⟨rfl, ⟨na, rfl⟩⟩)
      | (go_at_call 52; (with_reducible refine (mb _).out.mono ?_); rintro e wb ⟨rfl, ⟨nb, rfl⟩⟩)
      | (go_at_call 40; (with_reducible refine (bits_Mul64.calls _ _ hi lo _ hm.out).mono ?_); rintro e wc ⟨rfl, ⟨nc, rfl⟩⟩))
    exact bodyPost_ret (by simp [results, Try.results36, go_sem] <;> rfl) rfl ⟨rfl, by repeat (first | exact Below.refl _ _ | apply pw_below_drewN | apply Below.drew | refine Below.setCell ?_ (by simp) _ | refine Below.alloc ?_ (by simp) _)⟩
theorem prod_sg {a b : Int} (ha : a ≠ 0) (hb : b ≠ 0) : (if (decide (a < 0) != decide (b < 0)) = true then (-1 : Int) else 1) = sg (a * b) := by
  rw [← sg_mul]
  by_cases h1 : a < 0 <;> by_cases h2 : b < 0
  · rw [decide_eq_true h1, decide_eq_true h2, sg_lt h1, sg_lt h2]; rfl
  · rw [decide_eq_true h1, decide_eq_false h2, sg_lt h1, sg_gt (by omega)]; rfl
  · rw [decide_eq_false h1, decide_eq_true h2, sg_gt (by omega), sg_lt h2]; rfl
  · rw [decide_eq_false h1, decide_eq_false h2, sg_gt (by omega), sg_gt (by omega)]; rfl
theorem product_at {a b : Int} (ha : I a) (hb : I b) (w : World) :
    Calls Try.prog 36 #[.int .i64 a, .int .i64 b] w fun e w' => e = .returned (.agg #[.int .i64 (sg (a * b)), .int .u64 (((a * b).natAbs / 18446744073709551616 : Nat) : Int), .int .u64 (((a * b).natAbs % 18446744073709551616 : Nat) : Int)]) ∧ Below w.heap.size w w' := by
  have h1 := ha.abs; have h2 := hb.abs
  have hm := mul64_at a.natAbs b.natAbs (by omega) (by omega)
  by_cases h0 : a = 0 ∨ b = 0
  · have hz : a * b = 0 := by rcases h0 with h | h <;> rw [h] <;> simp
    rw [hz]
    refine product_zero a b w ?_
    by_cases h : a = 0
    · exact .inl (beq_iff_eq.2 h)
    · exact .inr ⟨beq_eq_false_iff_ne.2 h, beq_iff_eq.2 (h0.resolve_left h)⟩
  · have ha0 : a ≠ 0 := fun h => h0 (.inl h)
    have hb0 : b ≠ 0 := fun h => h0 (.inr h)
    rw [Int.natAbs_mul, ← prod_sg ha0 hb0]
    exact product_core a b _ _ _ _ _ _ w (fun w => ⟨magnitude_at a w ha⟩) (fun w => ⟨magnitude_at b w hb⟩) ⟨hm⟩ rfl rfl (beq_eq_false_iff_ne.2 ha0) (beq_eq_false_iff_ne.2 hb0)
set_option maxHeartbeats 4000000 in
set_option maxRecDepth 100000 in
theorem refCross_core (a b c d s t h1 l1 h2 l2 r : Int) (w : World) (pa : ∀ w, Aside0 (Calls Try.prog 36 #[.int .i64 a, .int .i64 b] w fun e w' => e = .returned (.agg #[.int .i64 s, .int .u64 h1, .int .u64 l1]) ∧ Below w.heap.size w w'))
    (pc : ∀ w, Aside0 (Calls Try.prog 36 #[.int .i64 c, .int .i64 d] w fun e w' => e = .returned (.agg #[.int .i64 t, .int .u64 h2, .int .u64 l2]) ∧ Below w.heap.size w w'))
    (hc : ((s == t) = false ∧ (s != t) = true ∧ decide (s < t) = true ∧ Aside0 (r = -1)) ∨ ((s == t) = false ∧ (s != t) = true ∧ decide (s < t) = false ∧ Aside0 (r = 1))
      ∨ ((s == t) = true ∧ (s != t) = false ∧ decide (h1 < h2) = true ∧ Aside0 (r = wrap64 (-1 * s)))
      ∨ ((s == t) = true ∧ (s != t) = false ∧ decide (h1 < h2) = false ∧ (h1 == h2) = false ∧ (h1 != h2) = true ∧ Aside0 (r = wrap64 (1 * s)))
      ∨ ((s == t) = true ∧ (s != t) = false ∧ decide (h1 < h2) = false ∧ (h1 == h2) = true ∧ (h1 != h2) = false ∧ decide (l1 < l2) = true ∧ Aside0 (r = wrap64 (-1 * s)))
      ∨ ((s == t) = true ∧ (s != t) = false ∧ decide (h1 < h2) = false ∧ (h1 == h2) = true ∧ (h1 != h2) = false ∧ decide (l1 < l2) = false ∧ (l1 != l2) = true ∧ Aside0 (r = wrap64 (1 * s)))
      ∨ ((s == t) = true ∧ (s != t) = false ∧ decide (h1 < h2) = false ∧ (h1 == h2) = true ∧ (h1 != h2) = false ∧ decide (l1 < l2) = false ∧ (l1 != l2) = false ∧ Aside0 (r = wrap64 (0 * s)))) :
    Calls Try.prog 28 #[.int .i64 a, .int .i64 b, .int .i64 c, .int .i64 d] w fun e w' => e = .returned (.int .i64 r) ∧ Below w.heap.size w w' := by
  rcases hc with ⟨g0, g1, g2, R⟩ | ⟨g0, g1, g2, R⟩ | ⟨g0, g1, g2, R⟩ | ⟨g0, g1, g2, g3, g4, R⟩ | ⟨g0, g1, g2, g3, g4, g5, R⟩ | ⟨g0, g1, g2, g3, g4, g5, g6, R⟩ | ⟨g0, g1, g2, g3, g4, g5, g6, R⟩
  all_goals
    go_enter Try.func28, Try.ntmps28
    go_wp2_with (first
      | ((with_reducible refine (pa _).out.mono ?_); rintro e w1 ⟨rfl, hb1⟩)
      | ((with_reducible refine (pc _).out.mono ?_); rintro e w2 ⟨rfl, hb2⟩))
    go_ret
    refine ⟨(by first | exact ret_int R.out.symm | (exact ret_int (by rw [R.out, Int.zero_mul, RwC.wr (by omega) (by omega)])) | (exact ret_int (by rw [R.out]; simp))), ?_⟩
    have g1 := hb1.trans (hb2.mono hb1.size)
    have gz := g1.size
    repeat (first | exact g1 | apply pw_below_drewN | apply Below.drew | refine Below.alloc ?_ (by first | omega | (simp; omega)) _)
theorem refCross_at {a b c d : Int} (ha : I a) (hb : I b) (hc : I c) (hd : I d) (w : World) :
    Calls Try.prog 28 #[.int .i64 a, .int .i64 b, .int .i64 c, .int .i64 d] w fun e w' => e = .returned (.int .i64 (cmp3 (a * b) (c * d))) ∧ Below w.heap.size w w' := by
  refine refCross_core a b c d _ _ _ _ _ _ _ w (fun w => ⟨product_at ha hb w⟩) (fun w => ⟨product_at hc hd w⟩) ?_
  generalize a * b = X
  generalize c * d = Y
  by_cases hs : sg X = sg Y
  · have e0 := beq_iff_eq.2 hs
    have e1 : (sg X != sg Y) = false := bne_eq_false_iff_eq.2 hs
    have hx := sg_range X
    have key := cmp3_lex X.natAbs Y.natAbs
    have hsg : sg X ≠ 0 → sg X * cmp3 (X.natAbs : Int) (Y.natAbs : Int) = cmp3 X Y := cmp3_signs hs
    have hz : sg X = 0 → cmp3 X Y = 0 := fun h => by
      have z1 : X = 0 := sg_zero h
      have z2 : Y = 0 := sg_zero (hs ▸ h)
      rw [z1, z2]; exact cmp3_eq rfl
    have fin : ∀ q : Int, cmp3 (X.natAbs : Int) (Y.natAbs : Int) = q → (q = -1 ∨ q = 0 ∨ q = 1) → cmp3 X Y = wrap64 (q * sg X) := fun q hq hq3 => by
      by_cases h0 : sg X = 0
      · rw [hz h0, h0, Int.mul_zero]; exact (RwC.wr (by omega) (by omega)).symm
      · rw [← hsg h0, hq, Int.mul_comm]
        rcases hx with h | h | h <;> rcases hq3 with rfl | rfl | rfl <;> rw [h] <;> exact (RwC.wr (by omega) (by omega)).symm
    generalize X.natAbs = m at *
    generalize Y.natAbs = n at *
    rcases Nat.lt_trichotomy (m / 18446744073709551616) (n / 18446744073709551616) with h | h | h
    · refine .inr (.inr (.inl ⟨e0, e1, decide_eq_true (Int.ofNat_lt.2 h), ⟨fin _ (cmp3_lt (by omega)) (by omega)⟩⟩))
    · have b0 : decide (((m / 18446744073709551616 : Nat) : Int) < ((n / 18446744073709551616 : Nat) : Int)) = false := decide_eq_false (by omega)
      have b1 : (((m / 18446744073709551616 : Nat) : Int) == ((n / 18446744073709551616 : Nat) : Int)) = true := beq_iff_eq.2 (by omega)
      have b2 : (((m / 18446744073709551616 : Nat) : Int) != ((n / 18446744073709551616 : Nat) : Int)) = false := bne_eq_false_iff_eq.2 (by omega)
      rcases Nat.lt_trichotomy (m % 18446744073709551616) (n % 18446744073709551616) with g | g | g
      · exact .inr (.inr (.inr (.inr (.inl ⟨e0, e1, b0, b1, b2, decide_eq_true (Int.ofNat_lt.2 g), ⟨fin _ (cmp3_lt (by omega)) (by omega)⟩⟩))))
      · exact .inr (.inr (.inr (.inr (.inr (.inr ⟨e0, e1, b0, b1, b2, decide_eq_false (by omega), bne_eq_false_iff_eq.2 (by omega), ⟨fin _ (cmp3_eq (by omega)) (by omega)⟩⟩)))))
      · exact .inr (.inr (.inr (.inr (.inr (.inl ⟨e0, e1, b0, b1, b2, decide_eq_false (by omega), bne_iff_ne.2 (by omega), ⟨fin _ (cmp3_gt (by omega)) (by omega)⟩⟩)))))
    · exact .inr (.inr (.inr (.inl ⟨e0, e1, decide_eq_false (by omega), beq_eq_false_iff_ne.2 (by omega), bne_iff_ne.2 (by omega), ⟨fin _ (cmp3_gt (by omega)) (by omega)⟩⟩)))
  · have hc3 := cmp3_sgs hs
    by_cases hl : sg X < sg Y
    · exact .inl ⟨beq_eq_false_iff_ne.2 hs, bne_iff_ne.2 hs, decide_eq_true hl, ⟨by rw [← hc3]; exact cmp3_lt hl⟩⟩
    · exact .inr (.inl ⟨beq_eq_false_iff_ne.2 hs, bne_iff_ne.2 hs, decide_eq_false hl, ⟨by rw [← hc3]; exact cmp3_gt (by omega)⟩⟩)
theorem Less_at {x y : Int × Int} (h1 : I x.1) (h2 : I x.2) (h3 : I y.1) (h4 : I y.2) (w : World) :
    Calls Try.prog 20 #[.agg #[.int .i64 x.1, .int .i64 x.2], .agg #[.int .i64 y.1, .int .i64 y.2]] w fun e w' => e = .returned (.bool (decide (cmp3 (x.1 * y.2) (y.1 * x.2) < 0))) ∧ Below w.heap.size w w' := by
  have C := fun w => Aside0.mk (refCross_at h1 h4 h3 h2 w)
  clear h1 h2 h3 h4
  obtain ⟨a, b⟩ := x
  obtain ⟨c, d⟩ := y
  simp only at C ⊢
  generalize cmp3 (a * d) (c * b) = r at *
  go_enter Try.func20, Try.ntmps20
  go_wp2_with (first | ((with_reducible refine (C _).out.mono ?_); rintro e w1 ⟨rfl, hb⟩))
  go_ret
  exact ⟨rfl, Kit.below_then (by (repeat (with_reducible first | exact Below.refl _ _ | apply Kit.below_drewN | apply Kit.below_drew | apply Kit.below_alloc))) (by simp <;> omega) hb⟩
end Go.Proofs.Ytpgecjedifcilaa.RwX
