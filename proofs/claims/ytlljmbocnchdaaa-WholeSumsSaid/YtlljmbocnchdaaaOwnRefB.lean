/- The reference's Cross of chapter 1, walked by hand. -/
import Derived.Test.YtlljmbocnchdaaaOwnRefA
set_option linter.unusedVariables false
set_option linter.unusedSimpArgs false
namespace Go.Proofs.Ytlljmbocnchdaaa.OwnRef
open Go.RowKit Go.Proofs.Ytlljmbocnchdaaa.PWholeLaws Go.Proofs.YtlljmbocnchdaaaW.PrintWords Go.Proofs.YtlljmbocnchdaaaW.PrintLast Go.Proofs.YtlljmbocnchdaaaW.PrintMore WhPlain
set_option maxHeartbeats 4000000 in
set_option maxRecDepth 100000 in
theorem refCross_core (a b c d s t h1 l1 h2 l2 r : Int) (w : World) (pa : ∀ w, Aside0 (Calls Try.prog 30 #[.int .i64 a, .int .i64 b] w fun e w' => e = .returned (.agg #[.int .i64 s, .int .u64 h1, .int .u64 l1]) ∧ Below w.heap.size w w'))
    (pc : ∀ w, Aside0 (Calls Try.prog 30 #[.int .i64 c, .int .i64 d] w fun e w' => e = .returned (.agg #[.int .i64 t, .int .u64 h2, .int .u64 l2]) ∧ Below w.heap.size w w'))
    (hc : ((s == t) = false ∧ (s != t) = true ∧ decide (s < t) = true ∧ Aside0 (r = -1)) ∨ ((s == t) = false ∧ (s != t) = true ∧ decide (s < t) = false ∧ Aside0 (r = 1))
      ∨ ((s == t) = true ∧ (s != t) = false ∧ decide (h1 < h2) = true ∧ Aside0 (r = wrap64 (-1 * s)))
      ∨ ((s == t) = true ∧ (s != t) = false ∧ decide (h1 < h2) = false ∧ (h1 == h2) = false ∧ (h1 != h2) = true ∧ Aside0 (r = wrap64 (1 * s)))
      ∨ ((s == t) = true ∧ (s != t) = false ∧ decide (h1 < h2) = false ∧ (h1 == h2) = true ∧ (h1 != h2) = false ∧ decide (l1 < l2) = true ∧ Aside0 (r = wrap64 (-1 * s)))
      ∨ ((s == t) = true ∧ (s != t) = false ∧ decide (h1 < h2) = false ∧ (h1 == h2) = true ∧ (h1 != h2) = false ∧ decide (l1 < l2) = false ∧ (l1 != l2) = true ∧ Aside0 (r = wrap64 (1 * s)))
      ∨ ((s == t) = true ∧ (s != t) = false ∧ decide (h1 < h2) = false ∧ (h1 == h2) = true ∧ (h1 != h2) = false ∧ decide (l1 < l2) = false ∧ (l1 != l2) = false ∧ Aside0 (r = wrap64 (0 * s)))) :
    Calls Try.prog 18 #[.int .i64 a, .int .i64 b, .int .i64 c, .int .i64 d] w fun e w' => e = .returned (.int .i64 r) ∧ Below w.heap.size w w' := by
  rcases hc with ⟨g0, g1, g2, R⟩ | ⟨g0, g1, g2, R⟩ | ⟨g0, g1, g2, R⟩ | ⟨g0, g1, g2, g3, g4, R⟩ | ⟨g0, g1, g2, g3, g4, g5, R⟩ | ⟨g0, g1, g2, g3, g4, g5, g6, R⟩ | ⟨g0, g1, g2, g3, g4, g5, g6, R⟩
  all_goals
    go_enter Try.func18, Try.ntmps18
    go_wp2_with (first
      | ((with_reducible refine (pa _).out.mono ?_); rintro e w1 ⟨rfl, hb1⟩)
      | ((with_reducible refine (pc _).out.mono ?_); rintro e w2 ⟨rfl, hb2⟩))
    go_ret
    refine ⟨(by first | exact ret_int R.out.symm | (exact ret_int (by rw [R.out, Int.zero_mul, OwnRef.wr (by omega) (by omega)])) | (exact ret_int (by rw [R.out]; simp))), ?_⟩
    have g1 := hb1.trans (hb2.mono hb1.size)
    have gz := g1.size
    repeat (first | exact g1 | apply pw_below_drewN | apply Below.drew | refine Below.alloc ?_ (by first | omega | (simp; omega)) _)
theorem refCross_at {a b c d : Int} (ha : I a) (hb : I b) (hc : I c) (hd : I d) (w : World) :
    Calls Try.prog 18 #[.int .i64 a, .int .i64 b, .int .i64 c, .int .i64 d] w fun e w' => e = .returned (.int .i64 (cmp3 (a * b) (c * d))) ∧ Below w.heap.size w w' := by
  refine refCross_core a b c d _ _ _ _ _ _ _ w (fun w => ⟨product_at ha hb w⟩) (fun w => ⟨product_at hc hd w⟩) ?_
  generalize a * b = X
  generalize c * d = Y
  by_cases hs : sg X = sg Y
  · have e0 := beq_iff_eq.2 hs
    have e1 : (sg X != sg Y) = false := bne_eq_false_iff_eq.2 hs
    have hx := sg_range X
    have key := cmp3_lex X.natAbs Y.natAbs
    have hsg : sg X ≠ 0 → sg X * cmp3 (X.natAbs : Int) (Y.natAbs : Int) = cmp3 X Y := cmp3_signs hs
    have hz : sg X = 0 → cmp3 X Y = 0 := fun h => by
      have z1 : X = 0 := sg_zero h
      have z2 : Y = 0 := sg_zero (hs ▸ h)
      rw [z1, z2]; exact cmp3_eq rfl
    have fin : ∀ q : Int, cmp3 (X.natAbs : Int) (Y.natAbs : Int) = q → (q = -1 ∨ q = 0 ∨ q = 1) → cmp3 X Y = wrap64 (q * sg X) := fun q hq hq3 => by
      by_cases h0 : sg X = 0
      · rw [hz h0, h0, Int.mul_zero]; exact (OwnRef.wr (by omega) (by omega)).symm
      · rw [← hsg h0, hq, Int.mul_comm]
        rcases hx with h | h | h <;> rcases hq3 with rfl | rfl | rfl <;> rw [h] <;> exact (OwnRef.wr (by omega) (by omega)).symm
    generalize X.natAbs = m at *
    generalize Y.natAbs = n at *
    rcases Nat.lt_trichotomy (m / 18446744073709551616) (n / 18446744073709551616) with h | h | h
    · refine .inr (.inr (.inl ⟨e0, e1, decide_eq_true (Int.ofNat_lt.2 h), ⟨fin _ (cmp3_lt (by omega)) (by omega)⟩⟩))
    · have b0 : decide (((m / 18446744073709551616 : Nat) : Int) < ((n / 18446744073709551616 : Nat) : Int)) = false := decide_eq_false (by omega)
      have b1 : (((m / 18446744073709551616 : Nat) : Int) == ((n / 18446744073709551616 : Nat) : Int)) = true := beq_iff_eq.2 (by omega)
      have b2 : (((m / 18446744073709551616 : Nat) : Int) != ((n / 18446744073709551616 : Nat) : Int)) = false := bne_eq_false_iff_eq.2 (by omega)
      rcases Nat.lt_trichotomy (m % 18446744073709551616) (n % 18446744073709551616) with g | g | g
      · exact .inr (.inr (.inr (.inr (.inl ⟨e0, e1, b0, b1, b2, decide_eq_true (Int.ofNat_lt.2 g), ⟨fin _ (cmp3_lt (by omega)) (by omega)⟩⟩))))
      · exact .inr (.inr (.inr (.inr (.inr (.inr ⟨e0, e1, b0, b1, b2, decide_eq_false (by omega), bne_eq_false_iff_eq.2 (by omega), ⟨fin _ (cmp3_eq (by omega)) (by omega)⟩⟩)))))
      · exact .inr (.inr (.inr (.inr (.inr (.inl ⟨e0, e1, b0, b1, b2, decide_eq_false (by omega), bne_iff_ne.2 (by omega), ⟨fin _ (cmp3_gt (by omega)) (by omega)⟩⟩)))))
    · exact .inr (.inr (.inr (.inl ⟨e0, e1, decide_eq_false (by omega), beq_eq_false_iff_ne.2 (by omega), bne_iff_ne.2 (by omega), ⟨fin _ (cmp3_gt (by omega)) (by omega)⟩⟩)))
  · have hc3 := cmp3_sgs hs
    by_cases hl : sg X < sg Y
    · exact .inl ⟨beq_eq_false_iff_ne.2 hs, bne_iff_ne.2 hs, decide_eq_true hl, ⟨by rw [← hc3]; exact cmp3_lt hl⟩⟩
    · exact .inr (.inl ⟨beq_eq_false_iff_ne.2 hs, bne_iff_ne.2 hs, decide_eq_false hl, ⟨by rw [← hc3]; exact cmp3_gt (by omega)⟩⟩)
end Go.Proofs.Ytlljmbocnchdaaa.OwnRef
