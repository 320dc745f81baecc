/- The reference's contracts, as RatioReckons calls them. No condition. -/
import Derived.Test.YtpgecjedifcilaaRaR
import Derived.Test.YtpgecjedifcilaaRaX
set_option linter.unusedVariables false
set_option linter.unusedSimpArgs false
namespace Go.Proofs.Ytpgecjedifcilaa.RaT
open Go.RowKit Go.Proofs.Ytpgecjedifcilaa.PR Go.Proofs.Ytpgecjedifcilaa.RaC Go.Proofs.Ytpgecjedifcilaa.RaK Go.Proofs.Ytpgecjedifcilaa.RaR Go.Proofs.Ytpgecjedifcilaa.Kit Go.Proofs.YtpgecjedifcilaaW.PrintWords Go.Proofs.YtpgecjedifcilaaW.PrintLast WhPlain RaPlain
theorem SmallC {a : Int} {r : Bool} (h : evenhandedlaw2_small.f a = some r) (w : World) : Side (Calls Try.prog 15 #[.int .i64 a] w fun r' w' => r' = .returned (.bool r) ∧ Below w.heap.size w w') :=
  ⟨(evenhandedlaw2_small.calls a r w h).mono fun _ _ ⟨h1, h2⟩ => ⟨h1, h2.below⟩⟩
theorem OfZ {n : Int} (w : World) : Side (Calls Try.prog 10 #[.int .i64 n, .int .i64 0] w fun r w' => r = .returned (.tuple #[.agg #[.int .i64 0, .int .i64 0], .int .i64 2]) ∧ Below w.heap.size w w') :=
  ⟨ratio_Of.calls 5 n 0 _ _ _ w (by unfold ratio_Of.f; rw [if_pos rfl])⟩
theorem RefOfC {n d : Int} (hn : n.natAbs ≤ B0) (h0 : d ≠ 0) (hd : d.natAbs ≤ B0) (w : World) :
    Side (Calls Try.prog 16 #[.int .i64 n, .int .i64 d] w fun r w' => r = .returned (.agg #[.int .i64 (q n d).1, .int .i64 (q n d).2]) ∧ Below w.heap.size w w') := by
  refine ⟨evenhandedref1_Of.calls (B0 + 1) _ _ _ _ w ?_⟩
  by_cases h : 0 < d
  · have := refof_at hn h hd (B0 + 1) (by omega)
    have e1 : RaK.sg d n = n := by unfold RaK.sg; rw [if_neg (by omega)]
    have e2 : (d.natAbs : Int) = d := by omega
    unfold q
    rw [e1, e2]
    exact this
  · have h' : d < 0 := by omega
    have hh := refof_at (n := -n) (d := -d) (by omega) (by omega) (by omega) (B0 + 1) (by omega)
    have e1 : RaK.sg d n = -n := by unfold RaK.sg; rw [if_pos h']
    have e2 : (d.natAbs : Int) = -d := by omega
    unfold q
    rw [e1, e2, ← hh]
    unfold evenhandedref1_Of.f
    unfold B0 at hn hd
    rw [if_pos h', if_neg (by omega), RaC.wr (x := -n) (by omega) (by omega), RaC.wr (x := -d) (by omega) (by omega)]
theorem GcdC {a b : Int} (ha : a.natAbs ≤ B0) (hb : b.natAbs ≤ B0) (w : World) : Side (Calls Try.prog 19 #[.int .i64 a, .int .i64 b] w fun r w' => r = .returned (.int .i64 (Int.gcd a b : Int)) ∧ Below w.heap.size w w') :=
  ⟨evenhandedref1_Gcd.calls (B0 + 1) _ _ _ w (refgcd_at ha hb (B0 + 1) (by omega))⟩
theorem PlusC {x y : Int × Int} {b d b' d' : Nat} (hx : Sm x b d) (hy : Sm y b' d') (h1 : b * d' + b' * d ≤ B0) (h2 : d * d' ≤ B0) (l1 : b ≤ B0) (l2 : d ≤ B0) (l3 : b' ≤ B0) (l4 : d' ≤ B0) (w : World) :
    Side (Calls Try.prog 21 #[.agg #[.int .i64 x.1, .int .i64 x.2], .agg #[.int .i64 y.1, .int .i64 y.2]] w fun r w' => r = .returned (.agg #[.int .i64 (add x y).1, .int .i64 (add x y).2]) ∧ Below w.heap.size w w') :=
  ⟨evenhandedref1_Plus.calls _ _ _ _ _ _ _ w (refplus_at hx hy h1 h2 l1 l2 l3 l4 (B0 + 1) (by omega))⟩
theorem MinusC {x y : Int × Int} {b d b' d' : Nat} (hx : Sm x b d) (hy : Sm y b' d') (h1 : b * d' + b' * d ≤ B0) (h2 : d * d' ≤ B0) (l1 : b ≤ B0) (l2 : d ≤ B0) (l3 : b' ≤ B0) (l4 : d' ≤ B0) (w : World) :
    Side (Calls Try.prog 22 #[.agg #[.int .i64 x.1, .int .i64 x.2], .agg #[.int .i64 y.1, .int .i64 y.2]] w fun r w' => r = .returned (.agg #[.int .i64 (sub x y).1, .int .i64 (sub x y).2]) ∧ Below w.heap.size w w') :=
  ⟨evenhandedref1_Minus.calls _ _ _ _ _ _ _ w (refminus_at hx hy h1 h2 l1 l2 l3 l4 (B0 + 1) (by omega))⟩
theorem ediv_is {a b q r : Int} (hb : 0 < b) (h : r + b * q = a) (h0 : 0 ≤ r) (h1 : r < b) : a / b = q := ((Int.ediv_emod_unique hb).2 ⟨h, h0, h1⟩).1
theorem floor_at {a b : Int} (ha : a.natAbs ≤ B0) (hb : 0 < b) (hb' : b.natAbs ≤ B0) : evenhandedref1_Floor.f a b = some (a / b) := by
  have hq := Int.natAbs_ediv_le_natAbs a b
  unfold B0 at ha hb'
  unfold evenhandedref1_Floor.f
  rw [if_neg (by omega)]
  have d2 : decide (b < 0) = false := decide_eq_false (by omega)
  by_cases h : a < 0
  · obtain ⟨n, rfl⟩ : ∃ n, a = -n := ⟨-a, by omega⟩
    have hn : 0 ≤ n := by omega
    have e1 : Int.tdiv (-n) b = -(n / b) := by rw [Int.neg_tdiv, Int.tdiv_eq_ediv_of_nonneg hn]
    have e2 : Int.tmod (-n) b = -(n % b) := by rw [Int.neg_tmod, Int.tmod_eq_emod_of_nonneg hn]
    have e3 := Int.emod_add_mul_ediv n b
    have r0 := Int.emod_nonneg n (by omega : b ≠ 0)
    have r1 := Int.emod_lt_of_pos n hb
    rw [e1, e2]
    generalize n / b = k at *
    generalize n % b = r at *
    have d1 : decide (-n < 0) = true := decide_eq_true h
    by_cases hr : -r = 0
    · rw [if_pos hr]
      have : (-n) / b = -k := ediv_is (r := 0) hb (by rw [Int.mul_neg]; omega) (by omega) (by omega)
      rw [this] at hq ⊢
      exact congrArg some (RaC.wr (by omega) (by omega))
    · rw [if_neg hr, d1, d2, if_pos (by decide)]
      have : (-n) / b = -k - 1 := ediv_is (r := b - r) hb (by rw [Int.mul_sub, Int.mul_neg]; omega) (by omega) (by omega)
      rw [this] at hq ⊢
      have hk : 0 ≤ k := by
        rcases Int.lt_or_le k 0 with hk | hk
        · have : b * k ≤ b * (-1) := Int.mul_le_mul_of_nonneg_left (by omega) (by omega)
          omega
        · exact hk
      rw [RaC.wr (x := -k) (by omega) (by omega)]
      exact congrArg some (RaC.wr (by omega) (by omega))
  · have e1 : Int.tdiv a b = a / b := Int.tdiv_eq_ediv_of_nonneg (by omega)
    have d1 : decide (a < 0) = false := decide_eq_false h
    rw [e1, d1, d2]
    have : wrap64 (a / b) = a / b := RaC.wr (by omega) (by omega)
    rw [this, if_neg (by decide : ¬ (false != false) = true)]
    split <;> rfl
theorem RFloorC {x : Int × Int} (h1 : x.1.natAbs ≤ B0) (h0 : 0 < x.2) (h2 : x.2.natAbs ≤ B0) (w : World) : Side (Calls Try.prog 23 #[.int .i64 x.1, .int .i64 x.2] w fun r w' => r = .returned (.int .i64 (x.1 / x.2)) ∧ Below w.heap.size w w') :=
  ⟨(evenhandedref1_Floor.calls _ _ _ w (floor_at h1 h0 h2)).mono fun _ _ ⟨h1, h2⟩ => ⟨h1, h2.below⟩⟩
theorem RCeilC {x : Int × Int} (h1 : x.1.natAbs ≤ B0) (h0 : 0 < x.2) (h2 : x.2.natAbs ≤ B0) (w : World) : Side (Calls Try.prog 24 #[.int .i64 x.1, .int .i64 x.2] w fun r w' => r = .returned (.int .i64 (-((-x.1) / x.2))) ∧ Below w.heap.size w w') := by
  refine ⟨(evenhandedref1_Ceil.calls _ _ _ w ?_).mono fun _ _ ⟨h1, h2⟩ => ⟨h1, h2.below⟩⟩
  have hf := floor_at (a := -x.1) (b := x.2) (by omega) h0 h2
  have hq := Int.natAbs_ediv_le_natAbs (-x.1) x.2
  unfold B0 at h1 h2
  unfold evenhandedref1_Ceil.f
  rw [RaC.wr (x := -x.1) (by omega) (by omega), hf]
  simp only [Option.bind_some]
  exact congrArg some (RaC.wr (by omega) (by omega))
theorem LessC {x y : Int × Int} (h1 : x.1.natAbs ≤ B0) (h2 : x.2.natAbs ≤ B0) (h3 : y.1.natAbs ≤ B0) (h4 : y.2.natAbs ≤ B0) (l : Bool) (hl : decide (cmp3 (x.1 * y.2) (y.1 * x.2) < 0) = l) (w : World) :
    Side (Calls Try.prog 20 #[.agg #[.int .i64 x.1, .int .i64 x.2], .agg #[.int .i64 y.1, .int .i64 y.2]] w fun r w' => r = .returned (.bool l) ∧ Below w.heap.size w w') := by
  subst hl
  have hi : ∀ {z : Int}, z.natAbs ≤ B0 → I z := fun {z} h => by unfold I; unfold B0 at h; omega
  exact ⟨RaX.Less_at (hi h1) (hi h2) (hi h3) (hi h4) w⟩
end Go.Proofs.Ytpgecjedifcilaa.RaT
