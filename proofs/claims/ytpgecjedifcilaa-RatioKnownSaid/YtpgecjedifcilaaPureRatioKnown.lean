/- Package ratio: the plain statement of RatioKnown. No condition. -/
import Derived.Test.YtpgecjedifcilaaRaC
import Derived.Test.YtpgecjedifcilaaPRx10
set_option linter.unusedVariables false
set_option linter.unusedSimpArgs false
namespace Go.Proofs.Ytpgecjedifcilaa.Pure
open Go.RowKit Go.Proofs.Ytpgecjedifcilaa.PR Go.Proofs.Ytpgecjedifcilaa.RaC Go.Proofs.YtpgecjedifcilaaW.PrintWords Go.Proofs.YtpgecjedifcilaaW.PrintLast WhPlain RaPlain
/-- What is made of two sizes, whatever they are. -/
def mk3 (A B : Nat) (s : Bool) : Int × Int × Int :=
  if ((B / Nat.gcd A B : Nat) : Int) > 9223372036854775807 then (0, 0, 14)
  else if s = true then (if ((A / Nat.gcd A B : Nat) : Int) ≤ 9223372036854775808 then (wrap64 (IntKind.u64.wrap (-((A / Nat.gcd A B : Nat) : Int))), wrap64 ((B / Nat.gcd A B : Nat) : Int), 0) else (0, 0, 14))
  else (if ((A / Nat.gcd A B : Nat) : Int) ≤ 9223372036854775807 then (wrap64 ((A / Nat.gcd A B : Nat) : Int), wrap64 ((B / Nat.gcd A B : Nat) : Int), 0) else (0, 0, 14))
theorem made_any (A B k : Nat) (p q : Bool) (hk : B < k) (h1 : 0 < A) (hA : A ≤ 18446744073709551615) (h0 : 0 < B) (hB : B ≤ 18446744073709551615) : ratio_made.f k 0 A p 0 B q = some (mk3 A B (p != q)) := by
  have hg : 0 < Nat.gcd A B := Nat.gcd_pos_of_pos_right _ h0
  have hgl : Nat.gcd A B ≤ B := Nat.gcd_le_right _ h0
  unfold ratio_made.f
  rw [zero_at, rgcd_at A B k p q hk (by omega) (by omega)]
  have hd : decide ((0 : Int) = 0 ∧ (A : Int) = 0) = false := decide_eq_false (by omega)
  rw [hd]
  simp only [Option.bind_some, Bool.false_eq_true, if_false]
  rw [rby_at A _ p false hg (by omega) (by omega), rby_at B _ q false hg (by omega) (by omega)]
  simp only [Option.bind_some, if_true]
  unfold mk3
  split
  · rfl
  · split <;> split <;> rfl
theorem May_no (n d : Int) (hn : I n) (hd : I d) (h : ¬ (0 < d ∧ Int.gcd n d = 1)) (k : Nat) (hk : 9223372036854775808 < k) : ratio_May.f k n d = some false := by
  rw [May_at hn hd k hk, decide_eq_false h]
theorem RatioKnown : evenhandedlaw2_RatioKnown.Pure := by
  obtain ⟨kk, hkk⟩ : ∃ kk : Nat, kk = 18446744073709551694 := ⟨_, rfl⟩
  refine ⟨kk + 1 + 1 + 1 + 1 + 1 + 1, ?_⟩
  have i1 : I 1 := by unfold I; omega
  have i2 : I 2 := by unfold I; omega
  have im : I 9223372036854775807 := by unfold I; omega
  have k0 : 9223372036854775808 < (kk + 1 + 1 + 1 + 1 + 1 + 1) := by omega
  unfold evenhandedlaw2_RatioKnown.f
  rw [rawake (kk + 1 + 1 + 1 + 1 + 1) (by omega)]
  simp only [Option.bind_some, if_true]
  rw [Of_no]
  simp only [Option.bind_some]
  rw [Of_at (n := 0) (d := -7) (by decide) (by decide) (by decide) _ (by simp; omega), show red (if (-7 : Int) < 0 then -0 else 0) (-7 : Int).natAbs = (0, 1) by decide]
  simp only [Option.bind_some]
  have e3 : ratio_Of.f (kk + 1 + 1 + 1 + 1 + 1 + 1) (-9223372036854775808) (-1) = some (0, 0, 14) := by
    unfold ratio_Of.f
    rw [if_neg (by decide), times_small (a := -9223372036854775808) (b := 1) (by unfold I; omega) i1 (by decide), times_small (a := -1) (b := 1) (by unfold I; omega) i1 (by decide)]
    simp only [Option.bind_some]
    rw [show (-9223372036854775808 : Int).natAbs * (1 : Int).natAbs = 9223372036854775808 by decide, show (-1 : Int).natAbs * (1 : Int).natAbs = 1 by decide, made_any 9223372036854775808 1 _ _ _ (by omega) (by decide) (by decide) (by decide) (by decide)]
    decide +kernel
  have e4 : ratio_Of.f (kk + 1 + 1 + 1 + 1 + 1 + 1) (-9223372036854775808) (-2) = some (4611686018427387904, 1, 0) := by
    unfold ratio_Of.f
    rw [if_neg (by decide), times_small (a := -9223372036854775808) (b := 1) (by unfold I; omega) i1 (by decide), times_small (a := -2) (b := 1) (by unfold I; omega) i1 (by decide)]
    simp only [Option.bind_some]
    rw [show (-9223372036854775808 : Int).natAbs * (1 : Int).natAbs = 9223372036854775808 by decide, show (-2 : Int).natAbs * (1 : Int).natAbs = 2 by decide, made_any 9223372036854775808 2 _ _ _ (by omega) (by decide) (by decide) (by decide) (by decide)]
    decide +kernel
  rw [e3]
  simp only [Option.bind_some]
  rw [e4]
  simp only [Option.bind_some]
  have m1 : ratio_May.f (kk + 1 + 1 + 1 + 1 + 1 + 1) 9223372036854775807 1 = some true := by rw [May_at im i1 _ k0]; decide
  have m2 : ratio_May.f (kk + 1 + 1 + 1 + 1 + 1 + 1) 1 1 = some true := by rw [May_at i1 i1 _ k0]; decide
  have m3 : ratio_May.f (kk + 1 + 1 + 1 + 1 + 1 + 1) 1 9223372036854775807 = some true := by rw [May_at i1 im _ k0]; decide
  have m4 : ratio_May.f (kk + 1 + 1 + 1 + 1 + 1 + 1) 2 1 = some true := by rw [May_at i2 i1 _ k0]; decide
  have m5 : ratio_May.f (kk + 1 + 1 + 1 + 1 + 1 + 1) 9223372036854775807 2 = some true := by rw [May_at im i2 _ k0]; decide
  have m6 : ratio_May.f (kk + 1 + 1 + 1 + 1 + 1 + 1) 2 9223372036854775807 = some true := by rw [May_at i2 im _ k0]; decide
  have e5 : ratio_Add.f (kk + 1 + 1 + 1 + 1 + 1 + 1) 9223372036854775807 1 1 1 = some (0, 0, 14) := by
    unfold ratio_Add.f
    rw [m1, m2]
    simp only [Option.bind_some, if_true, Bool.not_true, ratio_Add.j0, Bool.false_eq_true, if_false]
    rw [times_small (a := 9223372036854775807) (b := 1) im i1 (by decide), times_small (a := 1) (b := 1) i1 i1 (by decide)]
    simp only [Option.bind_some]
    rw [show (9223372036854775807 : Int).natAbs * (1 : Int).natAbs = 9223372036854775807 by decide, show (1 : Int).natAbs * (1 : Int).natAbs = 1 by decide]
    obtain ⟨C, r, q1, q2, q3⟩ := plus_at 9223372036854775807 1 (decide ((9223372036854775807 : Int) < 0) != decide ((1 : Int) < 0)) (decide ((1 : Int) < 0) != decide ((1 : Int) < 0)) (by decide)
    rw [q1]
    simp only [Option.bind_some]
    have q4 : sgd r C = 9223372036854775808 := by rw [q2]; decide
    have q5 : C = 9223372036854775808 := by have := sgd_eq q4; rw [this]; rfl
    subst q5
    have q6 : r = false := by cases r with | false => rfl | true => (simp [sgd] at q4)
    subst q6
    rw [made_any 9223372036854775808 1 _ _ _ (by omega) (by decide) (by decide) (by decide) (by decide)]
    decide +kernel
  have e6 : ratio_Sub.f (kk + 1 + 1 + 1 + 1 + 1 + 1) 1 9223372036854775807 1 9223372036854775807 = some (0, 1, 0) := by
    unfold ratio_Sub.f
    rw [m3]
    simp only [Option.bind_some, if_true, Bool.not_true, ratio_Sub.j0, Bool.false_eq_true, if_false]
    rw [times_small (a := 1) (b := 9223372036854775807) i1 im (by decide), times_at (a := 9223372036854775807) (b := 9223372036854775807) im im]
    simp only [Option.bind_some]
    obtain ⟨C, r, q1, q2, q3⟩ := plus_at ((1 : Int).natAbs * (9223372036854775807 : Int).natAbs) ((1 : Int).natAbs * (9223372036854775807 : Int).natAbs) (decide ((1 : Int) < 0) != decide ((9223372036854775807 : Int) < 0)) (!(decide ((1 : Int) < 0) != decide ((9223372036854775807 : Int) < 0))) (by decide)
    rw [q1]
    simp only [Option.bind_some]
    have q4 : sgd r C = 0 := by rw [q2]; decide
    have q5 : C = 0 := sgd_eq q4
    subst q5
    rw [show ((0 : Nat) : Int) = 0 from rfl, made_zero]
    rfl
  have e7 : ratio_Mul.f (kk + 1 + 1 + 1 + 1 + 1 + 1) 9223372036854775807 1 2 1 = some (0, 0, 14) := by
    unfold ratio_Mul.f
    rw [m1, m4]
    simp only [Option.bind_some, if_true, Bool.not_true, ratio_Mul.j0, Bool.false_eq_true, if_false]
    rw [times_small (a := 9223372036854775807) (b := 2) im i2 (by decide), times_small (a := 1) (b := 1) i1 i1 (by decide)]
    simp only [Option.bind_some]
    rw [show (9223372036854775807 : Int).natAbs * (2 : Int).natAbs = 18446744073709551614 by decide, show (1 : Int).natAbs * (1 : Int).natAbs = 1 by decide, made_any 18446744073709551614 1 _ _ _ (by omega) (by decide) (by decide) (by decide) (by decide)]
    decide +kernel
  have e8 : ratio_Mul.f (kk + 1 + 1 + 1 + 1 + 1 + 1) 9223372036854775807 2 2 9223372036854775807 = some (1, 1, 0) := by
    unfold ratio_Mul.f
    rw [m5, m6]
    simp only [Option.bind_some, if_true, Bool.not_true, ratio_Mul.j0, Bool.false_eq_true, if_false]
    rw [times_small (a := 9223372036854775807) (b := 2) im i2 (by decide), times_small (a := 2) (b := 9223372036854775807) i2 im (by decide)]
    simp only [Option.bind_some]
    rw [show (9223372036854775807 : Int).natAbs * (2 : Int).natAbs = 18446744073709551614 by decide, show (2 : Int).natAbs * (9223372036854775807 : Int).natAbs = 18446744073709551614 by decide, made_any 18446744073709551614 18446744073709551614 _ _ _ (by omega) (by decide) (by decide) (by decide) (by decide)]
    decide +kernel
  rw [e5]
  simp only [Option.bind_some]
  rw [e6]
  simp only [Option.bind_some]
  rw [e7]
  simp only [Option.bind_some]
  rw [e8]
  simp only [Option.bind_some]
  have w1 : wrap64 (0 + 1) = 1 := wr (by omega) (by omega)
  have w2 : wrap64 (1 + 1) = 2 := wr (by omega) (by omega)
  have w3 : wrap64 (2 + 1) = 3 := wr (by omega) (by omega)
  have w4 : wrap64 (3 + 1) = 4 := wr (by omega) (by omega)
  have w5 : wrap64 (4 + 1) = 5 := wr (by omega) (by omega)
  have n1 := May_no 0 0 (by unfold I; omega) (by unfold I; omega) (by decide)
  have n2 := May_no 1 0 i1 (by unfold I; omega) (by decide)
  have n3 := May_no 2 4 i2 (by unfold I; omega) (by decide)
  have n4 := May_no 0 2 (by unfold I; omega) i2 (by decide)
  have n5 := May_no 1 (-1) i1 (by unfold I; omega) (by decide)
  have hk1 : 9223372036854775808 < kk := by omega
  have step : ∀ (k : Nat) (x2 x4 x6 x8 x10 x12 x14 x16 : Int) (xs : List S26) (i : Nat) (c1 c2 c3 c4 c5 c6 c7 c8 : Int) (s : S26), xs[i]? = some s → 9223372036854775808 < k → (i : Int) < 100 → ratio_May.f k s.f0 s.f1 = some false →
      evenhandedlaw2_RatioKnown.l0 (k + 1) x2 x4 x6 x8 x10 x12 x14 x16 xs (i : Int) c1 c2 c3 c4 c5 c6 c7 c8 = evenhandedlaw2_RatioKnown.l0 k x2 x4 x6 x8 x10 x12 x14 x16 xs ((i + 1 : Nat) : Int) c1 c2 c3 c4 c5 c6 c7 c8 := by
    intro k x2 x4 x6 x8 x10 x12 x14 x16 xs i c1 c2 c3 c4 c5 c6 c7 c8 s hs hk hi hm
    have hl := (List.getElem?_eq_some_iff.1 hs).1
    rw [evenhandedlaw2_RatioKnown.l0, if_pos (by omega), if_pos (by omega)]
    have hr : rd_T26 xs (i : Int) = s := by unfold rd_T26; rw [show ((i : Int)).toNat = i by omega, List.getD_eq_getElem?_getD, hs]; rfl
    rw [hr, hm]
    simp only [Option.bind_some, Bool.false_eq_true, if_false]
    rw [wr (by omega) (by omega)]
    rfl
  refine (step _ _ _ _ _ _ _ _ _ _ 0 _ _ _ _ _ _ _ _ ⟨0, 0⟩ rfl (by omega) (by omega) (n1 _ (by omega))).trans ?_
  rw [step _ _ _ _ _ _ _ _ _ _ 1 _ _ _ _ _ _ _ _ ⟨1, 0⟩ rfl (by omega) (by omega) (n2 _ (by omega))]
  rw [step _ _ _ _ _ _ _ _ _ _ 2 _ _ _ _ _ _ _ _ ⟨2, 4⟩ rfl (by omega) (by omega) (n3 _ (by omega))]
  rw [step _ _ _ _ _ _ _ _ _ _ 3 _ _ _ _ _ _ _ _ ⟨0, 2⟩ rfl (by omega) (by omega) (n4 _ (by omega))]
  rw [step _ _ _ _ _ _ _ _ _ _ 4 _ _ _ _ _ _ _ _ ⟨1, -1⟩ rfl (by omega) (by omega) (n5 _ (by omega))]
  rw [evenhandedlaw2_RatioKnown.l0, if_neg (by decide), if_pos rfl, if_pos rfl, if_pos (by decide), if_pos rfl, if_pos rfl, if_pos (by decide), if_pos rfl, if_pos rfl, if_pos (by decide), if_pos rfl, if_pos rfl, if_pos (by decide)]
  have f7 : Fr ((-7, 2) : Int × Int) := fr_of (-7) 2 (by decide) (by decide) (by unfold I; omega) (by unfold I; omega)
  obtain ⟨k2, rfl⟩ : ∃ m, kk = m + 1 := ⟨kk - 1, by omega⟩
  have hk2 : 9223372036854775808 < k2 := by omega
  have q1 := Floor_is f7 (by decide) k2 hk2
  have q2 := Ceil_is f7 (by decide) k2 hk2
  simp only at q1 q2
  rw [q1]
  simp only [Option.bind_some]
  rw [if_pos (by decide), q2]
  simp only [Option.bind_some]
  rw [if_pos (by decide)]
  have fa : Fr ((9223372036854775807, 9223372036854775806) : Int × Int) := fr_of _ _ (by decide) (by decide) (by unfold I; omega) (by unfold I; omega)
  have fb : Fr ((9223372036854775806, 9223372036854775805) : Int × Int) := fr_of _ _ (by decide) (by decide) (by unfold I; omega) (by unfold I; omega)
  have q3 := Cmp_at fa fb (k2 + 1) (by omega)
  simp only at q3
  rw [q3]
  decide
end Go.Proofs.Ytpgecjedifcilaa.Pure
