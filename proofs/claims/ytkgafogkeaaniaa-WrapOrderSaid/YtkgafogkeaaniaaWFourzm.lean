/- Package ratio: contracts of my own for sums, remainders and quotients of sizes of two words, every one that Go takes, in the printer's form. No condition.; ! ### 56. Four, five, six operations that may come up next, in any order -/
import Derived.Test.YtkgafogkeaaniaaDvHzm
import Derived.Test.YtkgafogkeaaniaaWTabzm
section
set_option linter.unusedVariables false
set_option linter.unusedSimpArgs false
namespace Go.Proofs.Ytkgafogkeaaniaa.PW
open Go.RowKit Go.Proofs.Ytkgafogkeaaniaa.Kit Go.Proofs.Ytkgafogkeaaniaa.DvC Go.Proofs.Ytkgafogkeaaniaa.DvD Go.Proofs.Ytkgafogkeaaniaa.DvE Go.Proofs.Ytkgafogkeaaniaa.DvF Go.Proofs.Ytkgafogkeaaniaa.DvH
/-- Two words. -/
def In2 (h l : Int) : Prop := 0 ≤ h ∧ h < 18446744073709551616 ∧ 0 ≤ l ∧ l < 18446744073709551616
instance (h l : Int) : Decidable (In2 h l) := by unfold In2; exact inferInstance
/-- The size that two words are. -/
def num (h l : Int) : Nat := nat2 h.toNat l.toNat
def hiw (X : Nat) : Int := ((X / 18446744073709551616 : Nat) : Int)
def low (X : Nat) : Int := ((X % 18446744073709551616 : Nat) : Int)
theorem In2.nat {h l : Int} (k : In2 h l) : ∃ a b : Nat, h = a ∧ l = b ∧ a < 18446744073709551616 ∧ b < 18446744073709551616 ∧ num h l = nat2 a b := by
  obtain ⟨k1, k2, k3, k4⟩ := k
  obtain ⟨a, rfl⟩ := Int.eq_ofNat_of_zero_le k1
  obtain ⟨b, rfl⟩ := Int.eq_ofNat_of_zero_le k3
  exact ⟨a, b, rfl, rfl, by omega, by omega, rfl⟩
def ratio_wide_by.f (a0_0 a0_1 : Int) (a0_2 : Bool) (a1_0 a1_1 : Int) (a1_2 : Bool) : Option (Int × Bool) :=
  if In2 a0_0 a0_1 ∧ In2 a1_0 a1_1 ∧ 0 < num a1_0 a1_1 then some (if num a0_0 a0_1 / num a1_0 a1_1 < 18446744073709551616 then (((num a0_0 a0_1 / num a1_0 a1_1 : Nat) : Int), true) else (0, false)) else none
theorem ratio_wide_by.calls (a0_0 a0_1 : Int) (a0_2 : Bool) (a1_0 a1_1 : Int) (a1_2 : Bool) (r1 : Int) (r2 : Bool) (w : World) (h : ratio_wide_by.f a0_0 a0_1 a0_2 a1_0 a1_1 a1_2 = some (r1, r2)) :
    Calls Try.prog 53 #[.agg #[.int .u64 a0_0, .int .u64 a0_1, .bool a0_2], .agg #[.int .u64 a1_0, .int .u64 a1_1, .bool a1_2]] w fun e w' => e = .returned (.tuple #[.int .u64 r1, .bool r2]) ∧ Below w.heap.size w w' := by
  unfold ratio_wide_by.f at h
  split at h
  · rename_i hc
    obtain ⟨c1, c2, c3⟩ := hc
    obtain ⟨x1, x2, rfl, rfl, x3, x4, ex⟩ := c1.nat
    obtain ⟨y1, y2, rfl, rfl, y3, y4, ey⟩ := c2.nat
    rw [ey] at c3 h
    rw [ex] at h
    split at h
    · rename_i hq
      simp only [Option.some.injEq, Prod.mk.injEq] at h
      obtain ⟨rfl, rfl⟩ := h
      have k := by_V (nat2 x1 x2) (nat2 y1 y2) (nat2_lt _ _ x3 x4) (nat2_lt _ _ y3 y4) c3 a0_2 a1_2 hq w
      rw [V_of x1 x2 _ x4, V_of y1 y2 _ y4] at k
      exact k
    · rename_i hq
      simp only [Option.some.injEq, Prod.mk.injEq] at h
      obtain ⟨rfl, rfl⟩ := h
      have k := by_V_no (nat2 x1 x2) (nat2 y1 y2) (nat2_lt _ _ x3 x4) (nat2_lt _ _ y3 y4) c3 a0_2 a1_2 (by omega) w
      rw [V_of x1 x2 _ x4, V_of y1 y2 _ y4] at k
      exact k
  · cases h
def ratio_wide_mod.f (a0_0 a0_1 : Int) (a0_2 : Bool) (a1_0 a1_1 : Int) (a1_2 : Bool) : Option (Int × Int × Bool) :=
  if In2 a0_0 a0_1 ∧ In2 a1_0 a1_1 ∧ 0 < num a1_0 a1_1 then some (hiw (num a0_0 a0_1 % num a1_0 a1_1), low (num a0_0 a0_1 % num a1_0 a1_1), false) else none
theorem ratio_wide_mod.calls (a0_0 a0_1 : Int) (a0_2 : Bool) (a1_0 a1_1 : Int) (a1_2 : Bool) (r1 r2 : Int) (r3 : Bool) (w : World) (h : ratio_wide_mod.f a0_0 a0_1 a0_2 a1_0 a1_1 a1_2 = some (r1, r2, r3)) :
    Calls Try.prog 61 #[.agg #[.int .u64 a0_0, .int .u64 a0_1, .bool a0_2], .agg #[.int .u64 a1_0, .int .u64 a1_1, .bool a1_2]] w fun e w' => e = .returned (.agg #[.int .u64 r1, .int .u64 r2, .bool r3]) ∧ Below w.heap.size w w' := by
  unfold ratio_wide_mod.f at h
  split at h
  · rename_i hc
    obtain ⟨c1, c2, c3⟩ := hc
    obtain ⟨x1, x2, rfl, rfl, x3, x4, ex⟩ := c1.nat
    obtain ⟨y1, y2, rfl, rfl, y3, y4, ey⟩ := c2.nat
    rw [ey] at c3 h
    rw [ex] at h
    simp only [Option.some.injEq, Prod.mk.injEq] at h
    obtain ⟨rfl, rfl, rfl⟩ := h
    have k := mod_V (nat2 x1 x2) (nat2 y1 y2) (nat2_lt _ _ x3 x4) (nat2_lt _ _ y3 y4) c3 a0_2 a1_2 w
    rw [V_of x1 x2 _ x4, V_of y1 y2 _ y4] at k
    exact k
  · cases h
def ratio_wide_plus.f (a0_0 a0_1 : Int) (a0_2 : Bool) (a1_0 a1_1 : Int) (a1_2 : Bool) : Option (Int × Int × Bool) :=
  if In2 a0_0 a0_1 ∧ In2 a1_0 a1_1 ∧ num a0_0 a0_1 + num a1_0 a1_1 < 2 ^ 128 then some (if a0_2 = a1_2 then (hiw (num a0_0 a0_1 + num a1_0 a1_1), low (num a0_0 a0_1 + num a1_0 a1_1), a0_2) else if num a0_0 a0_1 < num a1_0 a1_1 then (hiw (num a1_0 a1_1 - num a0_0 a0_1), low (num a1_0 a1_1 - num a0_0 a0_1), a1_2) else (hiw (num a0_0 a0_1 - num a1_0 a1_1), low (num a0_0 a0_1 - num a1_0 a1_1), a0_2)) else none
theorem ratio_wide_plus.calls (a0_0 a0_1 : Int) (a0_2 : Bool) (a1_0 a1_1 : Int) (a1_2 : Bool) (r1 r2 : Int) (r3 : Bool) (w : World) (h : ratio_wide_plus.f a0_0 a0_1 a0_2 a1_0 a1_1 a1_2 = some (r1, r2, r3)) :
    Calls Try.prog 43 #[.agg #[.int .u64 a0_0, .int .u64 a0_1, .bool a0_2], .agg #[.int .u64 a1_0, .int .u64 a1_1, .bool a1_2]] w fun e w' => e = .returned (.agg #[.int .u64 r1, .int .u64 r2, .bool r3]) ∧ Below w.heap.size w w' := by
  unfold ratio_wide_plus.f at h
  split at h
  · rename_i hc
    obtain ⟨c1, c2, c3⟩ := hc
    obtain ⟨x1, x2, rfl, rfl, x3, x4, ex⟩ := c1.nat
    obtain ⟨y1, y2, rfl, rfl, y3, y4, ey⟩ := c2.nat
    rw [ey, ex] at c3 h
    by_cases hs : a0_2 = a1_2
    · rw [if_pos hs] at h
      simp only [Option.some.injEq, Prod.mk.injEq] at h
      obtain ⟨rfl, rfl, rfl⟩ := h
      subst hs
      exact plus_same x1 x2 y1 y2 a0_2 x3 x4 y3 y4 c3 w
    · rw [if_neg hs] at h
      by_cases hl : nat2 x1 x2 < nat2 y1 y2
      · rw [if_pos hl] at h
        simp only [Option.some.injEq, Prod.mk.injEq] at h
        obtain ⟨rfl, rfl, rfl⟩ := h
        exact plus_diff x1 x2 y1 y2 a0_2 a1_2 hs x3 x4 y3 y4 _ (fun _ => rfl) (fun hn => absurd hl hn) w
      · rw [if_neg hl] at h
        simp only [Option.some.injEq, Prod.mk.injEq] at h
        obtain ⟨rfl, rfl, rfl⟩ := h
        exact plus_diff x1 x2 y1 y2 a0_2 a1_2 hs x3 x4 y3 y4 _ (fun hn => absurd hn hl) (fun _ => rfl) w
  · cases h
end Go.Proofs.Ytkgafogkeaaniaa.PW
end
section
-- PRINTED BY print.sh 35421559b90ae4d0a3588c463048766b98c2df88dd9212a6774a882060cdf62d: not written by this session
/-! ### 56. Four, five, six operations that may come up next, in any order -/
namespace Go.Proofs.YtkgafogkeaaniaaW.PrintLast
section
variable {P : Program} {ops : Array Oper} {Q : Exit → Act → World → Prop} {md : Region.Mode} {S : World → Prop} {ds : List Nat} {T : Bool × List (List Nat × List Nat)}
end
end Go.Proofs.YtkgafogkeaaniaaW.PrintLast
end
