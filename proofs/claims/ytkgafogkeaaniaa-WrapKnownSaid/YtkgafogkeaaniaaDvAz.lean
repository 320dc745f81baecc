/- math/bits: Len64, LeadingZeros64 by the shelf's contracts. No condition. -/
import Derived.Test.YtkgafogkeaaniaaProg
import Derived.Shelf.Small.Bits
import Derived.Shelf.Strconv.Itoa0
import Derived.Test.YtkgafogkeaaniaaKitz
set_option linter.unusedVariables false
set_option linter.unusedSimpArgs false
namespace Go.Proofs.Ytkgafogkeaaniaa.DvA
open Go.RowKit Go.Shelf Go.Proofs.Ytkgafogkeaaniaa.Kit
def ren : Ren := { f := fun x => match x with | 134 => 67 | 129 => 68 | n => n, t := fun x => match x with | 3 => 3 | 4 => 4 | 5 => 5 | 9 => 9 | 46 => 85 | 53 => 63 | n => n, g := fun x => x }
theorem lays129 : Lays.n129 Try.prog ren where
  mixed := Eq.refl true
  f129 := Eq.trans Try.func68 (congrArg some (Eq.refl (Body.n129 ren)))
  t3 := Try.underlying3
  a3 := Try.isAgg3
  z3 := Try.sizeOf3
  v3 := Try.zeroValue3
  t4 := Try.underlying4
  a4 := Try.isAgg4
  z4 := Try.sizeOf4
  v4 := Try.zeroValue4
  t5 := Try.underlying5
  a5 := Try.isAgg5
  z5 := Try.sizeOf5
  v5 := Try.zeroValue5
  t9 := Try.underlying9
  a9 := Try.isAgg9
  z9 := Try.sizeOf9
  v9 := Try.zeroValue9
  t46 := Try.underlying85
  a46 := Try.isAgg85
  z46 := Try.sizeOf85
  v46 := Try.zeroValue85
  t53 := Try.underlying63
  a53 := Try.isAgg63
  z53 := Try.sizeOf63
  v53 := Try.zeroValue63
theorem lays134 : Lays.n134 Try.prog ren where
  mixed := Eq.refl true
  f129 := Eq.trans Try.func68 (congrArg some (Eq.refl (Body.n129 ren)))
  f134 := Eq.trans Try.func67 (congrArg some (Eq.refl (Body.n134 ren)))
  t3 := Try.underlying3
  a3 := Try.isAgg3
  z3 := Try.sizeOf3
  v3 := Try.zeroValue3
  t4 := Try.underlying4
  a4 := Try.isAgg4
  z4 := Try.sizeOf4
  v4 := Try.zeroValue4
  t5 := Try.underlying5
  a5 := Try.isAgg5
  z5 := Try.sizeOf5
  v5 := Try.zeroValue5
  t9 := Try.underlying9
  a9 := Try.isAgg9
  z9 := Try.sizeOf9
  v9 := Try.zeroValue9
  t46 := Try.underlying85
  a46 := Try.isAgg85
  z46 := Try.sizeOf85
  v46 := Try.zeroValue85
  t53 := Try.underlying63
  a53 := Try.isAgg63
  z53 := Try.sizeOf63
  v53 := Try.zeroValue63
/-- How many bits. -/
theorem Len_at (x : Nat) (h : x < 2 ^ 64) (w : World) : Calls Try.prog 68 #[.int .u64 x] w fun e w' => e = .returned (.int .i64 (Lib.bitLen x : Int)) ∧ w' = w := by
  have := Any.bits_Len64 lays129 (x : Int) w (by omega) (by omega)
  rw [Int.toNat_natCast] at this
  exact this
theorem Lead_at (x : Nat) (h : x < 2 ^ 64) (w : World) : Calls Try.prog 67 #[.int .u64 x] w fun e w' => e = .returned (.int .i64 (64 - (Lib.bitLen x : Int))) ∧ w' = w := by
  have := Any.bits_LeadingZeros64 lays134 (x : Int) w (by omega) (by omega)
  rw [Int.toNat_natCast] at this
  exact this
theorem bit_lo : ∀ (f x : Nat), x < 2 ^ f → x < 2 ^ Lib.bitLenAux f x ∧ (0 < x → 2 ^ Lib.bitLenAux f x ≤ 2 * x) ∧ Lib.bitLenAux f x ≤ f := by
  intro f
  induction f with
  | zero => intro x h; simp at h; subst h; simp [Lib.bitLenAux]
  | succ f ih =>
    intro x h
    unfold Lib.bitLenAux
    by_cases h0 : x = 0
    · rw [if_pos h0]; subst h0; simp
    · rw [if_neg h0]
      obtain ⟨i1, i2, i3⟩ := ih (x / 2) (by rw [Nat.pow_succ] at h; omega)
      have e : 2 ^ (1 + Lib.bitLenAux f (x / 2)) = 2 * 2 ^ Lib.bitLenAux f (x / 2) := by rw [Nat.pow_add]
      rw [e]
      refine ⟨by omega, fun _ => ?_, by omega⟩
      by_cases h1 : x / 2 = 0
      · rw [h1]
        have : Lib.bitLenAux f 0 = 0 := by cases f <;> simp [Lib.bitLenAux]
        rw [this]
        omega
      · have := i2 (by omega)
        omega
/-- x lies below the next power, and not below half of it. -/
theorem bit_at (x : Nat) (h : x < 2 ^ 64) : x < 2 ^ Lib.bitLen x ∧ (0 < x → 2 ^ Lib.bitLen x ≤ 2 * x) ∧ Lib.bitLen x ≤ 64 := bit_lo 64 x h
end Go.Proofs.Ytkgafogkeaaniaa.DvA
