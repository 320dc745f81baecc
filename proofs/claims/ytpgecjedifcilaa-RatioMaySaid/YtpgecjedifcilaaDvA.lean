/- math/bits: Len64, LeadingZeros64 by the shelf's contracts. No condition. -/
import Derived.Test.YtpgecjedifcilaaProg
import Derived.Shelf.Small.Bits
import Derived.Shelf.Strconv.Itoa0
import Derived.Test.YtpgecjedifcilaaKit
set_option linter.unusedVariables false
set_option linter.unusedSimpArgs false
namespace Go.Proofs.Ytpgecjedifcilaa.DvA
open Go.RowKit Go.Shelf Go.Proofs.Ytpgecjedifcilaa.Kit
def ren : Ren := { f := fun x => match x with | 134 => 61 | 129 => 62 | n => n, t := fun x => match x with | 3 => 3 | 4 => 4 | 5 => 5 | 9 => 9 | 46 => 77 | 53 => 50 | n => n, g := fun x => x }
theorem lays129 : Lays.n129 Try.prog ren where
  mixed := Eq.refl true
  f129 := Eq.trans Try.func62 (congrArg some (Eq.refl (Body.n129 ren)))
  t3 := Try.underlying3
  a3 := Try.isAgg3
  z3 := Try.sizeOf3
  v3 := Try.zeroValue3
  t4 := Try.underlying4
  a4 := Try.isAgg4
  z4 := Try.sizeOf4
  v4 := Try.zeroValue4
  t5 := Try.underlying5
  a5 := Try.isAgg5
  z5 := Try.sizeOf5
  v5 := Try.zeroValue5
  t9 := Try.underlying9
  a9 := Try.isAgg9
  z9 := Try.sizeOf9
  v9 := Try.zeroValue9
  t46 := Try.underlying77
  a46 := Try.isAgg77
  z46 := Try.sizeOf77
  v46 := Try.zeroValue77
  t53 := Try.underlying50
  a53 := Try.isAgg50
  z53 := Try.sizeOf50
  v53 := Try.zeroValue50
theorem lays134 : Lays.n134 Try.prog ren where
  mixed := Eq.refl true
  f129 := Eq.trans Try.func62 (congrArg some (Eq.refl (Body.n129 ren)))
  f134 := Eq.trans Try.func61 (congrArg some (Eq.refl (Body.n134 ren)))
  t3 := Try.underlying3
  a3 := Try.isAgg3
  z3 := Try.sizeOf3
  v3 := Try.zeroValue3
  t4 := Try.underlying4
  a4 := Try.isAgg4
  z4 := Try.sizeOf4
  v4 := Try.zeroValue4
  t5 := Try.underlying5
  a5 := Try.isAgg5
  z5 := Try.sizeOf5
  v5 := Try.zeroValue5
  t9 := Try.underlying9
  a9 := Try.isAgg9
  z9 := Try.sizeOf9
  v9 := Try.zeroValue9
  t46 := Try.underlying77
  a46 := Try.isAgg77
  z46 := Try.sizeOf77
  v46 := Try.zeroValue77
  t53 := Try.underlying50
  a53 := Try.isAgg50
  z53 := Try.sizeOf50
  v53 := Try.zeroValue50
/-- How many bits. -/
theorem Len_at (x : Nat) (h : x < 2 ^ 64) (w : World) : Calls Try.prog 62 #[.int .u64 x] w fun e w' => e = .returned (.int .i64 (Lib.bitLen x : Int)) ∧ w' = w := by
  have := Any.bits_Len64 lays129 (x : Int) w (by omega) (by omega)
  rw [Int.toNat_natCast] at this
  exact this
theorem Lead_at (x : Nat) (h : x < 2 ^ 64) (w : World) : Calls Try.prog 61 #[.int .u64 x] w fun e w' => e = .returned (.int .i64 (64 - (Lib.bitLen x : Int))) ∧ w' = w := by
  have := Any.bits_LeadingZeros64 lays134 (x : Int) w (by omega) (by omega)
  rw [Int.toNat_natCast] at this
  exact this
theorem bit_lo : ∀ (f x : Nat), x < 2 ^ f → x < 2 ^ Lib.bitLenAux f x ∧ (0 < x → 2 ^ Lib.bitLenAux f x ≤ 2 * x) ∧ Lib.bitLenAux f x ≤ f := by
  intro f
  induction f with
  | zero => intro x h; simp at h; subst h; simp [Lib.bitLenAux]
  | succ f ih =>
    intro x h
    unfold Lib.bitLenAux
    by_cases h0 : x = 0
    · rw [if_pos h0]; subst h0; simp
    · rw [if_neg h0]
      obtain ⟨i1, i2, i3⟩ := ih (x / 2) (by rw [Nat.pow_succ] at h; omega)
      have e : 2 ^ (1 + Lib.bitLenAux f (x / 2)) = 2 * 2 ^ Lib.bitLenAux f (x / 2) := by rw [Nat.pow_add]
      rw [e]
      refine ⟨by omega, fun _ => ?_, by omega⟩
      by_cases h1 : x / 2 = 0
      · rw [h1]
        have : Lib.bitLenAux f 0 = 0 := by cases f <;> simp [Lib.bitLenAux]
        rw [this]
        omega
      · have := i2 (by omega)
        omega
/-- x lies below the next power, and not below half of it. -/
theorem bit_at (x : Nat) (h : x < 2 ^ 64) : x < 2 ^ Lib.bitLen x ∧ (0 < x → 2 ^ Lib.bitLen x ≤ 2 * x) ∧ Lib.bitLen x ≤ 64 := bit_lo 64 x h
end Go.Proofs.Ytpgecjedifcilaa.DvA
