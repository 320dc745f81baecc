/- Package ratio: the contracts that RatioMay calls, of all pairs. No condition. -/
import Derived.Test.YtpgecjedifcilaaRwR
import Derived.Test.YtpgecjedifcilaaRwX
import Derived.Test.YtpgecjedifcilaaKit
set_option linter.unusedVariables false
set_option linter.unusedSimpArgs false
namespace Go.Proofs.Ytpgecjedifcilaa.RwK
open Go.RowKit Go.Proofs.Ytpgecjedifcilaa.Kit Go.Proofs.Ytpgecjedifcilaa.PW Go.Proofs.Ytpgecjedifcilaa.RwC Go.Proofs.Ytpgecjedifcilaa.RwD Go.Proofs.Ytpgecjedifcilaa.RwR WhPlain RaPlain
theorem AwakeC (w : World) : Side (Calls Try.prog 9 #[] w fun r w' => r = .returned (.bool true) ∧ Below w.heap.size w w') :=
  ⟨evenhandedlaw2_awake.calls 100 true w (by decide +kernel)⟩
def K0 : Nat := 2 ^ 126 + 1
theorem K0_gt : Gt K0 := ⟨by unfold K0; omega⟩
theorem K0_big (j : Nat) : 9223372036854775808 < K0 + j := Nat.lt_of_lt_of_le (by decide : 9223372036854775808 < K0) (Nat.le_add_right _ _)
section
variable {a b c d : Int}
theorem may_at (ha : I a) (hb : I b) (j : Nat) : ratio_May.f (K0 + j) a b = some (low1 a b) := RwD.May_at ha hb _ (K0_big j)
theorem MayC (ha : I a) (hb : I b) (w : World) : Side (Calls Try.prog 26 #[.agg #[.int .i64 a, .int .i64 b]] w fun r w' => r = .returned (.bool (low1 a b)) ∧ Below w.heap.size w w') :=
  ⟨ratio_May.calls _ _ _ _ w (may_at ha hb 0)⟩
theorem RefMayC (ha : I a) (hb : I b) (w : World) : Side (Calls Try.prog 25 #[.agg #[.int .i64 a, .int .i64 b]] w fun r w' => r = .returned (.bool (low1 a b)) ∧ Below w.heap.size w w') :=
  ⟨evenhandedref1_RatMay.calls (K0 + 0) _ _ _ w (refmay_at ha hb _ (K0_big 0))⟩
theorem FloorZ (ha : I a) (hb : I b) (h : low1 a b = false) (w : World) : Side (Calls Try.prog 13 #[.agg #[.int .i64 a, .int .i64 b]] w fun r w' => r = .returned (.int .i64 0) ∧ Below w.heap.size w w') :=
  ⟨ratio_Floor.calls (K0 + 1) _ _ _ w (floor_no h (may_at ha hb 1))⟩
theorem CeilZ (ha : I a) (hb : I b) (h : low1 a b = false) (w : World) : Side (Calls Try.prog 14 #[.agg #[.int .i64 a, .int .i64 b]] w fun r w' => r = .returned (.int .i64 0) ∧ Below w.heap.size w w') :=
  ⟨ratio_Ceil.calls (K0 + 1) _ _ _ w (ceil_no h (may_at ha hb 1))⟩
/-- Add, Sub or Mul of a pair: which parts it answers with. -/
abbrev AC (f : Nat) (a b c d n m e : Int) : Prop := ∀ w, Side (Calls Try.prog f #[.agg #[.int .i64 a, .int .i64 b], .agg #[.int .i64 c, .int .i64 d]] w fun r w' => r = .returned (.tuple #[.agg #[.int .i64 n, .int .i64 m], .int .i64 e]) ∧ Below w.heap.size w w')
theorem AddZ (ha : I a) (hb : I b) (hc : I c) (hd : I d) (h : (low1 a b && low1 c d) = false) : AC 11 a b c d 0 0 2 := fun w =>
  ⟨ratio_Add.calls (K0 + 1) _ _ _ _ _ _ _ w (add_no h (may_at ha hb 1) (may_at hc hd 1))⟩
theorem SubZ (ha : I a) (hb : I b) (hc : I c) (hd : I d) (h : (low1 a b && low1 c d) = false) : AC 17 a b c d 0 0 2 := fun w =>
  ⟨ratio_Sub.calls (K0 + 1) _ _ _ _ _ _ _ w (sub_no h (may_at ha hb 1) (may_at hc hd 1))⟩
theorem MulZ (ha : I a) (hb : I b) (hc : I c) (hd : I d) (h : (low1 a b && low1 c d) = false) : AC 18 a b c d 0 0 2 := fun w =>
  ⟨ratio_Mul.calls (K0 + 1) _ _ _ _ _ _ _ w (mul_no h (may_at ha hb 1) (may_at hc hd 1))⟩
theorem CmpZ (ha : I a) (hb : I b) (hc : I c) (hd : I d) (h : (low1 a b && low1 c d) = false) (w : World) : Side (Calls Try.prog 12 #[.agg #[.int .i64 a, .int .i64 b], .agg #[.int .i64 c, .int .i64 d]] w fun r w' => r = .returned (.int .i64 0) ∧ Below w.heap.size w w') :=
  ⟨ratio_Cmp.calls (K0 + 1) _ _ _ _ _ w (cmp_no h (may_at ha hb 1) (may_at hc hd 1))⟩
theorem AddO (ha : I a) (hb : I b) (hc : I c) (hd : I d) (h1 : low1 a b = true) (h2 : low1 c d = true) : ∃ n m e, AC 11 a b c d n m e ∧ (e = 0 ∨ e = 14) := by
  obtain ⟨n, m, e, h, g⟩ := add_at ha hb hc hd K0_gt h1 h2 (may_at ha hb 1) (may_at hc hd 1)
  exact ⟨n, m, e, fun w => ⟨ratio_Add.calls (K0 + 1) _ _ _ _ _ _ _ w h⟩, g⟩
theorem SubO (ha : I a) (hb : I b) (hc : I c) (hd : I d) (h1 : low1 a b = true) (h2 : low1 c d = true) : ∃ n m e, AC 17 a b c d n m e ∧ (e = 0 ∨ e = 14) := by
  obtain ⟨n, m, e, h, g⟩ := sub_at ha hb hc hd K0_gt h1 h2 (may_at ha hb 1) (may_at hc hd 1)
  exact ⟨n, m, e, fun w => ⟨ratio_Sub.calls (K0 + 1) _ _ _ _ _ _ _ w h⟩, g⟩
theorem MulO (ha : I a) (hb : I b) (hc : I c) (hd : I d) (h1 : low1 a b = true) (h2 : low1 c d = true) : ∃ n m e, AC 18 a b c d n m e ∧ (e = 0 ∨ e = 14) := by
  obtain ⟨n, m, e, h, g⟩ := mul_at ha hb hc hd K0_gt h1 h2 (may_at ha hb 1) (may_at hc hd 1)
  exact ⟨n, m, e, fun w => ⟨ratio_Mul.calls (K0 + 1) _ _ _ _ _ _ _ w h⟩, g⟩
theorem CmpO (ha : I a) (hb : I b) (hc : I c) (hd : I d) (h1 : low1 a b = true) (h2 : low1 c d = true) (w : World) : Side (Calls Try.prog 12 #[.agg #[.int .i64 a, .int .i64 b], .agg #[.int .i64 c, .int .i64 d]] w fun r w' => r = .returned (.int .i64 (cmp3 (a * d) (c * b))) ∧ Below w.heap.size w w') :=
  ⟨ratio_Cmp.calls (K0 + 4) _ _ _ _ _ w (cmp_at ha hb hc hd h1 h2 (K0_big 0) (may_at ha hb 4) (may_at hc hd 4))⟩
theorem CrossC (ha : I a) (hb : I b) (hc : I c) (hd : I d) (w : World) : Side (Calls Try.prog 28 #[.int .i64 a, .int .i64 d, .int .i64 c, .int .i64 b] w fun r w' => r = .returned (.int .i64 (cmp3 (a * d) (c * b))) ∧ Below w.heap.size w w') :=
  ⟨RwX.refCross_at ha hd hc hb w⟩
end
end Go.Proofs.Ytpgecjedifcilaa.RwK
