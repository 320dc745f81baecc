/- cmp.Compare and cmp.Or at int, walked by hand. No condition. -/
import Derived.Test.YtmjgadhknliiaaaKit
import Derived.Test.YtmjgadhknliiaaaProg
import Derived.KernelRfl
import Derived.Deep.LoopGhost
import Derived.Deep.QuietTactic
import Derived.BigQuiet
import Derived.Outline
set_option linter.unusedVariables false
set_option linter.unusedSimpArgs false
namespace Go.Proofs.Ytmjgadhknliiaaa.Cmp
open Go.RowKit Go.Proofs.Ytmjgadhknliiaaa.Kit
def cmp3 (x y : Int) : Int := if x < y then -1 else if y < x then 1 else 0
def or2 (x y : Int) : Int := if x = 0 then y else x
set_option maxRecDepth 100000 in
theorem isNaN_at (x : Int) (w : World) : Calls Try.prog 30 #[.int .i64 x] w fun r w' => r = .returned (.bool false) ∧ w = w' := by
  have R : Side ((x != x) = false) := ⟨bne_self_eq_false x⟩
  go_enter Try.func30, Try.ntmps30
  go_wp2
  go_ret
  exact ⟨by first | rfl | exact ret_bool R.out, rfl⟩
set_option maxRecDepth 100000 in
theorem Compare_at (x y : Int) (w : World) : Calls Try.prog 28 #[.int .i64 x, .int .i64 y] w fun r w' => r = .returned (.int .i64 (cmp3 x y)) ∧ w = w' := by
  have C := fun x w => Side.mk (isNaN_at x w)
  by_cases h1 : x < y
  · have b1 : decide (x < y) = true := decide_eq_true h1
    have R : Side (-1 = cmp3 x y) := ⟨by unfold cmp3; rw [if_pos h1]⟩
    clear h1
    go_enter Try.func28, Try.ntmps28
    go_wp2_with (((with_reducible refine (C _ _).out.mono ?_); rintro r w' ⟨rfl, rfl⟩))
    go_ret
    exact ⟨ret_int R.out, rfl⟩
  · have b1 : decide (x < y) = false := decide_eq_false h1
    by_cases h2 : y < x
    · have b2 : decide (y < x) = true := decide_eq_true h2
      have R : Side (1 = cmp3 x y) := ⟨by unfold cmp3; rw [if_neg h1, if_pos h2]⟩
      clear h1 h2
      go_enter Try.func28, Try.ntmps28
      go_wp2_with (((with_reducible refine (C _ _).out.mono ?_); rintro r w' ⟨rfl, rfl⟩))
      go_ret
      exact ⟨ret_int R.out, rfl⟩
    · have b2 : decide (y < x) = false := decide_eq_false h2
      have R : Side (0 = cmp3 x y) := ⟨by unfold cmp3; rw [if_neg h1, if_neg h2]⟩
      clear h1 h2
      go_enter Try.func28, Try.ntmps28
      go_wp2_with (((with_reducible refine (C _ _).out.mono ?_); rintro r w' ⟨rfl, rfl⟩))
      go_ret
      exact ⟨ret_int R.out, rfl⟩
set_option maxRecDepth 100000 in
theorem Or2_at (g : Nat) (x y : Int) (w : World) (h0 : w.cell? ⟨g, 0, none⟩ = some (.int .i64 x)) (h1 : w.cell? ⟨g, 1, none⟩ = some (.int .i64 y)) :
    Calls Try.prog 27 #[.slice (some ⟨g, 0, none⟩) 2 2] w fun r w' => r = .returned (.int .i64 (or2 x y)) ∧ w = w' := by
  go_enter Try.func27, Try.ntmps27
  go_wp2
  go_loop [5, 8] (fun _ v8 => ∃ k : Nat, v8 = .int .i64 k ∧ Side (k = 0 ∨ (k = 1 ∧ x = 0) ∨ (k = 2 ∧ x = 0 ∧ y = 0))) (fun _ v8 => (2 - intOf v8).toNat)
  case atStart => exact ⟨0, rfl, ⟨.inl rfl⟩⟩
  case round =>
    obtain ⟨k, rfl, HK⟩ := hrel
    rcases HK.out with rfl | ⟨rfl, hx⟩ | ⟨rfl, hx, hy⟩
    · by_cases hx : x = 0
      · have b1 : (x != 0) = false := bne_eq_false_iff_eq.2 hx
        have X := Side.mk hx
        clear hx HK
        go_wp2
        go_round
        case rel => exact ⟨1, rfl, ⟨.inr (.inl ⟨rfl, X.out⟩)⟩⟩
        case measure => decide
      · have b1 : (x != 0) = true := bne_iff_ne.2 hx
        have R : Side (x = or2 x y) := ⟨by unfold or2; rw [if_neg hx]⟩
        clear hx HK
        go_wp2
        go_ret
        exact ⟨ret_int R.out, rfl⟩
    · by_cases hy : y = 0
      · have b1 : (y != 0) = false := bne_eq_false_iff_eq.2 hy
        have X := Side.mk hx
        have Y := Side.mk hy
        clear hx hy HK
        go_wp2
        go_round
        case rel => exact ⟨2, rfl, ⟨.inr (.inr ⟨rfl, X.out, Y.out⟩)⟩⟩
        case measure => decide
      · have b1 : (y != 0) = true := bne_iff_ne.2 hy
        have R : Side (y = or2 x y) := ⟨by unfold or2; rw [if_pos hx]⟩
        clear hx hy HK
        go_wp2
        go_ret
        exact ⟨ret_int R.out, rfl⟩
    · have R : Side (0 = or2 x y) := ⟨by unfold or2; rw [if_pos hx, hy]⟩
      clear hx hy HK
      go_wp2
      go_ret
      exact ⟨ret_int R.out, rfl⟩
end Go.Proofs.Ytmjgadhknliiaaa.Cmp
