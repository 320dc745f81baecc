/- Package ratio: sizes of two words: less, length, up, minus. No condition but their own. -/
import Derived.Test.YtkgafogkeaaniaaDvBzm
import Derived.Test.YtkgafogkeaaniaaKit4zm
import Derived.Laws.Externs
set_option linter.unusedVariables false
set_option linter.unusedSimpArgs false
namespace Go.Proofs.Ytkgafogkeaaniaa.DvC
open Go.RowKit Go.Proofs.Ytkgafogkeaaniaa.Kit Go.Proofs.Ytkgafogkeaaniaa.DvA Go.Proofs.Ytkgafogkeaaniaa.DvB DvPlain
/-- A size of two words, with a sign. -/
abbrev W (h l : Nat) (s : Bool) : Value := .agg #[.int .u64 (h : Int), .int .u64 (l : Int), .bool s]
def nat2 (h l : Nat) : Nat := h * 18446744073709551616 + l
theorem add_run (x y c : Nat) (hc : c ≤ 1) (w : World) :
    (callFunc 55 #[.int .u64 x, .int .u64 y, .int .u64 c]).run Try.prog w = .ok (.value (.tuple #[.int .u64 (((x + y + c) % 18446744073709551616 : Nat) : Int), .int .u64 (((x + y + c) / 18446744073709551616 : Nat) : Int)])) w := by
  rw [run_callFunc_extern Try.func55 (by kernel_rfl) (by kernel_rfl) (by kernel_rfl) (e := add64Entry) (by kernel_rfl), run_add64 x y c (by omega) (by omega) (by omega) (by omega)]
  rfl
/-- The model's entry for Sub64, word for word. -/
def sub64Entry : Array Value → Sem Value := fun args => do
  let (x, y, b) ← Extern.MathBitsCarry.three "Sub64" args
  pure (Extern.MathBitsCarry.pair ((x + Extern.MathBitsCarry.m64 - y - b) % Extern.MathBitsCarry.m64) (if x < y + b then 1 else 0))
theorem sub_run0 (x y b : Nat) (hb : b ≤ 1) (w : World) :
    (sub64Entry #[.int .u64 x, .int .u64 y, .int .u64 b]).run Try.prog w =
      .ok (.tuple #[.int .u64 (((x + 18446744073709551616 - y - b) % 18446744073709551616 : Nat) : Int), .int .u64 ((if x < y + b then 1 else 0 : Nat) : Int)]) w := by
  rcases (show b = 0 ∨ b = 1 by omega) with rfl | rfl <;> rfl
theorem sub_run (x y b : Nat) (hb : b ≤ 1) (w : World) :
    (callFunc 57 #[.int .u64 x, .int .u64 y, .int .u64 b]).run Try.prog w = .ok (.value (.tuple #[.int .u64 (((x + 18446744073709551616 - y - b) % 18446744073709551616 : Nat) : Int), .int .u64 ((if x < y + b then 1 else 0 : Nat) : Int)])) w := by
  rw [run_callFunc_extern Try.func57 (by kernel_rfl) (by kernel_rfl) (by kernel_rfl) (e := sub64Entry) (by kernel_rfl), sub_run0 x y b hb]
  rfl
set_option maxHeartbeats 2000000 in
set_option maxRecDepth 100000 in
theorem less_at (h1 l1 h2 l2 : Nat) (s1 s2 : Bool) (b1 : l1 < 18446744073709551616) (b2 : l2 < 18446744073709551616) (t : Bool) (ht : t = decide (nat2 h1 l1 < nat2 h2 l2)) (w : World) :
    Calls Try.prog 56 #[W h1 l1 s1, W h2 l2 s2] w fun e w' => e = .returned (.bool t) ∧ Below w.heap.size w w' := by
  unfold nat2 at ht
  rcases Nat.lt_trichotomy h1 h2 with c | c | c
  · obtain rfl : t = true := by rw [ht]; exact decide_eq_true (by omega)
    have ci : (h1 : Int) < h2 := by omega
    clear ht
    go_enter Try.func56, Try.ntmps56
    go_wp2_with fail
    go_ret
    exact ⟨rfl, by (repeat (with_reducible first | exact Below.refl _ _ | apply below_alloc))⟩
  · subst c
    by_cases d : l1 < l2
    · obtain rfl : t = true := by rw [ht]; exact decide_eq_true (by omega)
      have di : (l1 : Int) < l2 := by omega
      clear ht
      go_enter Try.func56, Try.ntmps56
      go_wp2_with fail
      go_ret
      exact ⟨rfl, by (repeat (with_reducible first | exact Below.refl _ _ | apply below_alloc))⟩
    · obtain rfl : t = false := by rw [ht]; exact decide_eq_false (by omega)
      have di : ¬ (l1 : Int) < l2 := by omega
      clear ht
      go_enter Try.func56, Try.ntmps56
      go_wp2_with fail
      go_ret
      exact ⟨rfl, by (repeat (with_reducible first | exact Below.refl _ _ | apply below_alloc))⟩
  · obtain rfl : t = false := by rw [ht]; exact decide_eq_false (by omega)
    have ci : ¬ (h1 : Int) < h2 := by omega
    have ce : ((h1 : Int) == h2) = false := by simp; omega
    have cn : ¬ h1 = h2 := by omega
    clear ht
    go_enter Try.func56, Try.ntmps56
    go_wp2_with fail
    go_ret
    exact ⟨rfl, by (repeat (with_reducible first | exact Below.refl _ _ | apply below_alloc))⟩
/-- How many bits a size has. -/
def wlen (h l : Nat) : Nat := if h = 0 then Lib.bitLen l else 64 + Lib.bitLen h
set_option maxRecDepth 100000 in
theorem length_at (h l : Nat) (s : Bool) (b0 : h < 18446744073709551616) (b1 : l < 18446744073709551616) (w : World) :
    Calls Try.prog 63 #[W h l s] w fun e w' => e = .returned (.int .i64 (wlen h l : Int)) ∧ Below w.heap.size w w' := by
  have k1 := (bit_at h (by omega)).2.2
  have k2 := (bit_at l (by omega)).2.2
  by_cases c : h = 0
  · have e : wlen h l = Lib.bitLen l := by unfold wlen; rw [if_pos c]
    rw [e]
    subst c
    go_enter Try.func63, Try.ntmps63
    go_wp2_with fail
    refine (Len_at l (by omega) _).mono ?_
    rintro e w2 ⟨rfl, rfl⟩
    go_wp2
    go_ret
    exact ⟨rfl, by (repeat (with_reducible first | exact Below.refl _ _ | apply below_alloc))⟩
  · have e : wlen h l = 64 + Lib.bitLen h := by unfold wlen; rw [if_neg c]
    rw [e]
    have ce : ((h : Int) == 0) = false := by simp; omega
    have cn : ¬ (h : Int) = 0 := by omega
    have k3 : (Lib.bitLen h : Int) ≤ 64 := by omega
    have k4 : (0 : Int) ≤ (Lib.bitLen h : Int) := by omega
    go_enter Try.func63, Try.ntmps63
    go_wp2_with fail
    refine (Len_at h (by omega) _).mono ?_
    rintro e w2 ⟨rfl, rfl⟩
    go_wp2
    go_ret
    exact ⟨by first | rfl | (simp; done), by (repeat (with_reducible first | exact Below.refl _ _ | apply below_alloc))⟩
end Go.Proofs.Ytkgafogkeaaniaa.DvC
