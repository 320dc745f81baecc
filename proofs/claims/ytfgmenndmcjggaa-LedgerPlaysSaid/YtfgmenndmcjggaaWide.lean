/- Package ratio: contracts of my own for sums, remainders and quotients of sizes below 2^64 (their functions reach library functions with no body, or a library variable, which the printer does not tell), in the printer's form. No condition. -/
import Derived.Test.YtfgmenndmcjggaaProg
import Derived.Test.YtfgmenndmcjggaaKit
import Derived.Test.YtfgmenndmcjggaaWWords
import Derived.Laws.Externs
import Derived.Deep.QuietTactic
import Derived.BigQuiet
set_option linter.unusedVariables false
set_option linter.unusedSimpArgs false
namespace Go.Proofs.Ytfgmenndmcjggaa.PR
open Go.RowKit Go.Proofs.Ytfgmenndmcjggaa.Kit
theorem add_run (x y c : Int) (hx : 0 ≤ x) (hy : 0 ≤ y) (hc0 : 0 ≤ c) (hc : c ≤ 1) (w : World) :
    (callFunc 42 #[.int .u64 x, .int .u64 y, .int .u64 c]).run Try.prog w = .ok (.value (.tuple #[.int .u64 ((x + y + c) % 18446744073709551616), .int .u64 ((x + y + c) / 18446744073709551616)])) w := by
  rw [run_callFunc_extern Try.func42 (by kernel_rfl) (by kernel_rfl) (by kernel_rfl) (e := add64Entry) (by kernel_rfl), run_add64 x y c hx hy hc0 hc]
  rfl
/-- The model's entry for Sub64, word for word. -/
def sub64Entry : Array Value → Sem Value := fun args => do
  let (x, y, b) ← Extern.MathBitsCarry.three "Sub64" args
  pure (Extern.MathBitsCarry.pair ((x + Extern.MathBitsCarry.m64 - y - b) % Extern.MathBitsCarry.m64) (if x < y + b then 1 else 0))
theorem sub_run0 (x y : Nat) (w : World) :
    (sub64Entry #[.int .u64 x, .int .u64 y, .int .u64 0]).run Try.prog w =
      .ok (.tuple #[.int .u64 (((x + 18446744073709551616 - y - 0) % 18446744073709551616 : Nat) : Int), .int .u64 ((if x < y + 0 then 1 else 0 : Nat) : Int)]) w := by rfl
theorem sub_run (x y : Int) (hy : 0 ≤ y) (hx : y ≤ x) (hm : x < 18446744073709551616) (w : World) :
    (callFunc 44 #[.int .u64 x, .int .u64 y, .int .u64 0]).run Try.prog w = .ok (.value (.tuple #[.int .u64 (x - y), .int .u64 0])) w := by
  obtain ⟨a, rfl⟩ := Int.eq_ofNat_of_zero_le (show 0 ≤ x by omega)
  obtain ⟨b, rfl⟩ := Int.eq_ofNat_of_zero_le hy
  rw [run_callFunc_extern Try.func44 (by kernel_rfl) (by kernel_rfl) (by kernel_rfl) (e := sub64Entry) (by kernel_rfl), sub_run0 a b]
  rw [if_neg (by omega), show (a + 18446744073709551616 - b - 0) % 18446744073709551616 = a - b by omega, Int.ofNat_sub (by omega)]
  rfl
set_option maxHeartbeats 1000000 in
set_option maxRecDepth 100000 in
theorem div_at (lo y : Int) (w : World) (h0 : 0 ≤ lo) (h1 : lo ≤ 18446744073709551615) (h2 : 0 < y) (h3 : y ≤ 18446744073709551615) :
    Calls Try.prog 52 #[.int .u64 0, .int .u64 lo, .int .u64 y] w fun e w' => e = .returned (.tuple #[.int .u64 (lo / y), .int .u64 (lo % y)]) ∧ Still w w' := by
  have t1 : (y == 0) = false := by simp; omega
  have t2 : ¬ y = 0 := by omega
  have t3 : ¬ y ≤ 0 := by omega
  go_enter Try.func52, Try.ntmps52
  have q0 : 0 ≤ lo / y := Int.ediv_nonneg h0 (by omega)
  have q1 : lo / y ≤ lo := Int.ediv_le_self y h0
  have q2 : lo / y ≤ 18446744073709551615 := by omega
  have r0 : 0 ≤ lo % y := Int.emod_nonneg _ (by omega)
  have r1 : lo % y < y := Int.emod_lt_of_pos _ h2
  go_wp2_with fail
  go_quiet (fail)
  go_wp2
  go_ret2
  exact ⟨rfl, nq, rfl⟩
theorem still_below {w w1 w2 : World} {B : Nat} (h : Below B w w1) (k : Still w1 w2) : Below B w w2 := by
  obtain ⟨n, rfl⟩ := k; exact below_drewN h n
def ratio_wide_by.f (a0_0 a0_1 : Int) (a0_2 : Bool) (a1_0 a1_1 : Int) (a1_2 : Bool) : Option (Int × Bool) :=
  if a0_0 = 0 ∧ a1_0 = 0 ∧ 0 ≤ a0_1 ∧ a0_1 ≤ 18446744073709551615 ∧ 0 < a1_1 ∧ a1_1 ≤ 18446744073709551615 then some (a0_1 / a1_1, true) else none
set_option maxHeartbeats 1000000 in
set_option maxRecDepth 100000 in
theorem ratio_wide_by.calls (a0_0 a0_1 : Int) (a0_2 : Bool) (a1_0 a1_1 : Int) (a1_2 : Bool) (r1 : Int) (r2 : Bool) (w : World) (h : ratio_wide_by.f a0_0 a0_1 a0_2 a1_0 a1_1 a1_2 = some (r1, r2)) :
    Calls Try.prog 39 #[.agg #[.int .u64 a0_0, .int .u64 a0_1, .bool a0_2], .agg #[.int .u64 a1_0, .int .u64 a1_1, .bool a1_2]] w fun e w' => e = .returned (.tuple #[.int .u64 r1, .bool r2]) ∧ Below w.heap.size w w' := by
  unfold ratio_wide_by.f at h
  split at h
  · rename_i hc
    obtain ⟨rfl, rfl, h0, h1, h2, h3⟩ := hc
    simp only [Option.some.injEq, Prod.mk.injEq] at h
    obtain ⟨rfl, rfl⟩ := h
    have t1 : decide ((0 : Int) < a1_1) = true := decide_eq_true h2
    have C := fun w => Side.mk (div_at a0_1 a1_1 w h0 h1 h2 h3)
    go_enter Try.func39, Try.ntmps39
    go_wp2_with fail
    refine (C _).out.mono ?_
    rintro e w2 ⟨rfl, hs⟩
    have HS : Side (Below w.heap.size w w2) := ⟨still_below (by (repeat (with_reducible first | exact Below.refl _ _ | apply below_alloc))) hs⟩
    clear hs
    go_wp2
    go_ret2
    exact ⟨rfl, HS.out⟩
  · cases h
def ratio_wide_mod.f (a0_0 a0_1 : Int) (a0_2 : Bool) (a1_0 a1_1 : Int) (a1_2 : Bool) : Option (Int × Int × Bool) :=
  if a0_0 = 0 ∧ a1_0 = 0 ∧ 0 ≤ a0_1 ∧ a0_1 ≤ 18446744073709551615 ∧ 0 < a1_1 ∧ a1_1 ≤ 18446744073709551615 then some (0, a0_1 % a1_1, false) else none
set_option maxHeartbeats 1000000 in
set_option maxRecDepth 100000 in
theorem ratio_wide_mod.calls (a0_0 a0_1 : Int) (a0_2 : Bool) (a1_0 a1_1 : Int) (a1_2 : Bool) (r1 r2 : Int) (r3 : Bool) (w : World) (h : ratio_wide_mod.f a0_0 a0_1 a0_2 a1_0 a1_1 a1_2 = some (r1, r2, r3)) :
    Calls Try.prog 51 #[.agg #[.int .u64 a0_0, .int .u64 a0_1, .bool a0_2], .agg #[.int .u64 a1_0, .int .u64 a1_1, .bool a1_2]] w fun e w' => e = .returned (.agg #[.int .u64 r1, .int .u64 r2, .bool r3]) ∧ Below w.heap.size w w' := by
  unfold ratio_wide_mod.f at h
  split at h
  · rename_i hc
    obtain ⟨rfl, rfl, h0, h1, h2, h3⟩ := hc
    simp only [Option.some.injEq, Prod.mk.injEq] at h
    obtain ⟨rfl, rfl, rfl⟩ := h
    have t2 : ¬ a1_1 = 0 := by omega
    have t3 : (0 : Int) % a1_1 = 0 := Int.zero_emod _
    have t4 : Int.tmod (0 : Int) a1_1 = 0 := Int.zero_tmod _
    have C := fun w => Side.mk (div_at a0_1 a1_1 w h0 h1 h2 h3)
    go_enter Try.func51, Try.ntmps51
    go_wp2_with fail
    go_quiet ((go_at_call 52; exact Calls.quiet_of (C _).out))
    go_wp2
    refine bodyPost_ret (v := .agg #[.int .u64 0, .int .u64 (a0_1 % a1_1), .bool false]) (by simp [results, Try.results51, go_sem]) rfl ⟨rfl, ?_⟩
    (repeat (with_reducible first | exact Below.refl _ _ | apply below_drewN | apply below_drew | apply below_alloc | refine Below.setCell ?_ ?_ _))
    all_goals (simp; omega)
  · cases h
theorem less_at (x y : Int) (p q : Bool) (w : World) : Calls Try.prog 43 #[.agg #[.int .u64 0, .int .u64 x, .bool p], .agg #[.int .u64 0, .int .u64 y, .bool q]] w fun e w' => e = .returned (.bool (decide (x < y))) ∧ Below w.heap.size w w' := by
  go_enter Try.func43, Try.ntmps43
  go_wp2_with fail
  go_ret
  exact ⟨rfl, by (repeat (with_reducible first | exact Below.refl _ _ | apply below_alloc))⟩
theorem add_small (x y : Int) (hx : 0 ≤ x) (hy : 0 ≤ y) (h : x + y ≤ 18446744073709551615) (w : World) :
    (callFunc 42 #[.int .u64 x, .int .u64 y, .int .u64 0]).run Try.prog w = .ok (.value (.tuple #[.int .u64 (x + y), .int .u64 0])) w := by
  rw [add_run x y 0 hx hy (by omega) (by omega), show (x + y + 0) % 18446744073709551616 = x + y by omega, show (x + y + 0) / 18446744073709551616 = 0 by omega]
def ratio_wide_plus.f (a0_0 a0_1 : Int) (a0_2 : Bool) (a1_0 a1_1 : Int) (a1_2 : Bool) : Option (Int × Int × Bool) :=
  if a0_0 = 0 ∧ a1_0 = 0 ∧ 0 ≤ a0_1 ∧ 0 ≤ a1_1 ∧ a0_1 + a1_1 ≤ 18446744073709551615 then some (if a0_2 = a1_2 then (0, a0_1 + a1_1, a0_2) else if a0_1 < a1_1 then (0, a1_1 - a0_1, a1_2) else (0, a0_1 - a1_1, a0_2)) else none
set_option maxHeartbeats 2000000 in
set_option maxRecDepth 100000 in
theorem ratio_wide_plus.calls (a0_0 a0_1 : Int) (a0_2 : Bool) (a1_0 a1_1 : Int) (a1_2 : Bool) (r1 r2 : Int) (r3 : Bool) (w : World) (h : ratio_wide_plus.f a0_0 a0_1 a0_2 a1_0 a1_1 a1_2 = some (r1, r2, r3)) :
    Calls Try.prog 32 #[.agg #[.int .u64 a0_0, .int .u64 a0_1, .bool a0_2], .agg #[.int .u64 a1_0, .int .u64 a1_1, .bool a1_2]] w fun e w' => e = .returned (.agg #[.int .u64 r1, .int .u64 r2, .bool r3]) ∧ Below w.heap.size w w' := by
  unfold ratio_wide_plus.f at h
  split at h
  · rename_i hc
    obtain ⟨rfl, rfl, h0, h1, h2⟩ := hc
    have A := add_small a0_1 a1_1 h0 h1 h2
    have A0 := add_small 0 0 (by omega) (by omega) (by omega)
    have A0' : ∀ w, (callFunc 42 #[.int .u64 0, .int .u64 0, .int .u64 0]).run Try.prog w = .ok (.value (.tuple #[.int .u64 0, .int .u64 0])) w := fun w => A0 w
    have B0 : ∀ w, (callFunc 44 #[.int .u64 0, .int .u64 0, .int .u64 0]).run Try.prog w = .ok (.value (.tuple #[.int .u64 0, .int .u64 0])) w := fun w => sub_run 0 0 (by omega) (by omega) (by omega) w
    clear A0
    by_cases hs : a0_2 = a1_2
    · rw [if_pos hs] at h
      simp only [Option.some.injEq, Prod.mk.injEq] at h
      obtain ⟨rfl, rfl, rfl⟩ := h
      subst hs
      go_enter Try.func32, Try.ntmps32
      go_wp2
      refine bodyPost_ret (v := .agg #[.int .u64 0, .int .u64 (a0_1 + a1_1), .bool a0_2]) (by simp [results, Try.results32, go_sem]) rfl ⟨rfl, ?_⟩
      (repeat (with_reducible first | exact Below.refl _ _ | apply below_drewN | apply below_drew | apply below_alloc | refine Below.setCell ?_ ?_ _))
    · rw [if_neg hs] at h
      have hs' : (a0_2 == a1_2) = false := by simpa using hs
      have hs2 : decide (a0_2 = a1_2) = false := by simpa using hs
      have C := fun w => Side.mk (less_at a0_1 a1_1 a0_2 a1_2 w)
      by_cases hlt : a0_1 < a1_1
      · rw [if_pos hlt] at h
        simp only [Option.some.injEq, Prod.mk.injEq] at h
        obtain ⟨rfl, rfl, rfl⟩ := h
        have S := sub_run a1_1 a0_1 h0 (by omega) (by omega)
        have hd : decide (a0_1 < a1_1) = true := decide_eq_true hlt
        go_enter Try.func32, Try.ntmps32
        go_wp2_with fail
        refine (C _).out.mono ?_
        rintro e w2 ⟨rfl, hb⟩
        have HB : Side (Below w.heap.size w w2) := ⟨below_then (by (repeat (with_reducible first | exact Below.refl _ _ | apply below_alloc))) (by simp; omega) hb⟩
        have HD := Side.mk (bcell hb)
        have c00 : w2.cell? ⟨w.heap.size, 0, none⟩ = some (.int .u64 0) := (HD.out.1 _ _ (by first | (simp; done) | (simp; omega))).trans (by go_simp)
        have f00 : w2.frozen? ⟨w.heap.size, 0, none⟩ = false := (HD.out.2 _ _ (by first | (simp; done) | (simp; omega))).trans (by go_simp)
        have c01 : w2.cell? ⟨w.heap.size, 1, none⟩ = some (.int .u64 a0_1) := (HD.out.1 _ _ (by first | (simp; done) | (simp; omega))).trans (by go_simp)
        have f01 : w2.frozen? ⟨w.heap.size, 1, none⟩ = false := (HD.out.2 _ _ (by first | (simp; done) | (simp; omega))).trans (by go_simp)
        have c02 : w2.cell? ⟨w.heap.size, 2, none⟩ = some (.bool a0_2) := (HD.out.1 _ _ (by first | (simp; done) | (simp; omega))).trans (by go_simp)
        have f02 : w2.frozen? ⟨w.heap.size, 2, none⟩ = false := (HD.out.2 _ _ (by first | (simp; done) | (simp; omega))).trans (by go_simp)
        have c10 : w2.cell? ⟨w.heap.size + 1, 0, none⟩ = some (.int .u64 0) := (HD.out.1 _ _ (by first | (simp; done) | (simp; omega))).trans (by go_simp)
        have f10 : w2.frozen? ⟨w.heap.size + 1, 0, none⟩ = false := (HD.out.2 _ _ (by first | (simp; done) | (simp; omega))).trans (by go_simp)
        have c11 : w2.cell? ⟨w.heap.size + 1, 1, none⟩ = some (.int .u64 a1_1) := (HD.out.1 _ _ (by first | (simp; done) | (simp; omega))).trans (by go_simp)
        have f11 : w2.frozen? ⟨w.heap.size + 1, 1, none⟩ = false := (HD.out.2 _ _ (by first | (simp; done) | (simp; omega))).trans (by go_simp)
        have c12 : w2.cell? ⟨w.heap.size + 1, 2, none⟩ = some (.bool a1_2) := (HD.out.1 _ _ (by first | (simp; done) | (simp; omega))).trans (by go_simp)
        have f12 : w2.frozen? ⟨w.heap.size + 1, 2, none⟩ = false := (HD.out.2 _ _ (by first | (simp; done) | (simp; omega))).trans (by go_simp)
        have c20 : w2.cell? ⟨w.heap.size + 1 + 1, 0, none⟩ = some (.int .u64 0) := (HD.out.1 _ _ (by first | (simp; done) | (simp; omega))).trans (by go_simp)
        have f20 : w2.frozen? ⟨w.heap.size + 1 + 1, 0, none⟩ = false := (HD.out.2 _ _ (by first | (simp; done) | (simp; omega))).trans (by go_simp)
        have c21 : w2.cell? ⟨w.heap.size + 1 + 1, 1, none⟩ = some (.int .u64 0) := (HD.out.1 _ _ (by first | (simp; done) | (simp; omega))).trans (by go_simp)
        have f21 : w2.frozen? ⟨w.heap.size + 1 + 1, 1, none⟩ = false := (HD.out.2 _ _ (by first | (simp; done) | (simp; omega))).trans (by go_simp)
        have c22 : w2.cell? ⟨w.heap.size + 1 + 1, 2, none⟩ = some (.bool false) := (HD.out.1 _ _ (by first | (simp; done) | (simp; omega))).trans (by go_simp)
        have f22 : w2.frozen? ⟨w.heap.size + 1 + 1, 2, none⟩ = false := (HD.out.2 _ _ (by first | (simp; done) | (simp; omega))).trans (by go_simp)
        have hz : w.heap.size + 1 + 1 < w2.heap.size := by have := hb.size; simp at this; omega
        clear hb
        go_wp2
        refine bodyPost_ret (v := .agg #[.int .u64 0, .int .u64 (a1_1 - a0_1), .bool a1_2]) (by simp [results, Try.results32, go_sem, c20, c21, c22, hz]) rfl ⟨rfl, ?_⟩
        (repeat (with_reducible first | exact HB.out | apply below_drewN | apply below_drew | apply below_alloc | refine Below.setCell ?_ ?_ _))
        all_goals (first | (simp; done) | (simp; omega) | omega)
      · rw [if_neg hlt] at h
        simp only [Option.some.injEq, Prod.mk.injEq] at h
        obtain ⟨rfl, rfl, rfl⟩ := h
        have S := sub_run a0_1 a1_1 h1 (by omega) (by omega)
        have hd : decide (a0_1 < a1_1) = false := decide_eq_false hlt
        go_enter Try.func32, Try.ntmps32
        go_wp2_with fail
        refine (C _).out.mono ?_
        rintro e w2 ⟨rfl, hb⟩
        have HB : Side (Below w.heap.size w w2) := ⟨below_then (by (repeat (with_reducible first | exact Below.refl _ _ | apply below_alloc))) (by simp; omega) hb⟩
        have HD := Side.mk (bcell hb)
        have c00 : w2.cell? ⟨w.heap.size, 0, none⟩ = some (.int .u64 0) := (HD.out.1 _ _ (by first | (simp; done) | (simp; omega))).trans (by go_simp)
        have f00 : w2.frozen? ⟨w.heap.size, 0, none⟩ = false := (HD.out.2 _ _ (by first | (simp; done) | (simp; omega))).trans (by go_simp)
        have c01 : w2.cell? ⟨w.heap.size, 1, none⟩ = some (.int .u64 a0_1) := (HD.out.1 _ _ (by first | (simp; done) | (simp; omega))).trans (by go_simp)
        have f01 : w2.frozen? ⟨w.heap.size, 1, none⟩ = false := (HD.out.2 _ _ (by first | (simp; done) | (simp; omega))).trans (by go_simp)
        have c02 : w2.cell? ⟨w.heap.size, 2, none⟩ = some (.bool a0_2) := (HD.out.1 _ _ (by first | (simp; done) | (simp; omega))).trans (by go_simp)
        have f02 : w2.frozen? ⟨w.heap.size, 2, none⟩ = false := (HD.out.2 _ _ (by first | (simp; done) | (simp; omega))).trans (by go_simp)
        have c10 : w2.cell? ⟨w.heap.size + 1, 0, none⟩ = some (.int .u64 0) := (HD.out.1 _ _ (by first | (simp; done) | (simp; omega))).trans (by go_simp)
        have f10 : w2.frozen? ⟨w.heap.size + 1, 0, none⟩ = false := (HD.out.2 _ _ (by first | (simp; done) | (simp; omega))).trans (by go_simp)
        have c11 : w2.cell? ⟨w.heap.size + 1, 1, none⟩ = some (.int .u64 a1_1) := (HD.out.1 _ _ (by first | (simp; done) | (simp; omega))).trans (by go_simp)
        have f11 : w2.frozen? ⟨w.heap.size + 1, 1, none⟩ = false := (HD.out.2 _ _ (by first | (simp; done) | (simp; omega))).trans (by go_simp)
        have c12 : w2.cell? ⟨w.heap.size + 1, 2, none⟩ = some (.bool a1_2) := (HD.out.1 _ _ (by first | (simp; done) | (simp; omega))).trans (by go_simp)
        have f12 : w2.frozen? ⟨w.heap.size + 1, 2, none⟩ = false := (HD.out.2 _ _ (by first | (simp; done) | (simp; omega))).trans (by go_simp)
        have c20 : w2.cell? ⟨w.heap.size + 1 + 1, 0, none⟩ = some (.int .u64 0) := (HD.out.1 _ _ (by first | (simp; done) | (simp; omega))).trans (by go_simp)
        have f20 : w2.frozen? ⟨w.heap.size + 1 + 1, 0, none⟩ = false := (HD.out.2 _ _ (by first | (simp; done) | (simp; omega))).trans (by go_simp)
        have c21 : w2.cell? ⟨w.heap.size + 1 + 1, 1, none⟩ = some (.int .u64 0) := (HD.out.1 _ _ (by first | (simp; done) | (simp; omega))).trans (by go_simp)
        have f21 : w2.frozen? ⟨w.heap.size + 1 + 1, 1, none⟩ = false := (HD.out.2 _ _ (by first | (simp; done) | (simp; omega))).trans (by go_simp)
        have c22 : w2.cell? ⟨w.heap.size + 1 + 1, 2, none⟩ = some (.bool false) := (HD.out.1 _ _ (by first | (simp; done) | (simp; omega))).trans (by go_simp)
        have f22 : w2.frozen? ⟨w.heap.size + 1 + 1, 2, none⟩ = false := (HD.out.2 _ _ (by first | (simp; done) | (simp; omega))).trans (by go_simp)
        have hz : w.heap.size + 1 + 1 < w2.heap.size := by have := hb.size; simp at this; omega
        clear hb
        go_wp2
        refine bodyPost_ret (v := .agg #[.int .u64 0, .int .u64 (a0_1 - a1_1), .bool a0_2]) (by simp [results, Try.results32, go_sem, c20, c21, c22, hz]) rfl ⟨rfl, ?_⟩
        (repeat (with_reducible first | exact HB.out | apply below_drewN | apply below_drew | apply below_alloc | refine Below.setCell ?_ ?_ _))
        all_goals (first | (simp; done) | (simp; omega) | omega)
  · cases h
end Go.Proofs.Ytfgmenndmcjggaa.PR
