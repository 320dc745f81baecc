/- The functions of package window, walked by hand: what each answers. No condition. -/
import Derived.Test.YtmjgadhknliiaaaKit
import Derived.Test.YtmjgadhknliiaaaWinPlain
import Derived.Test.YtmjgadhknliiaaaProg
import Derived.KernelRfl
import Derived.Deep.QuietTactic
import Derived.BigQuiet
import Derived.Outline
set_option linter.unusedVariables false
set_option linter.unusedSimpArgs false
namespace Go.Proofs.Ytmjgadhknliiaaa.Win
open Go.RowKit Go.Proofs.Ytmjgadhknliiaaa.Kit EvPlain
set_option maxRecDepth 100000 in
theorem task_at (e p : Int) (w : World) : Calls Try.prog 24 #[.int .i64 e, .int .i64 p] w fun r w' => r = .returned (.bool (decide (1 ≤ e ∧ e ≤ p ∧ p ≤ 1048575))) ∧ Still w w' := by
  by_cases h1 : 1 ≤ e
  · have b1 : decide (1 ≤ e) = true := decide_eq_true h1
    by_cases h2 : e ≤ p
    · have b2 : decide (e ≤ p) = true := decide_eq_true h2
      have R : Side (decide (p ≤ 1048575) = decide (1 ≤ e ∧ e ≤ p ∧ p ≤ 1048575)) := ⟨decide_eq_decide.2 (by omega)⟩
      clear h1 h2
      go_enter Try.func24, Try.ntmps24
      go_wp2
      go_ret
      exact ⟨ret_bool R.out, Still.refl w⟩
    · have b2 : decide (e ≤ p) = false := decide_eq_false h2
      have R : Side (false = decide (1 ≤ e ∧ e ≤ p ∧ p ≤ 1048575)) := ⟨(decide_eq_false (by omega)).symm⟩
      clear h1 h2
      go_enter Try.func24, Try.ntmps24
      go_wp2
      go_ret
      exact ⟨ret_bool R.out, Still.refl w⟩
  · have b1 : decide (1 ≤ e) = false := decide_eq_false h1
    have R : Side (false = decide (1 ≤ e ∧ e ≤ p ∧ p ≤ 1048575)) := ⟨(decide_eq_false (by omega)).symm⟩
    clear h1
    go_enter Try.func24, Try.ntmps24
    go_wp2
    go_ret
    exact ⟨ret_bool R.out, Still.refl w⟩
theorem T_iff {e p i : Int} : T e p i ↔ (1 ≤ e ∧ e ≤ p ∧ p ≤ 1048575) ∧ 1 ≤ i ∧ i ≤ e := ⟨fun h => ⟨⟨h.e1, h.ep, h.pm⟩, h.i1, h.ie⟩, fun ⟨⟨a, b, c⟩, d, e⟩ => ⟨a, b, c, d, e⟩⟩
instance (e p i : Int) : Decidable (T e p i) := decidable_of_iff _ T_iff.symm
set_option maxRecDepth 100000 in
theorem May_at (e p i : Int) (w : World) : Calls Try.prog 16 #[.int .i64 e, .int .i64 p, .int .i64 i] w fun r w' => r = .returned (.bool (decide (T e p i))) ∧ Still w w' := by
  have C := fun w => Side.mk (task_at e p w)
  have D : Side (decide (T e p i) = decide ((1 ≤ e ∧ e ≤ p ∧ p ≤ 1048575) ∧ 1 ≤ i ∧ i ≤ e)) := ⟨decide_eq_decide.2 T_iff⟩
  by_cases h0 : 1 ≤ e ∧ e ≤ p ∧ p ≤ 1048575
  · rw [decide_eq_true h0] at C
    by_cases h1 : 1 ≤ i
    · have b1 : decide (1 ≤ i) = true := decide_eq_true h1
      have R : Side (decide (i ≤ e) = decide (T e p i)) := ⟨by rw [D.out]; exact decide_eq_decide.2 (by omega)⟩
      clear h0 h1
      go_enter Try.func16, Try.ntmps16
      go_wp2_with (((with_reducible refine (C _).out.mono ?_); rintro r w' ⟨rfl, n, rfl⟩))
      go_ret
      exact ⟨ret_bool R.out, _, rfl⟩
    · have b1 : decide (1 ≤ i) = false := decide_eq_false h1
      have R : Side (false = decide (T e p i)) := ⟨by rw [D.out]; exact (decide_eq_false (by omega)).symm⟩
      clear h0 h1
      go_enter Try.func16, Try.ntmps16
      go_wp2_with (((with_reducible refine (C _).out.mono ?_); rintro r w' ⟨rfl, n, rfl⟩))
      go_ret
      exact ⟨ret_bool R.out, _, rfl⟩
  · rw [decide_eq_false h0] at C
    have R : Side (false = decide (T e p i)) := ⟨by rw [D.out]; exact (decide_eq_false (by omega)).symm⟩
    clear h0
    go_enter Try.func16, Try.ntmps16
    go_wp2_with (((with_reducible refine (C _).out.mono ?_); rintro r w' ⟨rfl, n, rfl⟩))
    go_ret
    exact ⟨ret_bool R.out, _, rfl⟩
set_option maxRecDepth 100000 in
theorem up_at {a b : Int} (ha : 0 ≤ a) (hb : 1 ≤ b) (h : a + b < 9223372036854775808) (w : World) : Calls Try.prog 25 #[.int .i64 a, .int .i64 b] w fun r w' => r = .returned (.int .i64 (EvPlain.up a b)) ∧ Still w w' := by
  have c2 : ¬ b = 0 := by omega
  have R : Side (wrap64 (Int.tdiv (wrap64 ((wrap64 (a + b)) - 1)) b) = EvPlain.up a b) := ⟨by
    have := up_nonneg ha (b := b) (by omega)
    rw [Kit.wr (x := a + b) (by omega) (by omega), Kit.wr (x := a + b - 1) (by omega) (by omega), Kit.td (by omega)]
    exact Kit.wr (x := EvPlain.up a b) (by omega) (by omega)⟩
  clear ha hb h
  go_enter Try.func25, Try.ntmps25
  go_wp2
  go_ret
  exact ⟨ret_int R.out, Still.refl w⟩
def dead (e p i : Int) : Int := if T e p i then dl e p i else 0
theorem dead_yes {e p i : Int} (h : T e p i) : dead e p i = dl e p i := if_pos h
theorem dead_no {e p i : Int} (h : ¬ T e p i) : dead e p i = 0 := if_neg h
set_option maxRecDepth 100000 in
theorem Deadline_at (e p i : Int) (w : World) : Calls Try.prog 17 #[.int .i64 e, .int .i64 p, .int .i64 i] w fun r w' => r = .returned (.int .i64 (dead e p i)) ∧ Still w w' := by
  have C := fun w => Side.mk (May_at e p i w)
  by_cases h : T e p i
  · have h1 := h.ip; have e1 := h.e1; have ep := h.ep; have pm := h.pm
    have U : ∀ w, Side (Calls Try.prog 25 #[.int .i64 (wrap64 (i * p)), .int .i64 e] w fun r w' => r = .returned (.int .i64 (dead e p i)) ∧ Still w w') := fun w => ⟨by
      rw [dead_yes h, Kit.wr (x := i * p) (by omega) (by omega)]; exact up_at (by omega) e1 (by omega) w⟩
    rw [decide_eq_true h] at C
    clear h h1 e1 ep pm
    go_enter Try.func17, Try.ntmps17
    go_wp2_with (first | ((with_reducible refine (C _).out.mono ?_); rintro r w' ⟨rfl, n, rfl⟩) | ((with_reducible refine (U _).out.mono ?_); rintro r w' ⟨rfl, n2, rfl⟩))
    go_ret
    exact ⟨rfl, _, rfl⟩
  · have R : Side (0 = dead e p i) := ⟨by unfold dead; rw [if_neg h]⟩
    rw [decide_eq_false h] at C
    clear h
    go_enter Try.func17, Try.ntmps17
    go_wp2_with (((with_reducible refine (C _).out.mono ?_); rintro r w' ⟨rfl, n, rfl⟩))
    go_ret
    exact ⟨ret_int R.out, _, rfl⟩
def bit (e p i : Int) : Int := if T e p i then (if i * p % e = 0 then 0 else 1) else 0
set_option maxRecDepth 100000 in
theorem Bit_at (e p i : Int) (w : World) : Calls Try.prog 18 #[.int .i64 e, .int .i64 p, .int .i64 i] w fun r w' => r = .returned (.int .i64 (bit e p i)) ∧ Still w w' := by
  have C := fun w => Side.mk (May_at e p i w)
  by_cases h : T e p i
  · have h1 := h.ip; have e1 := h.e1
    have hm : Int.tmod (wrap64 (i * p)) e = i * p % e := by rw [Kit.wr (x := i * p) (by omega) (by omega), Kit.tm (by omega)]
    have c2 : ¬ e = 0 := by omega
    rw [decide_eq_true h] at C
    by_cases hz : i * p % e = 0
    · have b1 : (Int.tmod (wrap64 (i * p)) e == 0) = true := by rw [hm]; exact beq_iff_eq.2 hz
      have R : Side (0 = bit e p i) := ⟨by unfold bit; rw [if_pos h, if_pos hz]⟩
      clear h h1 e1 hm hz
      go_enter Try.func18, Try.ntmps18
      go_wp2_with (((with_reducible refine (C _).out.mono ?_); rintro r w' ⟨rfl, n, rfl⟩))
      go_ret
      exact ⟨ret_int R.out, _, rfl⟩
    · have b1 : (Int.tmod (wrap64 (i * p)) e == 0) = false := by rw [hm]; exact beq_eq_false_iff_ne.2 hz
      have R : Side (1 = bit e p i) := ⟨by unfold bit; rw [if_pos h, if_neg hz]⟩
      clear h h1 e1 hm hz
      go_enter Try.func18, Try.ntmps18
      go_wp2_with (((with_reducible refine (C _).out.mono ?_); rintro r w' ⟨rfl, n, rfl⟩))
      go_ret
      exact ⟨ret_int R.out, _, rfl⟩
  · have R : Side (0 = bit e p i) := ⟨by unfold bit; rw [if_neg h]⟩
    rw [decide_eq_false h] at C
    clear h
    go_enter Try.func18, Try.ntmps18
    go_wp2_with (((with_reducible refine (C _).out.mono ?_); rintro r w' ⟨rfl, n, rfl⟩))
    go_ret
    exact ⟨ret_int R.out, _, rfl⟩
def heavy (e p : Int) : Bool := decide ((1 ≤ e ∧ e ≤ p ∧ p ≤ 1048575) ∧ p ≤ 2 * e)
set_option maxRecDepth 100000 in
theorem Heavy_at (e p : Int) (w : World) : Calls Try.prog 26 #[.int .i64 e, .int .i64 p] w fun r w' => r = .returned (.bool (heavy e p)) ∧ Still w w' := by
  have C := fun w => Side.mk (task_at e p w)
  by_cases h : 1 ≤ e ∧ e ≤ p ∧ p ≤ 1048575
  · have R : Side (decide (p ≤ wrap64 (2 * e)) = heavy e p) := ⟨by unfold heavy; rw [Kit.wr (x := 2 * e) (by omega) (by omega)]; exact decide_eq_decide.2 (by omega)⟩
    rw [decide_eq_true h] at C
    clear h
    go_enter Try.func26, Try.ntmps26
    go_wp2_with (((with_reducible refine (C _).out.mono ?_); rintro r w' ⟨rfl, n, rfl⟩))
    go_ret
    exact ⟨ret_bool R.out, _, rfl⟩
  · have R : Side (false = heavy e p) := ⟨by unfold heavy; exact (decide_eq_false (by omega)).symm⟩
    rw [decide_eq_false h] at C
    clear h
    go_enter Try.func26, Try.ntmps26
    go_wp2_with (((with_reducible refine (C _).out.mono ?_); rintro r w' ⟨rfl, n, rfl⟩))
    go_ret
    exact ⟨ret_bool R.out, _, rfl⟩
def group (e p i : Int) : Int := if T e p i ∧ p ≤ 2 * e ∧ e < p then grp e p i else 0
set_option maxRecDepth 100000 in
set_option maxHeartbeats 1000000 in
theorem Group_at (e p i : Int) (w : World) : Calls Try.prog 19 #[.int .i64 e, .int .i64 p, .int .i64 i] w fun r w' => r = .returned (.int .i64 (group e p i)) ∧ Still w w' := by
  have C := fun w => Side.mk (May_at e p i w)
  have H := fun w => Side.mk (Heavy_at e p w)
  have D := fun w => Side.mk (Deadline_at e p i w)
  by_cases h : T e p i
  · have e1 := h.e1; have ep := h.ep; have pm := h.pm
    rw [decide_eq_true h] at C
    by_cases hh : p ≤ 2 * e
    · have hv : heavy e p = true := decide_eq_true ⟨⟨e1, ep, pm⟩, hh⟩
      rw [hv] at H
      by_cases hl : e < p
      · have b1 : (e == p) = false := beq_eq_false_iff_ne.2 (by omega)
        have h1 := h.dl_le
        have h2 := mul_bound (a := dl e p i) (b := p - e) (A := 1048575) (B := 1048575) (by omega) (by omega) (by omega) (by omega)
        have h3 := h.hol_le
        have h4 := mul_bound (a := hol e p i) (b := p) (A := 1048575) (B := 1048575) (by omega) (by omega) (by omega) (by omega)
        have hsub : wrap64 (p - e) = p - e := Kit.wr (by omega) (by omega)
        have U1 : ∀ w, Side (Calls Try.prog 25 #[.int .i64 (wrap64 (dl e p i * wrap64 (p - e))), .int .i64 p] w fun r w' => r = .returned (.int .i64 (hol e p i)) ∧ Still w w') := fun w => ⟨by
          rw [hsub, Kit.wr (x := dl e p i * (p - e)) (by omega) (by omega)]; exact up_at h2.1 (by omega) (by omega) w⟩
        have U2 : ∀ w, Side (Calls Try.prog 25 #[.int .i64 (wrap64 (hol e p i * p)), .int .i64 (wrap64 (p - e))] w fun r w' => r = .returned (.int .i64 (grp e p i)) ∧ Still w w') := fun w => ⟨by
          rw [hsub, Kit.wr (x := hol e p i * p) (by omega) (by omega)]; exact up_at h4.1 (by omega) (by omega) w⟩
        have R : Side (grp e p i = group e p i) := ⟨by unfold group; rw [if_pos ⟨h, hh, hl⟩]⟩
        simp only [dead_yes h] at D
        clear h h1 h2 h3 h4 e1 ep pm hh hl hv hsub
        go_enter Try.func19, Try.ntmps19
        go_wp2_with (first | (go_at_call 16; (with_reducible refine (C _).out.mono ?_); rintro r w' ⟨rfl, n, rfl⟩) | (go_at_call 26; (with_reducible refine (H _).out.mono ?_); rintro r w' ⟨rfl, n2, rfl⟩) | (go_at_call 17; (with_reducible refine (D _).out.mono ?_); rintro r w' ⟨rfl, n3, rfl⟩) | (go_at_call 25; (with_reducible refine (U1 _).out.mono ?_); rintro r w' ⟨rfl, n4, rfl⟩) | (go_at_call 25; (with_reducible refine (U2 _).out.mono ?_); rintro r w' ⟨rfl, n5, rfl⟩))
        go_ret
        exact ⟨ret_int R.out, _, rfl⟩
      · have b1 : (e == p) = true := beq_iff_eq.2 (by omega)
        have R : Side (0 = group e p i) := ⟨by unfold group; rw [if_neg (fun x => hl x.2.2)]⟩
        clear h e1 ep pm hh hl hv
        go_enter Try.func19, Try.ntmps19
        go_wp2_with (first | (go_at_call 16; (with_reducible refine (C _).out.mono ?_); rintro r w' ⟨rfl, n, rfl⟩) | (go_at_call 26; (with_reducible refine (H _).out.mono ?_); rintro r w' ⟨rfl, n2, rfl⟩))
        go_ret
        exact ⟨ret_int R.out, _, rfl⟩
    · have hv : heavy e p = false := decide_eq_false (fun x => hh x.2)
      rw [hv] at H
      have R : Side (0 = group e p i) := ⟨by unfold group; rw [if_neg (fun x => hh x.2.1)]⟩
      clear h e1 ep pm hh hv
      go_enter Try.func19, Try.ntmps19
      go_wp2_with (first | (go_at_call 16; (with_reducible refine (C _).out.mono ?_); rintro r w' ⟨rfl, n, rfl⟩) | (go_at_call 26; (with_reducible refine (H _).out.mono ?_); rintro r w' ⟨rfl, n2, rfl⟩))
      go_ret
      exact ⟨ret_int R.out, _, rfl⟩
  · rw [decide_eq_false h] at C
    have R : Side (0 = group e p i) := ⟨by unfold group; rw [if_neg (fun x => h x.1)]⟩
    clear h
    go_enter Try.func19, Try.ntmps19
    go_wp2_with (((with_reducible refine (C _).out.mono ?_); rintro r w' ⟨rfl, n, rfl⟩))
    go_ret
    exact ⟨ret_int R.out, _, rfl⟩
end Go.Proofs.Ytmjgadhknliiaaa.Win
