/- window.Release, walked by hand. No condition. -/
import Derived.Test.YticcgmlgiijjnaaWin
import Derived.Test.YticcgmlgiijjnaaWinPlain
import Derived.Test.YticcgmlgiijjnaaProg
import Derived.KernelRfl
import Derived.Deep.QuietTactic
import Derived.BigQuiet
import Derived.Outline
set_option linter.unusedVariables false
set_option linter.unusedSimpArgs false
namespace Go.Proofs.Yticcgmlgiijjnaa.Win
open Go.RowKit Go.Proofs.Yticcgmlgiijjnaa.Kit EvPlain
def relv (e p i : Int) : Int := if T e p i then rel e p i else 0
theorem relv_yes {e p i : Int} (h : T e p i) : relv e p i = rel e p i := if_pos h
theorem relv_no {e p i : Int} (h : ¬ T e p i) : relv e p i = 0 := if_neg h
set_option maxRecDepth 100000 in
theorem Release_at (e p i : Int) (w : World) : Calls Try.prog 21 #[.int .i64 e, .int .i64 p, .int .i64 i] w fun r w' => r = .returned (.int .i64 (relv e p i)) ∧ Still w w' := by
  have C := fun w => Side.mk (May_at e p i w)
  by_cases h : T e p i
  · have h1 := h.ip1; have h2 := h.rel_le; have e1 := h.e1; have i1 := h.i1; have ie := h.ie; have ep := h.ep; have pm := h.pm
    have c2 : ¬ e = 0 := by omega
    have R : Side (wrap64 (Int.tdiv (wrap64 ((wrap64 (i - 1)) * p)) e) = relv e p i) := ⟨by
      rw [relv_yes h, Kit.wr (x := i - 1) (by omega) (by omega), Kit.wr (x := (i - 1) * p) (by omega) (by omega), Kit.td h1.1]
      exact Kit.wr (x := rel e p i) (by omega) (by omega)⟩
    rw [decide_eq_true h] at C
    clear h h1 h2 e1 i1 ie ep pm
    go_enter Try.func21, Try.ntmps21
    go_wp2_with (((with_reducible refine (C _).out.mono ?_); rintro r w' ⟨rfl, n, rfl⟩))
    go_ret
    exact ⟨ret_int R.out, _, rfl⟩
  · have R : Side (0 = relv e p i) := ⟨(relv_no h).symm⟩
    rw [decide_eq_false h] at C
    clear h
    go_enter Try.func21, Try.ntmps21
    go_wp2_with (((with_reducible refine (C _).out.mono ?_); rintro r w' ⟨rfl, n, rfl⟩))
    go_ret
    exact ⟨ret_int R.out, _, rfl⟩
end Go.Proofs.Yticcgmlgiijjnaa.Win
