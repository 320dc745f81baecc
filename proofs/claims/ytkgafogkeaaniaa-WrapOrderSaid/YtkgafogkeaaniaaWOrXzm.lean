/- WrapOrder: the law's own walk. No condition.; The walk, joined out of its pieces. No condition.; WrapOrder: the walk as the row asks for it. No condition. -/
import Derived.Test.YtkgafogkeaaniaaWOrWpzm
import Derived.Test.YtkgafogkeaaniaaWOrBzm
section
set_option linter.unusedVariables false
set_option linter.unusedSimpArgs false
namespace Go.Proofs.Ytkgafogkeaaniaa.WOr1
open Go.RowKit Go.Proofs.Ytkgafogkeaaniaa.Kit Go.Proofs.Ytkgafogkeaaniaa.Kit3 Go.Proofs.Ytkgafogkeaaniaa.Kit4 Go.Proofs.Ytkgafogkeaaniaa.Kit5 Go.Proofs.Ytkgafogkeaaniaa.WlA Go.Proofs.Ytkgafogkeaaniaa.WlC Go.Proofs.Ytkgafogkeaaniaa.RlA
open Go.Proofs.Ytkgafogkeaaniaa.PW
open Go.Proofs.Ytkgafogkeaaniaa.WlX Go.Proofs.Ytkgafogkeaaniaa.WlY Go.Proofs.Ytkgafogkeaaniaa.SmF Go.Proofs.Ytkgafogkeaaniaa.ChA
open Go.Proofs.Ytkgafogkeaaniaa.WOrB
open Go.Proofs.YtkgafogkeaaniaaW.PrintLast
open Go.Proofs.YtkgafogkeaaniaaW.PrintWords hiding below_then below_alloc below_drew
set_option maxHeartbeats 400000000 in
set_option maxRecDepth 100000 in
theorem piece : Go.Proofs.Ytkgafogkeaaniaa.WOrWp.part.1 := by
  set_option tactic.hygienic false in (intro _; intros)
  go_upto_region 20 with (fail)
  go_quiet (fail)
  go_upto_region 22 with (fail)
  go_quiet (fail)
  go_upto_region 24 with (fail)
  simp only [List.append_eq, List.cons_append, List.nil_append]
  go_quiet (fail)
  go_wp2
  exact ⟨⟨m, i + 1, rfl, by simp, by omega, by omega, ⟨by rw [RlA.rd39 hml]; exact HIO2.out, below_drewN HBQ.out _⟩⟩, by simp [intOf]; omega⟩
end Go.Proofs.Ytkgafogkeaaniaa.WOr1
end
section
set_option linter.unusedVariables false
set_option linter.unusedSimpArgs false
namespace Go.Proofs.Ytkgafogkeaaniaa.WOr2
open Go.RowKit Go.Proofs.Ytkgafogkeaaniaa.Kit Go.Proofs.Ytkgafogkeaaniaa.Kit3 Go.Proofs.Ytkgafogkeaaniaa.Kit4 Go.Proofs.Ytkgafogkeaaniaa.Kit5 Go.Proofs.Ytkgafogkeaaniaa.WlA Go.Proofs.Ytkgafogkeaaniaa.WlC Go.Proofs.Ytkgafogkeaaniaa.RlA
open Go.Proofs.Ytkgafogkeaaniaa.PW
open Go.Proofs.Ytkgafogkeaaniaa.WlX Go.Proofs.Ytkgafogkeaaniaa.WlY Go.Proofs.Ytkgafogkeaaniaa.SmF Go.Proofs.Ytkgafogkeaaniaa.ChA
open Go.Proofs.Ytkgafogkeaaniaa.WOrB
open Go.Proofs.YtkgafogkeaaniaaW.PrintLast
open Go.Proofs.YtkgafogkeaaniaaW.PrintWords hiding below_then below_alloc below_drew
set_option maxHeartbeats 400000000 in
set_option maxRecDepth 100000 in
theorem piece : Go.Proofs.Ytkgafogkeaaniaa.WOrWp.part.2.1 := by
  set_option tactic.hygienic false in (intro _; intros)
  go_upto_region 20 with (fail)
  go_quiet (fail)
  go_upto_region 22 with (fail)
  go_quiet (fail)
  go_upto_region 24 with (fail)
  simp only [List.append_eq, List.cons_append, List.nil_append]
  go_quiet (fail)
  go_wp2
  exact ⟨⟨m, i + 1, rfl, by simp, by omega, by omega, ⟨by rw [RlA.rd39 hml]; exact HIO2.out, below_drewN HBQ.out _⟩⟩, by simp [intOf]; omega⟩
end Go.Proofs.Ytkgafogkeaaniaa.WOr2
end
section
set_option linter.unusedVariables false
set_option linter.unusedSimpArgs false
namespace Go.Proofs.Ytkgafogkeaaniaa.WOr3
open Go.RowKit Go.Proofs.Ytkgafogkeaaniaa.Kit Go.Proofs.Ytkgafogkeaaniaa.Kit3 Go.Proofs.Ytkgafogkeaaniaa.Kit4 Go.Proofs.Ytkgafogkeaaniaa.Kit5 Go.Proofs.Ytkgafogkeaaniaa.WlA Go.Proofs.Ytkgafogkeaaniaa.WlC Go.Proofs.Ytkgafogkeaaniaa.RlA
open Go.Proofs.Ytkgafogkeaaniaa.PW
open Go.Proofs.Ytkgafogkeaaniaa.WlX Go.Proofs.Ytkgafogkeaaniaa.WlY Go.Proofs.Ytkgafogkeaaniaa.SmF Go.Proofs.Ytkgafogkeaaniaa.ChA
open Go.Proofs.Ytkgafogkeaaniaa.WOrB
open Go.Proofs.YtkgafogkeaaniaaW.PrintLast
open Go.Proofs.YtkgafogkeaaniaaW.PrintWords hiding below_then below_alloc below_drew
set_option maxHeartbeats 400000000 in
set_option maxRecDepth 100000 in
theorem piece : Go.Proofs.Ytkgafogkeaaniaa.WOrWp.part.2.2.1 := by
  set_option tactic.hygienic false in (intro _; intros)
  go_upto_region 20 with (fail)
  go_quiet (fail)
  go_upto_region 22 with (fail)
  go_quiet (fail)
  go_upto_region 24 with (fail)
  simp only [List.append_eq, List.cons_append, List.nil_append]
  go_quiet (fail)
  go_wp2
  exact ⟨⟨m, i + 1, rfl, by simp, by omega, by omega, ⟨by rw [RlA.rd39 hml]; exact HIO2.out, below_drewN HBQ.out _⟩⟩, by simp [intOf]; omega⟩
end Go.Proofs.Ytkgafogkeaaniaa.WOr3
end
section
set_option linter.unusedVariables false
set_option linter.unusedSimpArgs false
namespace Go.Proofs.Ytkgafogkeaaniaa.WOrWw
open Go.RowKit Go.Proofs.Ytkgafogkeaaniaa.Kit Go.Proofs.Ytkgafogkeaaniaa.Kit3 Go.Proofs.Ytkgafogkeaaniaa.Kit4 Go.Proofs.Ytkgafogkeaaniaa.Kit5 Go.Proofs.Ytkgafogkeaaniaa.WlA Go.Proofs.Ytkgafogkeaaniaa.WlC Go.Proofs.Ytkgafogkeaaniaa.RlA
open Go.Proofs.Ytkgafogkeaaniaa.PW
open Go.Proofs.Ytkgafogkeaaniaa.WlX Go.Proofs.Ytkgafogkeaaniaa.WlY Go.Proofs.Ytkgafogkeaaniaa.SmF Go.Proofs.Ytkgafogkeaaniaa.ChA
open Go.Proofs.Ytkgafogkeaaniaa.WOrB
open Go.Proofs.YtkgafogkeaaniaaW.PrintLast
open Go.Proofs.YtkgafogkeaaniaaW.PrintWords hiding below_then below_alloc below_drew
open Go.Proofs.Ytkgafogkeaaniaa.WOrWp
theorem walk : ∀ (A : Option Addr) (c : Nat) (l : List S39) (n0 n1 co : Int) (w : World) (hr : Kd.C k39 w A l.length l) (hc : l.length ≤ c) (i0 : -9223372036854775808 ≤ n0 ∧ n0 < 9223372036854775808) (i1 : -9223372036854775808 ≤ n1 ∧ n1 < 9223372036854775808), Calls Try.prog 6 #[.slice A l.length c, .agg #[.int .i64 n0, .int .i64 n1], .int .i64 co] w fun e w' => e = .returned (.bool true) ∧ Below w.heap.size w w' :=
  WOrWp.part.2.2.2 ⟨WOr1.piece⟩ ⟨WOr2.piece⟩ ⟨WOr3.piece⟩
end Go.Proofs.Ytkgafogkeaaniaa.WOrWw
end
section
namespace Go.Proofs.Ytkgafogkeaaniaa.WOrX
open Go.RowKit Go.Proofs.Ytkgafogkeaaniaa.PW Go.Proofs.YtkgafogkeaaniaaW.PrintWords Go.Proofs.Ytkgafogkeaaniaa.Kit2 Go.Proofs.Ytkgafogkeaaniaa.Kit6
theorem walk (ar : Option Addr) (len cap : Nat) (V : Nat → Nat → Value) (n0 n1 co : Int) (w : World) (hrow : InRow SK w ar len V) (hlen : len ≤ maxLen) (hcap : len ≤ cap) (w0 : (Lit.int .i64 n0).wf = true) (w1 : (Lit.int .i64 n1).wf = true) (_w2 : (Lit.int .i64 co).wf = true) :
    Calls Try.prog 6 #[.slice ar len cap, .agg #[.int .i64 n0, .int .i64 n1], .int .i64 co] w fun e w' => e = .returned (.bool true) ∧ Below w.heap.size w w' := by
  have h := Go.Proofs.Ytkgafogkeaaniaa.WOrWw.walk ar cap (shares len V) n0 n1 co w (shares_C hrow hlen) (by rw [shares_len]; exact hcap) (Go.Proofs.Ytkgafogkeaaniaa.Kit.is64 w0) (Go.Proofs.Ytkgafogkeaaniaa.Kit.is64 w1)
  rw [shares_len] at h
  exact h
end Go.Proofs.Ytkgafogkeaaniaa.WOrX
end
