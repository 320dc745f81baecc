/- Package heap: the walk of HeapPlays as its row asks for it. No condition. -/
import Derived.Test.YtiebpmbongmgkaaHpW
set_option linter.unusedVariables false
namespace Go.Proofs.Ytiebpmbongmgkaa.HpV
open Go.RowKit Go.Proofs.Ytiebpmbongmgkaa.Kit Go.Proofs.Ytiebpmbongmgkaa.Kit2
theorem walk (kind : Int) (a : Option Addr) (len cap : Nat) (V : Nat → Nat → Value) (w : World) (hk : (Lit.int .i64 kind).wf = true) (hrow : InRow HpR.DK w a len V) (hlen : len ≤ maxLen) :
    Calls Try.prog 4 #[.int .i64 kind, .slice a len cap] w fun r w' => r = .returned (.bool true) ∧ Below w.heap.size w w' := HpW.walk kind a len cap V w hrow hlen
end Go.Proofs.Ytiebpmbongmgkaa.HpV
