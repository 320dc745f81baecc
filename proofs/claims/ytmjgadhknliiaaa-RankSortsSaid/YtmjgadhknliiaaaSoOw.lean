/- The walk, joined out of its pieces. No condition. -/
import Derived.Test.YtmjgadhknliiaaaSoO1
import Derived.Test.YtmjgadhknliiaaaSoO2
import Derived.Test.YtmjgadhknliiaaaSoO3
set_option linter.unusedVariables false
set_option linter.unusedSimpArgs false
namespace Go.Proofs.Ytmjgadhknliiaaa.SoOw
open Go.RowKit Go.Proofs.Ytmjgadhknliiaaa.Kit Go.Proofs.Ytmjgadhknliiaaa.Kit2 Go.Proofs.Ytmjgadhknliiaaa.Kit4 Go.Proofs.Ytmjgadhknliiaaa.Kit5 Go.Proofs.Ytmjgadhknliiaaa.Rank Go.Proofs.Ytmjgadhknliiaaa.SoA Go.Proofs.Ytmjgadhknliiaaa.SoK Go.Proofs.Ytmjgadhknliiaaa.SoM Go.Proofs.Ytmjgadhknliiaaa.SoN SoPlain
open Go.Proofs.YtmjgadhknliiaaaW.PrintLast
open Go.Proofs.Ytmjgadhknliiaaa.SoOp
theorem walk : ∀ (a : Option Addr) (len cap : Nat) (V : Nat → Nat → Value) (w : World), InRow DK w a len V → len ≤ maxLen → Calls Try.prog 6 #[.slice a len cap] w fun r w' => r = .returned (.bool true) ∧ Below w.heap.size w w' :=
  SoOp.part.2.2.2 ⟨SoO1.piece⟩ ⟨SoO2.piece⟩ ⟨SoO3.piece⟩
end Go.Proofs.Ytmjgadhknliiaaa.SoOw
