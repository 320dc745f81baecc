/- The walk, joined out of its pieces. No condition. -/
import Derived.Test.YtbppjaglgbhckaaCbC
import Derived.Test.YtbppjaglgbhckaaCbD
import Derived.Test.YtbppjaglgbhckaaCbE
import Derived.Test.YtbppjaglgbhckaaCbF
set_option linter.unusedVariables false
set_option linter.unusedSimpArgs false
namespace Go.Proofs.Ytbppjaglgbhckaa.CbBw
open Go.RowKit Go.Proofs.Ytbppjaglgbhckaa.Kit Go.Proofs.Ytbppjaglgbhckaa.Kit2 Go.Proofs.Ytbppjaglgbhckaa.Kit4 Go.Proofs.Ytbppjaglgbhckaa.Kit5 Go.Proofs.Ytbppjaglgbhckaa.CaA Go.Proofs.Ytbppjaglgbhckaa.CaG Go.Proofs.Ytbppjaglgbhckaa.CaH Go.Proofs.Ytbppjaglgbhckaa.CaI Go.Proofs.Ytbppjaglgbhckaa.CaK Go.Proofs.Ytbppjaglgbhckaa.CaM Go.Proofs.Ytbppjaglgbhckaa.CaN Go.Proofs.Ytbppjaglgbhckaa.CaP Go.Proofs.Ytbppjaglgbhckaa.CaQ Go.Proofs.Ytbppjaglgbhckaa.CaR Go.Proofs.Ytbppjaglgbhckaa.CaT Go.Proofs.Ytbppjaglgbhckaa.CaX Go.Proofs.Ytbppjaglgbhckaa.CaY Go.Proofs.Ytbppjaglgbhckaa.CaZ Go.Proofs.Ytbppjaglgbhckaa.CbA
open Go.Proofs.YtbppjaglgbhckaaW.PrintLast
open Go.Proofs.Ytbppjaglgbhckaa.CbBp
theorem walk : ∀ (a : Option Addr) (len cap : Nat) (V : Nat → Nat → Value) (w : World), InRow DK w a len V → len ≤ maxLen → Calls Try.prog 4 #[.slice a len cap] w fun r w' => r = .returned (.bool true) ∧ Below w.heap.size w w' :=
  CbBp.part.2.2.2.2 ⟨CbC.piece⟩ ⟨CbD.piece⟩ ⟨CbE.piece⟩ ⟨CbF.piece⟩
end Go.Proofs.Ytbppjaglgbhckaa.CbBw
