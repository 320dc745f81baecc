/- Package heap: the walk of HeapPlays, joined out of its pieces. No condition. -/
import Derived.Test.YtiebpmbongmgkaaHpU1
import Derived.Test.YtiebpmbongmgkaaHpU2
import Derived.Test.YtiebpmbongmgkaaHpU3
import Derived.Test.YtiebpmbongmgkaaHpU4
import Derived.Test.YtiebpmbongmgkaaHpU5
import Derived.Test.YtiebpmbongmgkaaHpU6
import Derived.Test.YtiebpmbongmgkaaHpU7
import Derived.Test.YtiebpmbongmgkaaHpU8
import Derived.Test.YtiebpmbongmgkaaHpU9
set_option linter.unusedVariables false
set_option linter.unusedSimpArgs false
namespace Go.Proofs.Ytiebpmbongmgkaa.HpW
open Go.RowKit Go.Proofs.Ytiebpmbongmgkaa.Kit Go.Proofs.Ytiebpmbongmgkaa.Kit2 Go.Proofs.Ytiebpmbongmgkaa.Kit3 Go.Proofs.Ytiebpmbongmgkaa.Kit4 Go.Proofs.Ytiebpmbongmgkaa.Kit5 HpPlain Go.Maps Go.Proofs.Ytiebpmbongmgkaa.HpA Go.Proofs.Ytiebpmbongmgkaa.HpB Go.Proofs.Ytiebpmbongmgkaa.HpE Go.Proofs.Ytiebpmbongmgkaa.HpG Go.Proofs.Ytiebpmbongmgkaa.HpI Go.Proofs.Ytiebpmbongmgkaa.HpK Go.Proofs.Ytiebpmbongmgkaa.HpL Go.Proofs.Ytiebpmbongmgkaa.HpN Go.Proofs.Ytiebpmbongmgkaa.HpO Go.Proofs.Ytiebpmbongmgkaa.HpP Go.Proofs.Ytiebpmbongmgkaa.HpT Go.Proofs.Ytiebpmbongmgkaa.HpR
open Go.Proofs.YtiebpmbongmgkaaW.PrintLast
theorem walk : ∀ (kind : Int) (a : Option Addr) (len cap : Nat) (V : Nat → Nat → Value) (w : World), InRow DK w a len V → len ≤ maxLen →
    Calls Try.prog 4 #[.int .i64 kind, .slice a len cap] w fun r w' => r = .returned (.bool true) ∧ Below w.heap.size w w' :=
  HpUp.part.2.2.2.2.2.2.2.2.2 ⟨HpU1.piece⟩ ⟨HpU2.piece⟩ ⟨HpU3.piece⟩ ⟨HpU4.piece⟩ ⟨HpU5.piece⟩ ⟨HpU6.piece⟩ ⟨HpU7.piece⟩ ⟨HpU8.piece⟩ ⟨HpU9.piece⟩
end Go.Proofs.Ytiebpmbongmgkaa.HpW
