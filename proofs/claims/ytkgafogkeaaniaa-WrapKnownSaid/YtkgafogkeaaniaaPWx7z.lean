/- Printed by a program of mine: a changed copy of the kit's printer. No condition. -/
import Derived.Test.YtkgafogkeaaniaaPWx0z
import Derived.Test.YtkgafogkeaaniaaPWx2z
import Derived.Test.YtkgafogkeaaniaaPWx5z
namespace Go.Proofs.Ytkgafogkeaaniaa.PW
open Go.RowKit Go.Proofs.YtkgafogkeaaniaaW.PrintWords Go.Proofs.YtkgafogkeaaniaaW.PrintLast Go.Proofs.YtkgafogkeaaniaaW.PrintMore
attribute [local go_sem] max2_int min2_int max_two min_two max_three min_three max_four min_four   -- for this text's walks alone
set_option linter.unusedVariables false
set_option linter.unusedSimpArgs false

end Go.Proofs.Ytkgafogkeaaniaa.PW
