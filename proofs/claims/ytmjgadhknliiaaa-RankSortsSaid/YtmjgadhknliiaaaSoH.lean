/- slices.symMergeCmpFunc over ranks. No condition. -/
import Derived.Test.YtmjgadhknliiaaaSoGw
set_option linter.unusedVariables false
set_option linter.unusedSimpArgs false
namespace Go.Proofs.Ytmjgadhknliiaaa.SoH
open Go.RowKit Go.Proofs.Ytmjgadhknliiaaa.Kit Go.Proofs.Ytmjgadhknliiaaa.Kit3 Go.Proofs.Ytmjgadhknliiaaa.Kit4 Go.Proofs.Ytmjgadhknliiaaa.Kit5 Go.Proofs.Ytmjgadhknliiaaa.Rank Go.Proofs.Ytmjgadhknliiaaa.SoA Go.Proofs.Ytmjgadhknliiaaa.SoD Go.Proofs.Ytmjgadhknliiaaa.SoC Go.Proofs.Ytmjgadhknliiaaa.SoE Go.Proofs.Ytmjgadhknliiaaa.SoF SoPlain Go.Proofs.Ytmjgadhknliiaaa.SoGp Go.Proofs.Ytmjgadhknliiaaa.SoGw
open Go.Proofs.YtmjgadhknliiaaaW.PrintLast
theorem sym_at (B g n cap : Nat) : ∀ N : Nat, Less B g n cap N := by
  intro N
  induction N with
  | zero => intro w xs0 la lm lb h h1 h2 hb hN; omega
  | succ N ih =>
    intro w xs0 la lm lb h h1 h2 hb hN o1 o2
    by_cases c1 : lm = la + 1
    · exact sym1_at w B g n cap xs0 h la lm lb c1 h2 hb o2
    · by_cases c2 : lb = lm + 1
      · exact sym2_at w B g n cap xs0 h la lm lb c1 h1 c2 hb o1
      · exact SoGw.walk w B g n cap xs0 h la lm lb c1 c2 h1 h2 hb o1 o2 (fun w xs0 la' lm' lb' a1 a2 a3 a4 a5 => ih w xs0 la' lm' lb' a1 a2 a3 a4 (by omega))
end Go.Proofs.Ytmjgadhknliiaaa.SoH
