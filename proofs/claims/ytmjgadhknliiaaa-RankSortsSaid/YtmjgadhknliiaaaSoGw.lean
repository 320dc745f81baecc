/- The walk, joined out of its pieces. No condition. -/
import Derived.Test.YtmjgadhknliiaaaSoG1
import Derived.Test.YtmjgadhknliiaaaSoG2
import Derived.Test.YtmjgadhknliiaaaSoG3
set_option linter.unusedVariables false
set_option linter.unusedSimpArgs false
namespace Go.Proofs.Ytmjgadhknliiaaa.SoGw
open Go.RowKit Go.Proofs.Ytmjgadhknliiaaa.Kit Go.Proofs.Ytmjgadhknliiaaa.Kit3 Go.Proofs.Ytmjgadhknliiaaa.Kit4 Go.Proofs.Ytmjgadhknliiaaa.Kit5 Go.Proofs.Ytmjgadhknliiaaa.Rank Go.Proofs.Ytmjgadhknliiaaa.SoA Go.Proofs.Ytmjgadhknliiaaa.SoD Go.Proofs.Ytmjgadhknliiaaa.SoC Go.Proofs.Ytmjgadhknliiaaa.SoE Go.Proofs.Ytmjgadhknliiaaa.SoF SoPlain
open Go.Proofs.YtmjgadhknliiaaaW.PrintLast
open Go.Proofs.Ytmjgadhknliiaaa.SoGp
theorem walk : ∀ (w : World) (B g n cap : Nat) (xs0 : List R) (h : M w B g n cap xs0) (la lm lb : Nat) (h0 : ¬ lm = la + 1) (h00 : ¬ lb = lm + 1) (h1 : la < lm) (h2 : lm < lb) (hb : lb ≤ n) (o1 : Srt lt (at_ xs0) la lm) (o2 : Srt lt (at_ xs0) lm lb) (IH : Less B g n cap (lb - la)), Calls Try.prog 32 #[.slice (some ⟨g, 0, none⟩) n cap, .int .i64 la, .int .i64 lm, .int .i64 lb, .func (.func 20) #[] #[]] w fun r w' => r = .returned (.tuple #[]) ∧ ∃ ys, M w' B g n cap ys ∧ Chg w w' (fun k => k = g) ∧ Mrg lt n (at_ xs0) (at_ ys) la lb :=
  SoGp.part.2.2.2 ⟨SoG1.piece⟩ ⟨SoG2.piece⟩ ⟨SoG3.piece⟩
end Go.Proofs.Ytmjgadhknliiaaa.SoGw
