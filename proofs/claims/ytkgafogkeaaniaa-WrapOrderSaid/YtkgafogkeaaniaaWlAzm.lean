/- Package wrap: what its parts call, as they use it: sums that stay right leave the world as it is. No condition. -/
import Derived.Test.YtkgafogkeaaniaaDvAzm
import Derived.Test.YtkgafogkeaaniaaKit3zm
import Derived.Test.YtkgafogkeaaniaaKit4zm
import Derived.Test.YtkgafogkeaaniaaKit5zm
import Derived.Test.YtkgafogkeaaniaaPWx2zm
import Derived.Test.YtkgafogkeaaniaaPWx3zm
import Derived.Test.YtkgafogkeaaniaaPWx4zm
import Derived.Test.YtkgafogkeaaniaaPWx5zm
import Derived.StillTactics
import Derived.Deep.Cut
import Derived.OwnWalk
import Derived.BigQuiet
set_option linter.unusedVariables false
set_option linter.unusedSimpArgs false
namespace Go.Proofs.Ytkgafogkeaaniaa.WlA
open Go.RowKit Go.Proofs.Ytkgafogkeaaniaa.Kit Go.Proofs.Ytkgafogkeaaniaa.Kit3 Go.Proofs.Ytkgafogkeaaniaa.Kit4 Go.Proofs.Ytkgafogkeaaniaa.Kit5
open Go.Proofs.Ytkgafogkeaaniaa.PW
open Go.Proofs.YtkgafogkeaaniaaW.PrintLast Go.Proofs.YtkgafogkeaaniaaW.PrintWords
abbrev CC (f : Nat) (args : Array Value) (v : Value) : Prop := ∀ w, Side (Calls Try.prog f args w fun r w' => r = .returned v ∧ Below w.heap.size w w')
/-- A world before anything was. -/
def Em (w : World) : World := { w with heap := #[] }
theorem Em.below (w : World) : Below (Em w).heap.size (Em w) w := ⟨rfl, rfl, rfl, Nat.zero_le _, fun k hk => absurd hk (by simp [Em])⟩
theorem Em.is {w : World} {g : Nat} {x : Int} (h : w.heap[g]? = some (.cells #[.int .i64 x] 54 (0, 0))) : IsS54 (Em w) w g x := ⟨h, by simp [Em]⟩
theorem quiet {w w' : World} {g : Nat} {x : Int} (h : w.heap[g]? = some (.cells #[.int .i64 x] 54 (0, 0))) (hI : IsS54 (Em w) w' g x) (hB : Below (Em w).heap.size (Em w) w') (hk : KeepBut w w' g none) : Below w.heap.size w w' := by
  refine ⟨hB.os, hB.tape, hB.output, hk.1, fun i hi => ?_⟩
  by_cases e : i = g
  · subst e; exact hI.1.trans h.symm
  · exact hk.2 i hi e (by simp)
theorem SubQ {k : Nat} {a0 a1 b0 b1 r0 r1 : Int} (h : ratio_Sub.f k a0 a1 b0 b1 = some (r0, r1, 0)) {w : World} {g : Nat} (hg : w.heap[g]? = some (.cells #[.int .i64 0] 54 (0, 0))) :
    Calls Try.prog 26 #[.pointer (some ⟨g, 0, none⟩), .agg #[.int .i64 a0, .int .i64 a1], .agg #[.int .i64 b0, .int .i64 b1]] w fun r w' => r = .returned (.agg #[.int .i64 r0, .int .i64 r1]) ∧ Below w.heap.size w w' := by
  refine (wrap_sums_sub.calls k g 0 a0 a1 b0 b1 r0 r1 0 (Em w) w (Em.is hg) (Em.below w) (by unfold wrap_sums_sub.f; rw [h]; rfl)).mono ?_
  rintro r w' ⟨rfl, h1, h2, h3⟩
  exact ⟨rfl, quiet hg h1 h2 h3⟩
theorem AddQ {k : Nat} {a0 a1 b0 b1 r0 r1 : Int} (h : ratio_Add.f k a0 a1 b0 b1 = some (r0, r1, 0)) {w : World} {g : Nat} (hg : w.heap[g]? = some (.cells #[.int .i64 0] 54 (0, 0))) :
    Calls Try.prog 27 #[.pointer (some ⟨g, 0, none⟩), .agg #[.int .i64 a0, .int .i64 a1], .agg #[.int .i64 b0, .int .i64 b1]] w fun r w' => r = .returned (.agg #[.int .i64 r0, .int .i64 r1]) ∧ Below w.heap.size w w' := by
  refine (wrap_sums_add.calls k g 0 a0 a1 b0 b1 r0 r1 0 (Em w) w (Em.is hg) (Em.below w) (by unfold wrap_sums_add.f; rw [h]; rfl)).mono ?_
  rintro r w' ⟨rfl, h1, h2, h3⟩
  exact ⟨rfl, quiet hg h1 h2 h3⟩
theorem KeepQ (r0 r1 : Int) {w : World} {g : Nat} (hg : w.heap[g]? = some (.cells #[.int .i64 0] 54 (0, 0))) :
    Calls Try.prog 34 #[.pointer (some ⟨g, 0, none⟩), .agg #[.int .i64 r0, .int .i64 r1], .int .i64 0] w fun r w' => r = .returned (.agg #[.int .i64 r0, .int .i64 r1]) ∧ Below w.heap.size w w' := by
  refine (wrap_sums_keep.calls g 0 r0 r1 0 r0 r1 0 (Em w) w (Em.is hg) (Em.below w) rfl).mono ?_
  rintro r w' ⟨rfl, h1, h2, h3⟩
  exact ⟨rfl, quiet hg h1 h2 h3⟩
theorem WholeQ (n : Int) : CC 24 #[.int .i64 n] (.agg #[.int .i64 n, .int .i64 1]) := fun w => ⟨wrap_whole.calls n n 1 w rfl⟩
theorem MayQ {k : Nat} {a b : Int} {r : Bool} (h : ratio_May.f k a b = some r) : CC 32 #[.agg #[.int .i64 a, .int .i64 b]] (.bool r) := fun w => ⟨ratio_May.calls k a b r w h⟩
theorem CmpQ {k : Nat} {a b c d r : Int} (h : ratio_Cmp.f k a b c d = some r) : CC 28 #[.agg #[.int .i64 a, .int .i64 b], .agg #[.int .i64 c, .int .i64 d]] (.int .i64 r) := fun w => ⟨ratio_Cmp.calls k a b c d r w h⟩
theorem MulQ {k : Nat} {a b c d r0 r1 e : Int} (h : ratio_Mul.f k a b c d = some (r0, r1, e)) : CC 35 #[.agg #[.int .i64 a, .int .i64 b], .agg #[.int .i64 c, .int .i64 d]] (.tuple #[.agg #[.int .i64 r0, .int .i64 r1], .int .i64 e]) := fun w => ⟨ratio_Mul.calls k a b c d r0 r1 e w h⟩
theorem LessQ {k : Nat} {a b c d r0 r1 : Int} (h : wrap_less.f k a b c d = some (r0, r1)) : CC 25 #[.agg #[.int .i64 a, .int .i64 b], .agg #[.int .i64 c, .int .i64 d]] (.agg #[.int .i64 r0, .int .i64 r1]) := fun w => ⟨wrap_less.calls k a b c d r0 r1 w h⟩
/-- Which shares may be. -/
def mayL (k : Nat) (g0 g1 : Int) : List S49 → Option Bool
  | [] => some true
  | x :: r => (ratio_May.f k x.f1.f0 x.f1.f1).bind fun m => if m = true then (if x.f1.f0 < 0 then some false else (ratio_Cmp.f k x.f1.f0 x.f1.f1 g0 g1).bind fun c => if c > 0 then some false else mayL k g0 g1 r) else some false
/-- What may answers, where its sums are right. -/
def mayF (k : Nat) (l : List S49) (fr tt co : Int) : Option Int :=
  if fr ≥ tt then some 2 else if co < 1 then some 2 else if co > 64 then some 2 else
  (ratio_Sub.f k tt 1 fr 1).bind fun g => if g.2.2 = 0 then
    (mayL k g.1 g.2.1 l).bind fun ok => if ok = true then
      (share_Sum.f k l).bind fun s => if s.2.2 = 0 then
        (ratio_Mul.f k g.1 g.2.1 co 1).bind fun m => if m.2.2 = 0 then
          (ratio_Cmp.f k s.1 s.2.1 m.1 m.2.1).bind fun c => some (if c > 0 then 6 else 0)
        else none
      else none
    else some 2
  else none
end Go.Proofs.Ytkgafogkeaaniaa.WlA
