/-
  No cell of these rows narrows 'for every input' (looked for: loops, veiled, ifaces, maps, wideKeys, modest, calm, conditions, laid).
  DERIVED. THE GIVEN ROWS OF THIS SEAT. 3 by the template 'for every input the law returns true; each argument reads behind the call as it read before'; 0 by the template 'total and deterministic' (their statements: YtiemhmaijiifkaaTotals.lean).
  GIVEN WITH THE SEED: the statements are not yours to turn. If you find one false, say at which input.
  Laid BY PROGRAM, IN A SANDBOX (cutbox-rows.mjs): the forced cells as the released guide's own fill.sh prints them over the translation bfc44411eb1b7cd6… (all of the seat's roots in one cut). By AI agents, Wed Nov 11 2026. No macro, syntax, notation, axiom, sorry.
-/
import Derived.Test.YtiemhmaijiifkaaChecked
import GoSem.Claim
import GoSem.ClaimJoined
import GoSem.ClaimMapViews
import Derived.JoinedTies
import Derived.KernelRfl
namespace Go.Proofs.Ytiemhmaijiifkaa
/- THE CELL 'sum', in the pinned program and in every row, IS THE sha256 OF THE DUMP (.gsa) THAT YtiemhmaijiifkaaProg.lean LOADS. Nothing in Lean hashes anything: it is a label: what it is worth is what the hold of that sum in a sandbox is worth. -/
noncomputable def Try.pinned : Pinned := { name := "ytiemhmaijiifkaa", sum := "bfc44411eb1b7cd69a2d17f17bc2baa79c6b32285b196598123c5d5376d3abcd", checked := Try.checked }
namespace Rows
def none {H : Type} : Left H := { results := [], args := [] }

/-- 'evenhandedlaw20.LagFluid': WHATEVER THE INPUT: true; the input reads as it did. -/
def lagFluidSpec : ChangeSpec := { name := "lagFluid", fn := fun _ => fun
  | [d1, d2, d3] => { results := [.lit (.bool true)], args := [d1, d2, d3] }
  | _ => none }
def lagFluidRow : OpenClaim := { program := "ytiemhmaijiifkaa", sum := "bfc44411eb1b7cd69a2d17f17bc2baa79c6b32285b196598123c5d5376d3abcd", func := "evenhanded/evenhandedlaw20.LagFluid", spec := "lagFluid", inPlace := ["math/bits.Add64", "math/bits.Sub64"], named := ["math/bits.divideError", "math/bits.overflowError"], apart := false }
def LagFluidSaid : Prop := lagFluidRow.holds Try.pinned (OpenSpec.ofChange lagFluidSpec)

/-- ITS FALSE NEIGHBOUR: 'it returns false'. Refute it at one input. -/
def lagFluidWrong : ChangeSpec := { name := "lagFluid", fn := fun _ => fun
  | [d1, d2, d3] => { results := [.lit (.bool false)], args := [d1, d2, d3] }
  | _ => none }
def LagFluidWrongFalsely : Prop := lagFluidRow.holds Try.pinned (OpenSpec.ofChange lagFluidWrong)

/-- 'evenhandedlaw20.LagKnown': WHATEVER THE INPUT: true; the input reads as it did. -/
def lagKnownSpec : ChangeSpec := { name := "lagKnown", fn := fun _ => fun
  | [] => { results := [.lit (.bool true)], args := [] }
  | _ => none }
def lagKnownRow : OpenClaim := { program := "ytiemhmaijiifkaa", sum := "bfc44411eb1b7cd69a2d17f17bc2baa79c6b32285b196598123c5d5376d3abcd", func := "evenhanded/evenhandedlaw20.LagKnown", spec := "lagKnown", inPlace := ["math/bits.Add64", "math/bits.Sub64"], named := ["math/bits.divideError", "math/bits.overflowError"], apart := false }
def LagKnownSaid : Prop := lagKnownRow.holds Try.pinned (OpenSpec.ofChange lagKnownSpec)

/-- ITS FALSE NEIGHBOUR: 'it returns false'. Refute it at one input. -/
def lagKnownWrong : ChangeSpec := { name := "lagKnown", fn := fun _ => fun
  | [] => { results := [.lit (.bool false)], args := [] }
  | _ => none }
def LagKnownWrongFalsely : Prop := lagKnownRow.holds Try.pinned (OpenSpec.ofChange lagKnownWrong)

/-- 'evenhandedlaw20.LagMost': WHATEVER THE INPUT: true; the input reads as it did. -/
def lagMostSpec : ChangeSpec := { name := "lagMost", fn := fun _ => fun
  | [d1, d2] => { results := [.lit (.bool true)], args := [d1, d2] }
  | _ => none }
def lagMostRow : OpenClaim := { program := "ytiemhmaijiifkaa", sum := "bfc44411eb1b7cd69a2d17f17bc2baa79c6b32285b196598123c5d5376d3abcd", func := "evenhanded/evenhandedlaw20.LagMost", spec := "lagMost", inPlace := ["math/bits.Add64", "math/bits.Sub64"], unfollowed := true, recurses := true, named := ["math/bits.divideError", "math/bits.overflowError"], apart := false }
def LagMostSaid : Prop := lagMostRow.holds Try.pinned (OpenSpec.ofChange lagMostSpec)

/-- ITS FALSE NEIGHBOUR: 'it returns false'. Refute it at one input. -/
def lagMostWrong : ChangeSpec := { name := "lagMost", fn := fun _ => fun
  | [d1, d2] => { results := [.lit (.bool false)], args := [d1, d2] }
  | _ => none }
def LagMostWrongFalsely : Prop := lagMostRow.holds Try.pinned (OpenSpec.ofChange lagMostWrong)

/- THE SECOND FORM. 'bulk': how many values and letters a reading holds, each counted each time it is reached (what is shared counts as often as it is met; a slice's spare places count too). A statement '..UptoSaid' is the law's where the arguments, and the package variables that the reading takes, are together of bulk at most 1048576: NARROWER than '..Said'. Prove '..Said' where nothing that the law and all that it calls make is longer than what came in: it says more and counts as full. Else prove '..UptoSaid'. A law counts once. -/
mutual
def uptoBulk {H : Type} : DataW H → Nat
  | .lit (.string bytes) => bytes.length + 1
  | .lit _ => 1
  | .nil => 1
  | .ptr d => uptoBulk d + 1
  | .slice elems spare => uptoBulkAll elems + uptoBulkAll spare + 1
  | .agg parts => uptoBulkAll parts + 1
  | .iface _ d => uptoBulk d + 1
  | .map entries => uptoBulkEntries entries + 1
  | .held _ => 1
def uptoBulkAll {H : Type} : List (DataW H) → Nat
  | [] => 0
  | d :: r => uptoBulk d + uptoBulkAll r
def uptoBulkEntries {H : Type} : List (Lit × DataW H) → Nat
  | [] => 0
  | x :: r => uptoBulkEntry x + uptoBulkEntries r
def uptoBulkEntry {H : Type} : Lit × DataW H → Nat
  | (.string bytes, d) => bytes.length + uptoBulk d + 1
  | (_, d) => uptoBulk d + 1
 end
def uptoSmall : (H : Type) → List (DataW H) → Bool := fun _ ds => decide (uptoBulkAll ds ≤ 1048576)
def OpenSpec.upto (s : _root_.Go.ChangeSpec) : _root_.Go.OpenSpec := { _root_.Go.OpenSpec.ofChange s with cond := some uptoSmall }

/-- 'evenhandedlaw20.LagFluid', WHERE WHAT IT READS IS OF BULK AT MOST 1048576: true; the input reads as it did. -/
def lagFluidUptoRow : OpenClaim := { program := "ytiemhmaijiifkaa", sum := "bfc44411eb1b7cd69a2d17f17bc2baa79c6b32285b196598123c5d5376d3abcd", func := "evenhanded/evenhandedlaw20.LagFluid", spec := "lagFluid", inPlace := ["math/bits.Add64", "math/bits.Sub64"], named := ["math/bits.divideError", "math/bits.overflowError"], apart := false, narrowed := true }
def LagFluidUptoSaid : Prop := lagFluidUptoRow.holds Try.pinned (OpenSpec.upto lagFluidSpec)

/-- 'evenhandedlaw20.LagKnown', WHERE WHAT IT READS IS OF BULK AT MOST 1048576: true; the input reads as it did. -/
def lagKnownUptoRow : OpenClaim := { program := "ytiemhmaijiifkaa", sum := "bfc44411eb1b7cd69a2d17f17bc2baa79c6b32285b196598123c5d5376d3abcd", func := "evenhanded/evenhandedlaw20.LagKnown", spec := "lagKnown", inPlace := ["math/bits.Add64", "math/bits.Sub64"], named := ["math/bits.divideError", "math/bits.overflowError"], apart := false, narrowed := true }
def LagKnownUptoSaid : Prop := lagKnownUptoRow.holds Try.pinned (OpenSpec.upto lagKnownSpec)

/-- 'evenhandedlaw20.LagMost', WHERE WHAT IT READS IS OF BULK AT MOST 1048576: true; the input reads as it did. -/
def lagMostUptoRow : OpenClaim := { program := "ytiemhmaijiifkaa", sum := "bfc44411eb1b7cd69a2d17f17bc2baa79c6b32285b196598123c5d5376d3abcd", func := "evenhanded/evenhandedlaw20.LagMost", spec := "lagMost", inPlace := ["math/bits.Add64", "math/bits.Sub64"], unfollowed := true, recurses := true, named := ["math/bits.divideError", "math/bits.overflowError"], apart := false, narrowed := true }
def LagMostUptoSaid : Prop := lagMostUptoRow.holds Try.pinned (OpenSpec.upto lagMostSpec)

end Rows
end Go.Proofs.Ytiemhmaijiifkaa
