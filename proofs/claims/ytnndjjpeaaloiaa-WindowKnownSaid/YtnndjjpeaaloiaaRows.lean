/-
  No cell of these rows narrows 'for every input' (looked for: loops, veiled, ifaces, maps, wideKeys, modest, calm, conditions, laid).
  DERIVED. THE GIVEN ROWS OF THIS SEAT. 8 by the template 'for every input the law returns true; each argument reads behind the call as it read before'; 0 by the template 'total and deterministic' (their statements: YtnndjjpeaaloiaaTotals.lean).
  GIVEN WITH THE SEED: the statements are not yours to turn. If you find one false, say at which input.
  Laid BY PROGRAM, IN A SANDBOX (cutbox-rows.mjs): the forced cells as the released guide's own fill.sh prints them over the translation dd411a68be0d4782… (all of the seat's roots in one cut). By AI agents, Wed Nov 11 2026. No macro, syntax, notation, axiom, sorry.
-/
import Derived.Test.YtnndjjpeaaloiaaChecked
import GoSem.Claim
import GoSem.ClaimJoined
import GoSem.ClaimMapViews
import Derived.JoinedTies
import Derived.KernelRfl
namespace Go.Proofs.Ytnndjjpeaaloiaa
/- THE CELL 'sum', in the pinned program and in every row, IS THE sha256 OF THE DUMP (.gsa) THAT YtnndjjpeaaloiaaProg.lean LOADS. Nothing in Lean hashes anything: it is a label: what it is worth is what the hold of that sum in a sandbox is worth. -/
noncomputable def Try.pinned : Pinned := { name := "ytnndjjpeaaloiaa", sum := "dd411a68be0d47827c727c34bd6922db5c1483d6af0ee1b221d60db598496008", checked := Try.checked }
namespace Rows
def none {H : Type} : Left H := { results := [], args := [] }

/-- 'evenhandedlaw3.WindowReckons': WHATEVER THE INPUT: true; the input reads as it did. -/
def windowReckonsSpec : ChangeSpec := { name := "windowReckons", fn := fun _ => fun
  | [d1, d2, d3] => { results := [.lit (.bool true)], args := [d1, d2, d3] }
  | _ => none }
def windowReckonsRow : OpenClaim := { program := "ytnndjjpeaaloiaa", sum := "dd411a68be0d47827c727c34bd6922db5c1483d6af0ee1b221d60db598496008", func := "evenhanded/evenhandedlaw3.WindowReckons", spec := "windowReckons", apart := false }
def WindowReckonsSaid : Prop := windowReckonsRow.holds Try.pinned (OpenSpec.ofChange windowReckonsSpec)

/-- ITS FALSE NEIGHBOUR: 'it returns false'. Refute it at one input. -/
def windowReckonsWrong : ChangeSpec := { name := "windowReckons", fn := fun _ => fun
  | [d1, d2, d3] => { results := [.lit (.bool false)], args := [d1, d2, d3] }
  | _ => none }
def WindowReckonsWrongFalsely : Prop := windowReckonsRow.holds Try.pinned (OpenSpec.ofChange windowReckonsWrong)

/-- 'evenhandedlaw3.WindowRows': WHATEVER THE INPUT: true; the input reads as it did. -/
def windowRowsSpec : ChangeSpec := { name := "windowRows", fn := fun _ => fun
  | [d1, d2] => { results := [.lit (.bool true)], args := [d1, d2] }
  | _ => none }
def windowRowsRow : OpenClaim := { program := "ytnndjjpeaaloiaa", sum := "dd411a68be0d47827c727c34bd6922db5c1483d6af0ee1b221d60db598496008", func := "evenhanded/evenhandedlaw3.WindowRows", spec := "windowRows", apart := false }
def WindowRowsSaid : Prop := windowRowsRow.holds Try.pinned (OpenSpec.ofChange windowRowsSpec)

/-- ITS FALSE NEIGHBOUR: 'it returns false'. Refute it at one input. -/
def windowRowsWrong : ChangeSpec := { name := "windowRows", fn := fun _ => fun
  | [d1, d2] => { results := [.lit (.bool false)], args := [d1, d2] }
  | _ => none }
def WindowRowsWrongFalsely : Prop := windowRowsRow.holds Try.pinned (OpenSpec.ofChange windowRowsWrong)

/-- 'evenhandedlaw3.WindowGroups': WHATEVER THE INPUT: true; the input reads as it did. -/
def windowGroupsSpec : ChangeSpec := { name := "windowGroups", fn := fun _ => fun
  | [d1, d2, d3] => { results := [.lit (.bool true)], args := [d1, d2, d3] }
  | _ => none }
def windowGroupsRow : OpenClaim := { program := "ytnndjjpeaaloiaa", sum := "dd411a68be0d47827c727c34bd6922db5c1483d6af0ee1b221d60db598496008", func := "evenhanded/evenhandedlaw3.WindowGroups", spec := "windowGroups", apart := false }
def WindowGroupsSaid : Prop := windowGroupsRow.holds Try.pinned (OpenSpec.ofChange windowGroupsSpec)

/-- ITS FALSE NEIGHBOUR: 'it returns false'. Refute it at one input. -/
def windowGroupsWrong : ChangeSpec := { name := "windowGroups", fn := fun _ => fun
  | [d1, d2, d3] => { results := [.lit (.bool false)], args := [d1, d2, d3] }
  | _ => none }
def WindowGroupsWrongFalsely : Prop := windowGroupsRow.holds Try.pinned (OpenSpec.ofChange windowGroupsWrong)

/-- 'evenhandedlaw3.WindowKnown': WHATEVER THE INPUT: true; the input reads as it did. -/
def windowKnownSpec : ChangeSpec := { name := "windowKnown", fn := fun _ => fun
  | [] => { results := [.lit (.bool true)], args := [] }
  | _ => none }
def windowKnownRow : OpenClaim := { program := "ytnndjjpeaaloiaa", sum := "dd411a68be0d47827c727c34bd6922db5c1483d6af0ee1b221d60db598496008", func := "evenhanded/evenhandedlaw3.WindowKnown", spec := "windowKnown", apart := false }
def WindowKnownSaid : Prop := windowKnownRow.holds Try.pinned (OpenSpec.ofChange windowKnownSpec)

/-- ITS FALSE NEIGHBOUR: 'it returns false'. Refute it at one input. -/
def windowKnownWrong : ChangeSpec := { name := "windowKnown", fn := fun _ => fun
  | [] => { results := [.lit (.bool false)], args := [] }
  | _ => none }
def WindowKnownWrongFalsely : Prop := windowKnownRow.holds Try.pinned (OpenSpec.ofChange windowKnownWrong)

/-- 'evenhandedlaw3.WindowFluid': WHATEVER THE INPUT: true; the input reads as it did. -/
def windowFluidSpec : ChangeSpec := { name := "windowFluid", fn := fun _ => fun
  | [d1, d2, d3] => { results := [.lit (.bool true)], args := [d1, d2, d3] }
  | _ => none }
def windowFluidRow : OpenClaim := { program := "ytnndjjpeaaloiaa", sum := "dd411a68be0d47827c727c34bd6922db5c1483d6af0ee1b221d60db598496008", func := "evenhanded/evenhandedlaw3.WindowFluid", spec := "windowFluid", apart := false }
def WindowFluidSaid : Prop := windowFluidRow.holds Try.pinned (OpenSpec.ofChange windowFluidSpec)

/-- ITS FALSE NEIGHBOUR: 'it returns false'. Refute it at one input. -/
def windowFluidWrong : ChangeSpec := { name := "windowFluid", fn := fun _ => fun
  | [d1, d2, d3] => { results := [.lit (.bool false)], args := [d1, d2, d3] }
  | _ => none }
def WindowFluidWrongFalsely : Prop := windowFluidRow.holds Try.pinned (OpenSpec.ofChange windowFluidWrong)

/-- 'evenhandedlaw3.WindowScales': WHATEVER THE INPUT: true; the input reads as it did. -/
def windowScalesSpec : ChangeSpec := { name := "windowScales", fn := fun _ => fun
  | [d1, d2, d3] => { results := [.lit (.bool true)], args := [d1, d2, d3] }
  | _ => none }
def windowScalesRow : OpenClaim := { program := "ytnndjjpeaaloiaa", sum := "dd411a68be0d47827c727c34bd6922db5c1483d6af0ee1b221d60db598496008", func := "evenhanded/evenhandedlaw3.WindowScales", spec := "windowScales", apart := false }
def WindowScalesSaid : Prop := windowScalesRow.holds Try.pinned (OpenSpec.ofChange windowScalesSpec)

/-- ITS FALSE NEIGHBOUR: 'it returns false'. Refute it at one input. -/
def windowScalesWrong : ChangeSpec := { name := "windowScales", fn := fun _ => fun
  | [d1, d2, d3] => { results := [.lit (.bool false)], args := [d1, d2, d3] }
  | _ => none }
def WindowScalesWrongFalsely : Prop := windowScalesRow.holds Try.pinned (OpenSpec.ofChange windowScalesWrong)

/-- 'evenhandedlaw3.WindowCover': WHATEVER THE INPUT: true; the input reads as it did. -/
def windowCoverSpec : ChangeSpec := { name := "windowCover", fn := fun _ => fun
  | [d1, d2] => { results := [.lit (.bool true)], args := [d1, d2] }
  | _ => none }
def windowCoverRow : OpenClaim := { program := "ytnndjjpeaaloiaa", sum := "dd411a68be0d47827c727c34bd6922db5c1483d6af0ee1b221d60db598496008", func := "evenhanded/evenhandedlaw3.WindowCover", spec := "windowCover", apart := false }
def WindowCoverSaid : Prop := windowCoverRow.holds Try.pinned (OpenSpec.ofChange windowCoverSpec)

/-- ITS FALSE NEIGHBOUR: 'it returns false'. Refute it at one input. -/
def windowCoverWrong : ChangeSpec := { name := "windowCover", fn := fun _ => fun
  | [d1, d2] => { results := [.lit (.bool false)], args := [d1, d2] }
  | _ => none }
def WindowCoverWrongFalsely : Prop := windowCoverRow.holds Try.pinned (OpenSpec.ofChange windowCoverWrong)

/-- 'evenhandedlaw3.WindowLengths': WHATEVER THE INPUT: true; the input reads as it did. -/
def windowLengthsSpec : ChangeSpec := { name := "windowLengths", fn := fun _ => fun
  | [d1, d2] => { results := [.lit (.bool true)], args := [d1, d2] }
  | _ => none }
def windowLengthsRow : OpenClaim := { program := "ytnndjjpeaaloiaa", sum := "dd411a68be0d47827c727c34bd6922db5c1483d6af0ee1b221d60db598496008", func := "evenhanded/evenhandedlaw3.WindowLengths", spec := "windowLengths", apart := false }
def WindowLengthsSaid : Prop := windowLengthsRow.holds Try.pinned (OpenSpec.ofChange windowLengthsSpec)

/-- ITS FALSE NEIGHBOUR: 'it returns false'. Refute it at one input. -/
def windowLengthsWrong : ChangeSpec := { name := "windowLengths", fn := fun _ => fun
  | [d1, d2] => { results := [.lit (.bool false)], args := [d1, d2] }
  | _ => none }
def WindowLengthsWrongFalsely : Prop := windowLengthsRow.holds Try.pinned (OpenSpec.ofChange windowLengthsWrong)

/- THE SECOND FORM. 'bulk': how many values and letters a reading holds, each counted each time it is reached (what is shared counts as often as it is met; a slice's spare places count too). A statement '..UptoSaid' is the law's where the arguments, and the package variables that the reading takes, are together of bulk at most 1048576: NARROWER than '..Said'. Prove '..Said' where nothing that the law and all that it calls make is longer than what came in: it says more and counts as full. Else prove '..UptoSaid'. A law counts once. -/
mutual
def uptoBulk {H : Type} : DataW H → Nat
  | .lit (.string bytes) => bytes.length + 1
  | .lit _ => 1
  | .nil => 1
  | .ptr d => uptoBulk d + 1
  | .slice elems spare => uptoBulkAll elems + uptoBulkAll spare + 1
  | .agg parts => uptoBulkAll parts + 1
  | .iface _ d => uptoBulk d + 1
  | .map entries => uptoBulkEntries entries + 1
  | .held _ => 1
def uptoBulkAll {H : Type} : List (DataW H) → Nat
  | [] => 0
  | d :: r => uptoBulk d + uptoBulkAll r
def uptoBulkEntries {H : Type} : List (Lit × DataW H) → Nat
  | [] => 0
  | x :: r => uptoBulkEntry x + uptoBulkEntries r
def uptoBulkEntry {H : Type} : Lit × DataW H → Nat
  | (.string bytes, d) => bytes.length + uptoBulk d + 1
  | (_, d) => uptoBulk d + 1
 end
def uptoSmall : (H : Type) → List (DataW H) → Bool := fun _ ds => decide (uptoBulkAll ds ≤ 1048576)
def OpenSpec.upto (s : _root_.Go.ChangeSpec) : _root_.Go.OpenSpec := { _root_.Go.OpenSpec.ofChange s with cond := some uptoSmall }

/-- 'evenhandedlaw3.WindowReckons', WHERE WHAT IT READS IS OF BULK AT MOST 1048576: true; the input reads as it did. -/
def windowReckonsUptoRow : OpenClaim := { program := "ytnndjjpeaaloiaa", sum := "dd411a68be0d47827c727c34bd6922db5c1483d6af0ee1b221d60db598496008", func := "evenhanded/evenhandedlaw3.WindowReckons", spec := "windowReckons", apart := false, narrowed := true }
def WindowReckonsUptoSaid : Prop := windowReckonsUptoRow.holds Try.pinned (OpenSpec.upto windowReckonsSpec)

/-- 'evenhandedlaw3.WindowRows', WHERE WHAT IT READS IS OF BULK AT MOST 1048576: true; the input reads as it did. -/
def windowRowsUptoRow : OpenClaim := { program := "ytnndjjpeaaloiaa", sum := "dd411a68be0d47827c727c34bd6922db5c1483d6af0ee1b221d60db598496008", func := "evenhanded/evenhandedlaw3.WindowRows", spec := "windowRows", apart := false, narrowed := true }
def WindowRowsUptoSaid : Prop := windowRowsUptoRow.holds Try.pinned (OpenSpec.upto windowRowsSpec)

/-- 'evenhandedlaw3.WindowGroups', WHERE WHAT IT READS IS OF BULK AT MOST 1048576: true; the input reads as it did. -/
def windowGroupsUptoRow : OpenClaim := { program := "ytnndjjpeaaloiaa", sum := "dd411a68be0d47827c727c34bd6922db5c1483d6af0ee1b221d60db598496008", func := "evenhanded/evenhandedlaw3.WindowGroups", spec := "windowGroups", apart := false, narrowed := true }
def WindowGroupsUptoSaid : Prop := windowGroupsUptoRow.holds Try.pinned (OpenSpec.upto windowGroupsSpec)

/-- 'evenhandedlaw3.WindowKnown', WHERE WHAT IT READS IS OF BULK AT MOST 1048576: true; the input reads as it did. -/
def windowKnownUptoRow : OpenClaim := { program := "ytnndjjpeaaloiaa", sum := "dd411a68be0d47827c727c34bd6922db5c1483d6af0ee1b221d60db598496008", func := "evenhanded/evenhandedlaw3.WindowKnown", spec := "windowKnown", apart := false, narrowed := true }
def WindowKnownUptoSaid : Prop := windowKnownUptoRow.holds Try.pinned (OpenSpec.upto windowKnownSpec)

/-- 'evenhandedlaw3.WindowFluid', WHERE WHAT IT READS IS OF BULK AT MOST 1048576: true; the input reads as it did. -/
def windowFluidUptoRow : OpenClaim := { program := "ytnndjjpeaaloiaa", sum := "dd411a68be0d47827c727c34bd6922db5c1483d6af0ee1b221d60db598496008", func := "evenhanded/evenhandedlaw3.WindowFluid", spec := "windowFluid", apart := false, narrowed := true }
def WindowFluidUptoSaid : Prop := windowFluidUptoRow.holds Try.pinned (OpenSpec.upto windowFluidSpec)

/-- 'evenhandedlaw3.WindowScales', WHERE WHAT IT READS IS OF BULK AT MOST 1048576: true; the input reads as it did. -/
def windowScalesUptoRow : OpenClaim := { program := "ytnndjjpeaaloiaa", sum := "dd411a68be0d47827c727c34bd6922db5c1483d6af0ee1b221d60db598496008", func := "evenhanded/evenhandedlaw3.WindowScales", spec := "windowScales", apart := false, narrowed := true }
def WindowScalesUptoSaid : Prop := windowScalesUptoRow.holds Try.pinned (OpenSpec.upto windowScalesSpec)

/-- 'evenhandedlaw3.WindowCover', WHERE WHAT IT READS IS OF BULK AT MOST 1048576: true; the input reads as it did. -/
def windowCoverUptoRow : OpenClaim := { program := "ytnndjjpeaaloiaa", sum := "dd411a68be0d47827c727c34bd6922db5c1483d6af0ee1b221d60db598496008", func := "evenhanded/evenhandedlaw3.WindowCover", spec := "windowCover", apart := false, narrowed := true }
def WindowCoverUptoSaid : Prop := windowCoverUptoRow.holds Try.pinned (OpenSpec.upto windowCoverSpec)

/-- 'evenhandedlaw3.WindowLengths', WHERE WHAT IT READS IS OF BULK AT MOST 1048576: true; the input reads as it did. -/
def windowLengthsUptoRow : OpenClaim := { program := "ytnndjjpeaaloiaa", sum := "dd411a68be0d47827c727c34bd6922db5c1483d6af0ee1b221d60db598496008", func := "evenhanded/evenhandedlaw3.WindowLengths", spec := "windowLengths", apart := false, narrowed := true }
def WindowLengthsUptoSaid : Prop := windowLengthsUptoRow.holds Try.pinned (OpenSpec.upto windowLengthsSpec)

end Rows
end Go.Proofs.Ytnndjjpeaaloiaa
