/-
  No cell of these rows narrows 'for every input' (looked for: loops, veiled, ifaces, maps, wideKeys, modest, calm, conditions, laid).
  DERIVED. THE GIVEN ROWS OF THIS SEAT. 6 by the template 'for every input the law returns true; each argument reads behind the call as it read before'; 0 by the template 'total and deterministic' (their statements: YtkgafogkeaaniaaTotals.lean).
  GIVEN WITH THE SEED: the statements are not yours to turn. If you find one false, say at which input.
  Laid BY PROGRAM, IN A SANDBOX (cutbox-rows.mjs): the forced cells as the released guide's own fill.sh prints them over the translation 21326e1ff463a2f4… (all of the seat's roots in one cut). By AI agents, Wed Nov 11 2026. No macro, syntax, notation, axiom, sorry.
-/
import Derived.Test.YtkgafogkeaaniaaChecked
import GoSem.Claim
import GoSem.ClaimJoined
import GoSem.ClaimMapViews
import Derived.JoinedTies
import Derived.KernelRfl
namespace Go.Proofs.Ytkgafogkeaaniaa
/- THE CELL 'sum', in the pinned program and in every row, IS THE sha256 OF THE DUMP (.gsa) THAT YtkgafogkeaaniaaProg.lean LOADS. Nothing in Lean hashes anything: it is a label: what it is worth is what the hold of that sum in a sandbox is worth. -/
noncomputable def Try.pinned : Pinned := { name := "ytkgafogkeaaniaa", sum := "21326e1ff463a2f45be137b8cddda1a53c8f2d00a013180a52af73bc8403ef52", checked := Try.checked }
namespace Rows
def none {H : Type} : Left H := { results := [], args := [] }

/-- 'evenhandedlaw18.WrapLays': WHATEVER THE INPUT: true; the input reads as it did. -/
def wrapLaysSpec : ChangeSpec := { name := "wrapLays", fn := fun _ => fun
  | [d1, d2, d3] => { results := [.lit (.bool true)], args := [d1, d2, d3] }
  | _ => none }
def wrapLaysRow : OpenClaim := { program := "ytkgafogkeaaniaa", sum := "21326e1ff463a2f45be137b8cddda1a53c8f2d00a013180a52af73bc8403ef52", func := "evenhanded/evenhandedlaw18.WrapLays", spec := "wrapLays", inPlace := ["math/bits.Add64", "math/bits.Sub64"], named := ["math/bits.divideError", "math/bits.overflowError"], apart := false }
def WrapLaysSaid : Prop := wrapLaysRow.holds Try.pinned (OpenSpec.ofChange wrapLaysSpec)

/-- ITS FALSE NEIGHBOUR: 'it returns false'. Refute it at one input. -/
def wrapLaysWrong : ChangeSpec := { name := "wrapLays", fn := fun _ => fun
  | [d1, d2, d3] => { results := [.lit (.bool false)], args := [d1, d2, d3] }
  | _ => none }
def WrapLaysWrongFalsely : Prop := wrapLaysRow.holds Try.pinned (OpenSpec.ofChange wrapLaysWrong)

/-- 'evenhandedlaw18.WrapFits': WHATEVER THE INPUT: true; the input reads as it did. -/
def wrapFitsSpec : ChangeSpec := { name := "wrapFits", fn := fun _ => fun
  | [d1, d2, d3] => { results := [.lit (.bool true)], args := [d1, d2, d3] }
  | _ => none }
def wrapFitsRow : OpenClaim := { program := "ytkgafogkeaaniaa", sum := "21326e1ff463a2f45be137b8cddda1a53c8f2d00a013180a52af73bc8403ef52", func := "evenhanded/evenhandedlaw18.WrapFits", spec := "wrapFits", inPlace := ["math/bits.Add64", "math/bits.Sub64"], named := ["math/bits.divideError", "math/bits.overflowError"], apart := false }
def WrapFitsSaid : Prop := wrapFitsRow.holds Try.pinned (OpenSpec.ofChange wrapFitsSpec)

/-- ITS FALSE NEIGHBOUR: 'it returns false'. Refute it at one input. -/
def wrapFitsWrong : ChangeSpec := { name := "wrapFits", fn := fun _ => fun
  | [d1, d2, d3] => { results := [.lit (.bool false)], args := [d1, d2, d3] }
  | _ => none }
def WrapFitsWrongFalsely : Prop := wrapFitsRow.holds Try.pinned (OpenSpec.ofChange wrapFitsWrong)

/-- 'evenhandedlaw18.WrapFull': WHATEVER THE INPUT: true; the input reads as it did. -/
def wrapFullSpec : ChangeSpec := { name := "wrapFull", fn := fun _ => fun
  | [d1, d2, d3] => { results := [.lit (.bool true)], args := [d1, d2, d3] }
  | _ => none }
def wrapFullRow : OpenClaim := { program := "ytkgafogkeaaniaa", sum := "21326e1ff463a2f45be137b8cddda1a53c8f2d00a013180a52af73bc8403ef52", func := "evenhanded/evenhandedlaw18.WrapFull", spec := "wrapFull", inPlace := ["math/bits.Add64", "math/bits.Sub64"], named := ["math/bits.divideError", "math/bits.overflowError"], apart := false }
def WrapFullSaid : Prop := wrapFullRow.holds Try.pinned (OpenSpec.ofChange wrapFullSpec)

/-- ITS FALSE NEIGHBOUR: 'it returns false'. Refute it at one input. -/
def wrapFullWrong : ChangeSpec := { name := "wrapFull", fn := fun _ => fun
  | [d1, d2, d3] => { results := [.lit (.bool false)], args := [d1, d2, d3] }
  | _ => none }
def WrapFullWrongFalsely : Prop := wrapFullRow.holds Try.pinned (OpenSpec.ofChange wrapFullWrong)

/-- 'evenhandedlaw18.WrapOrder': WHATEVER THE INPUT: true; the input reads as it did. -/
def wrapOrderSpec : ChangeSpec := { name := "wrapOrder", fn := fun _ => fun
  | [d1, d2, d3] => { results := [.lit (.bool true)], args := [d1, d2, d3] }
  | _ => none }
def wrapOrderRow : OpenClaim := { program := "ytkgafogkeaaniaa", sum := "21326e1ff463a2f45be137b8cddda1a53c8f2d00a013180a52af73bc8403ef52", func := "evenhanded/evenhandedlaw18.WrapOrder", spec := "wrapOrder", inPlace := ["math/bits.Add64", "math/bits.Sub64"], named := ["math/bits.divideError", "math/bits.overflowError"], apart := false }
def WrapOrderSaid : Prop := wrapOrderRow.holds Try.pinned (OpenSpec.ofChange wrapOrderSpec)

/-- ITS FALSE NEIGHBOUR: 'it returns false'. Refute it at one input. -/
def wrapOrderWrong : ChangeSpec := { name := "wrapOrder", fn := fun _ => fun
  | [d1, d2, d3] => { results := [.lit (.bool false)], args := [d1, d2, d3] }
  | _ => none }
def WrapOrderWrongFalsely : Prop := wrapOrderRow.holds Try.pinned (OpenSpec.ofChange wrapOrderWrong)

/-- 'evenhandedlaw18.WrapClips': WHATEVER THE INPUT: true; the input reads as it did. -/
def wrapClipsSpec : ChangeSpec := { name := "wrapClips", fn := fun _ => fun
  | [d1, d2, d3] => { results := [.lit (.bool true)], args := [d1, d2, d3] }
  | _ => none }
def wrapClipsRow : OpenClaim := { program := "ytkgafogkeaaniaa", sum := "21326e1ff463a2f45be137b8cddda1a53c8f2d00a013180a52af73bc8403ef52", func := "evenhanded/evenhandedlaw18.WrapClips", spec := "wrapClips", inPlace := ["math/bits.Add64", "math/bits.Sub64"], named := ["math/bits.divideError", "math/bits.overflowError"], apart := false }
def WrapClipsSaid : Prop := wrapClipsRow.holds Try.pinned (OpenSpec.ofChange wrapClipsSpec)

/-- ITS FALSE NEIGHBOUR: 'it returns false'. Refute it at one input. -/
def wrapClipsWrong : ChangeSpec := { name := "wrapClips", fn := fun _ => fun
  | [d1, d2, d3] => { results := [.lit (.bool false)], args := [d1, d2, d3] }
  | _ => none }
def WrapClipsWrongFalsely : Prop := wrapClipsRow.holds Try.pinned (OpenSpec.ofChange wrapClipsWrong)

/-- 'evenhandedlaw18.WrapKnown': WHATEVER THE INPUT: true; the input reads as it did. -/
def wrapKnownSpec : ChangeSpec := { name := "wrapKnown", fn := fun _ => fun
  | [] => { results := [.lit (.bool true)], args := [] }
  | _ => none }
def wrapKnownRow : OpenClaim := { program := "ytkgafogkeaaniaa", sum := "21326e1ff463a2f45be137b8cddda1a53c8f2d00a013180a52af73bc8403ef52", func := "evenhanded/evenhandedlaw18.WrapKnown", spec := "wrapKnown", inPlace := ["math/bits.Add64", "math/bits.Sub64"], unfollowed := true, recurses := true, named := ["math/bits.divideError", "math/bits.overflowError"], apart := false }
def WrapKnownSaid : Prop := wrapKnownRow.holds Try.pinned (OpenSpec.ofChange wrapKnownSpec)

/-- ITS FALSE NEIGHBOUR: 'it returns false'. Refute it at one input. -/
def wrapKnownWrong : ChangeSpec := { name := "wrapKnown", fn := fun _ => fun
  | [] => { results := [.lit (.bool false)], args := [] }
  | _ => none }
def WrapKnownWrongFalsely : Prop := wrapKnownRow.holds Try.pinned (OpenSpec.ofChange wrapKnownWrong)

/- THE SECOND FORM. 'bulk': how many values and letters a reading holds, each counted each time it is reached (what is shared counts as often as it is met; a slice's spare places count too). A statement '..UptoSaid' is the law's where the arguments, and the package variables that the reading takes, are together of bulk at most 1048576: NARROWER than '..Said'. Prove '..Said' where nothing that the law and all that it calls make is longer than what came in: it says more and counts as full. Else prove '..UptoSaid'. A law counts once. -/
mutual
def uptoBulk {H : Type} : DataW H → Nat
  | .lit (.string bytes) => bytes.length + 1
  | .lit _ => 1
  | .nil => 1
  | .ptr d => uptoBulk d + 1
  | .slice elems spare => uptoBulkAll elems + uptoBulkAll spare + 1
  | .agg parts => uptoBulkAll parts + 1
  | .iface _ d => uptoBulk d + 1
  | .map entries => uptoBulkEntries entries + 1
  | .held _ => 1
def uptoBulkAll {H : Type} : List (DataW H) → Nat
  | [] => 0
  | d :: r => uptoBulk d + uptoBulkAll r
def uptoBulkEntries {H : Type} : List (Lit × DataW H) → Nat
  | [] => 0
  | x :: r => uptoBulkEntry x + uptoBulkEntries r
def uptoBulkEntry {H : Type} : Lit × DataW H → Nat
  | (.string bytes, d) => bytes.length + uptoBulk d + 1
  | (_, d) => uptoBulk d + 1
 end
def uptoSmall : (H : Type) → List (DataW H) → Bool := fun _ ds => decide (uptoBulkAll ds ≤ 1048576)
def OpenSpec.upto (s : _root_.Go.ChangeSpec) : _root_.Go.OpenSpec := { _root_.Go.OpenSpec.ofChange s with cond := some uptoSmall }

/-- 'evenhandedlaw18.WrapLays', WHERE WHAT IT READS IS OF BULK AT MOST 1048576: true; the input reads as it did. -/
def wrapLaysUptoRow : OpenClaim := { program := "ytkgafogkeaaniaa", sum := "21326e1ff463a2f45be137b8cddda1a53c8f2d00a013180a52af73bc8403ef52", func := "evenhanded/evenhandedlaw18.WrapLays", spec := "wrapLays", inPlace := ["math/bits.Add64", "math/bits.Sub64"], named := ["math/bits.divideError", "math/bits.overflowError"], apart := false, narrowed := true }
def WrapLaysUptoSaid : Prop := wrapLaysUptoRow.holds Try.pinned (OpenSpec.upto wrapLaysSpec)

/-- 'evenhandedlaw18.WrapFits', WHERE WHAT IT READS IS OF BULK AT MOST 1048576: true; the input reads as it did. -/
def wrapFitsUptoRow : OpenClaim := { program := "ytkgafogkeaaniaa", sum := "21326e1ff463a2f45be137b8cddda1a53c8f2d00a013180a52af73bc8403ef52", func := "evenhanded/evenhandedlaw18.WrapFits", spec := "wrapFits", inPlace := ["math/bits.Add64", "math/bits.Sub64"], named := ["math/bits.divideError", "math/bits.overflowError"], apart := false, narrowed := true }
def WrapFitsUptoSaid : Prop := wrapFitsUptoRow.holds Try.pinned (OpenSpec.upto wrapFitsSpec)

/-- 'evenhandedlaw18.WrapFull', WHERE WHAT IT READS IS OF BULK AT MOST 1048576: true; the input reads as it did. -/
def wrapFullUptoRow : OpenClaim := { program := "ytkgafogkeaaniaa", sum := "21326e1ff463a2f45be137b8cddda1a53c8f2d00a013180a52af73bc8403ef52", func := "evenhanded/evenhandedlaw18.WrapFull", spec := "wrapFull", inPlace := ["math/bits.Add64", "math/bits.Sub64"], named := ["math/bits.divideError", "math/bits.overflowError"], apart := false, narrowed := true }
def WrapFullUptoSaid : Prop := wrapFullUptoRow.holds Try.pinned (OpenSpec.upto wrapFullSpec)

/-- 'evenhandedlaw18.WrapOrder', WHERE WHAT IT READS IS OF BULK AT MOST 1048576: true; the input reads as it did. -/
def wrapOrderUptoRow : OpenClaim := { program := "ytkgafogkeaaniaa", sum := "21326e1ff463a2f45be137b8cddda1a53c8f2d00a013180a52af73bc8403ef52", func := "evenhanded/evenhandedlaw18.WrapOrder", spec := "wrapOrder", inPlace := ["math/bits.Add64", "math/bits.Sub64"], named := ["math/bits.divideError", "math/bits.overflowError"], apart := false, narrowed := true }
def WrapOrderUptoSaid : Prop := wrapOrderUptoRow.holds Try.pinned (OpenSpec.upto wrapOrderSpec)

/-- 'evenhandedlaw18.WrapClips', WHERE WHAT IT READS IS OF BULK AT MOST 1048576: true; the input reads as it did. -/
def wrapClipsUptoRow : OpenClaim := { program := "ytkgafogkeaaniaa", sum := "21326e1ff463a2f45be137b8cddda1a53c8f2d00a013180a52af73bc8403ef52", func := "evenhanded/evenhandedlaw18.WrapClips", spec := "wrapClips", inPlace := ["math/bits.Add64", "math/bits.Sub64"], named := ["math/bits.divideError", "math/bits.overflowError"], apart := false, narrowed := true }
def WrapClipsUptoSaid : Prop := wrapClipsUptoRow.holds Try.pinned (OpenSpec.upto wrapClipsSpec)

/-- 'evenhandedlaw18.WrapKnown', WHERE WHAT IT READS IS OF BULK AT MOST 1048576: true; the input reads as it did. -/
def wrapKnownUptoRow : OpenClaim := { program := "ytkgafogkeaaniaa", sum := "21326e1ff463a2f45be137b8cddda1a53c8f2d00a013180a52af73bc8403ef52", func := "evenhanded/evenhandedlaw18.WrapKnown", spec := "wrapKnown", inPlace := ["math/bits.Add64", "math/bits.Sub64"], unfollowed := true, recurses := true, named := ["math/bits.divideError", "math/bits.overflowError"], apart := false, narrowed := true }
def WrapKnownUptoSaid : Prop := wrapKnownUptoRow.holds Try.pinned (OpenSpec.upto wrapKnownSpec)

end Rows
end Go.Proofs.Ytkgafogkeaaniaa
