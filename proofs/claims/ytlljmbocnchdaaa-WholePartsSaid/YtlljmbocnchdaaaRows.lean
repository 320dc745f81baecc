/-
  No cell of these rows narrows 'for every input' (looked for: loops, veiled, ifaces, maps, wideKeys, modest, calm, conditions, laid).
  DERIVED. THE GIVEN ROWS OF THIS SEAT. 7 by the template 'for every input the law returns true; each argument reads behind the call as it read before'; 0 by the template 'total and deterministic' (their statements: YtlljmbocnchdaaaTotals.lean).
  GIVEN WITH THE SEED: the statements are not yours to turn. If you find one false, say at which input.
  Laid BY PROGRAM, IN A SANDBOX (cutbox-rows.mjs): the forced cells as the released guide's own fill.sh prints them over the translation fc0f1ac38fede9a6… (all of the seat's roots in one cut). By AI agents, Wed Nov 11 2026. No macro, syntax, notation, axiom, sorry.
-/
import Derived.Test.YtlljmbocnchdaaaChecked
import GoSem.Claim
import GoSem.ClaimJoined
import GoSem.ClaimMapViews
import Derived.JoinedTies
import Derived.KernelRfl
namespace Go.Proofs.Ytlljmbocnchdaaa
/- THE CELL 'sum', in the pinned program and in every row, IS THE sha256 OF THE DUMP (.gsa) THAT YtlljmbocnchdaaaProg.lean LOADS. Nothing in Lean hashes anything: it is a label: what it is worth is what the hold of that sum in a sandbox is worth. -/
noncomputable def Try.pinned : Pinned := { name := "ytlljmbocnchdaaa", sum := "fc0f1ac38fede9a6ac9289f9bce1b2b49bcc8c50b9be502ae6e726562827ec91", checked := Try.checked }
namespace Rows
def none {H : Type} : Left H := { results := [], args := [] }

/-- 'evenhandedlaw1.WholeGcd': WHATEVER THE INPUT: true; the input reads as it did. -/
def wholeGcdSpec : ChangeSpec := { name := "wholeGcd", fn := fun _ => fun
  | [d1, d2, d3] => { results := [.lit (.bool true)], args := [d1, d2, d3] }
  | _ => none }
def wholeGcdRow : OpenClaim := { program := "ytlljmbocnchdaaa", sum := "fc0f1ac38fede9a6ac9289f9bce1b2b49bcc8c50b9be502ae6e726562827ec91", func := "evenhanded/evenhandedlaw1.WholeGcd", spec := "wholeGcd", apart := false }
def WholeGcdSaid : Prop := wholeGcdRow.holds Try.pinned (OpenSpec.ofChange wholeGcdSpec)

/-- ITS FALSE NEIGHBOUR: 'it returns false'. Refute it at one input. -/
def wholeGcdWrong : ChangeSpec := { name := "wholeGcd", fn := fun _ => fun
  | [d1, d2, d3] => { results := [.lit (.bool false)], args := [d1, d2, d3] }
  | _ => none }
def WholeGcdWrongFalsely : Prop := wholeGcdRow.holds Try.pinned (OpenSpec.ofChange wholeGcdWrong)

/-- 'evenhandedlaw1.WholeCross': WHATEVER THE INPUT: true; the input reads as it did. -/
def wholeCrossSpec : ChangeSpec := { name := "wholeCross", fn := fun _ => fun
  | [d1, d2, d3] => { results := [.lit (.bool true)], args := [d1, d2, d3] }
  | _ => none }
def wholeCrossRow : OpenClaim := { program := "ytlljmbocnchdaaa", sum := "fc0f1ac38fede9a6ac9289f9bce1b2b49bcc8c50b9be502ae6e726562827ec91", func := "evenhanded/evenhandedlaw1.WholeCross", spec := "wholeCross", apart := false }
def WholeCrossSaid : Prop := wholeCrossRow.holds Try.pinned (OpenSpec.ofChange wholeCrossSpec)

/-- ITS FALSE NEIGHBOUR: 'it returns false'. Refute it at one input. -/
def wholeCrossWrong : ChangeSpec := { name := "wholeCross", fn := fun _ => fun
  | [d1, d2, d3] => { results := [.lit (.bool false)], args := [d1, d2, d3] }
  | _ => none }
def WholeCrossWrongFalsely : Prop := wholeCrossRow.holds Try.pinned (OpenSpec.ofChange wholeCrossWrong)

/-- 'evenhandedlaw1.WholeSums': WHATEVER THE INPUT: true; the input reads as it did. -/
def wholeSumsSpec : ChangeSpec := { name := "wholeSums", fn := fun _ => fun
  | [d1, d2, d3] => { results := [.lit (.bool true)], args := [d1, d2, d3] }
  | _ => none }
def wholeSumsRow : OpenClaim := { program := "ytlljmbocnchdaaa", sum := "fc0f1ac38fede9a6ac9289f9bce1b2b49bcc8c50b9be502ae6e726562827ec91", func := "evenhanded/evenhandedlaw1.WholeSums", spec := "wholeSums", apart := false }
def WholeSumsSaid : Prop := wholeSumsRow.holds Try.pinned (OpenSpec.ofChange wholeSumsSpec)

/-- ITS FALSE NEIGHBOUR: 'it returns false'. Refute it at one input. -/
def wholeSumsWrong : ChangeSpec := { name := "wholeSums", fn := fun _ => fun
  | [d1, d2, d3] => { results := [.lit (.bool false)], args := [d1, d2, d3] }
  | _ => none }
def WholeSumsWrongFalsely : Prop := wholeSumsRow.holds Try.pinned (OpenSpec.ofChange wholeSumsWrong)

/-- 'evenhandedlaw1.WholeParts': WHATEVER THE INPUT: true; the input reads as it did. -/
def wholePartsSpec : ChangeSpec := { name := "wholeParts", fn := fun _ => fun
  | [d1, d2] => { results := [.lit (.bool true)], args := [d1, d2] }
  | _ => none }
def wholePartsRow : OpenClaim := { program := "ytlljmbocnchdaaa", sum := "fc0f1ac38fede9a6ac9289f9bce1b2b49bcc8c50b9be502ae6e726562827ec91", func := "evenhanded/evenhandedlaw1.WholeParts", spec := "wholeParts", apart := false }
def WholePartsSaid : Prop := wholePartsRow.holds Try.pinned (OpenSpec.ofChange wholePartsSpec)

/-- ITS FALSE NEIGHBOUR: 'it returns false'. Refute it at one input. -/
def wholePartsWrong : ChangeSpec := { name := "wholeParts", fn := fun _ => fun
  | [d1, d2] => { results := [.lit (.bool false)], args := [d1, d2] }
  | _ => none }
def WholePartsWrongFalsely : Prop := wholePartsRow.holds Try.pinned (OpenSpec.ofChange wholePartsWrong)

/-- 'evenhandedlaw1.WholeRounds': WHATEVER THE INPUT: true; the input reads as it did. -/
def wholeRoundsSpec : ChangeSpec := { name := "wholeRounds", fn := fun _ => fun
  | [d1, d2] => { results := [.lit (.bool true)], args := [d1, d2] }
  | _ => none }
def wholeRoundsRow : OpenClaim := { program := "ytlljmbocnchdaaa", sum := "fc0f1ac38fede9a6ac9289f9bce1b2b49bcc8c50b9be502ae6e726562827ec91", func := "evenhanded/evenhandedlaw1.WholeRounds", spec := "wholeRounds", apart := false }
def WholeRoundsSaid : Prop := wholeRoundsRow.holds Try.pinned (OpenSpec.ofChange wholeRoundsSpec)

/-- ITS FALSE NEIGHBOUR: 'it returns false'. Refute it at one input. -/
def wholeRoundsWrong : ChangeSpec := { name := "wholeRounds", fn := fun _ => fun
  | [d1, d2] => { results := [.lit (.bool false)], args := [d1, d2] }
  | _ => none }
def WholeRoundsWrongFalsely : Prop := wholeRoundsRow.holds Try.pinned (OpenSpec.ofChange wholeRoundsWrong)

/-- 'evenhandedlaw1.WholeKnown': WHATEVER THE INPUT: true; the input reads as it did. -/
def wholeKnownSpec : ChangeSpec := { name := "wholeKnown", fn := fun _ => fun
  | [] => { results := [.lit (.bool true)], args := [] }
  | _ => none }
def wholeKnownRow : OpenClaim := { program := "ytlljmbocnchdaaa", sum := "fc0f1ac38fede9a6ac9289f9bce1b2b49bcc8c50b9be502ae6e726562827ec91", func := "evenhanded/evenhandedlaw1.WholeKnown", spec := "wholeKnown", apart := false }
def WholeKnownSaid : Prop := wholeKnownRow.holds Try.pinned (OpenSpec.ofChange wholeKnownSpec)

/-- ITS FALSE NEIGHBOUR: 'it returns false'. Refute it at one input. -/
def wholeKnownWrong : ChangeSpec := { name := "wholeKnown", fn := fun _ => fun
  | [] => { results := [.lit (.bool false)], args := [] }
  | _ => none }
def WholeKnownWrongFalsely : Prop := wholeKnownRow.holds Try.pinned (OpenSpec.ofChange wholeKnownWrong)

/-- 'evenhandedlaw1.WholeLaws': WHATEVER THE INPUT: true; the input reads as it did. -/
def wholeLawsSpec : ChangeSpec := { name := "wholeLaws", fn := fun _ => fun
  | [d1, d2] => { results := [.lit (.bool true)], args := [d1, d2] }
  | _ => none }
def wholeLawsRow : OpenClaim := { program := "ytlljmbocnchdaaa", sum := "fc0f1ac38fede9a6ac9289f9bce1b2b49bcc8c50b9be502ae6e726562827ec91", func := "evenhanded/evenhandedlaw1.WholeLaws", spec := "wholeLaws", apart := false }
def WholeLawsSaid : Prop := wholeLawsRow.holds Try.pinned (OpenSpec.ofChange wholeLawsSpec)

/-- ITS FALSE NEIGHBOUR: 'it returns false'. Refute it at one input. -/
def wholeLawsWrong : ChangeSpec := { name := "wholeLaws", fn := fun _ => fun
  | [d1, d2] => { results := [.lit (.bool false)], args := [d1, d2] }
  | _ => none }
def WholeLawsWrongFalsely : Prop := wholeLawsRow.holds Try.pinned (OpenSpec.ofChange wholeLawsWrong)

/- THE SECOND FORM. 'bulk': how many values and letters a reading holds, each counted each time it is reached (what is shared counts as often as it is met; a slice's spare places count too). A statement '..UptoSaid' is the law's where the arguments, and the package variables that the reading takes, are together of bulk at most 1048576: NARROWER than '..Said'. Prove '..Said' where nothing that the law and all that it calls make is longer than what came in: it says more and counts as full. Else prove '..UptoSaid'. A law counts once. -/
mutual
def uptoBulk {H : Type} : DataW H → Nat
  | .lit (.string bytes) => bytes.length + 1
  | .lit _ => 1
  | .nil => 1
  | .ptr d => uptoBulk d + 1
  | .slice elems spare => uptoBulkAll elems + uptoBulkAll spare + 1
  | .agg parts => uptoBulkAll parts + 1
  | .iface _ d => uptoBulk d + 1
  | .map entries => uptoBulkEntries entries + 1
  | .held _ => 1
def uptoBulkAll {H : Type} : List (DataW H) → Nat
  | [] => 0
  | d :: r => uptoBulk d + uptoBulkAll r
def uptoBulkEntries {H : Type} : List (Lit × DataW H) → Nat
  | [] => 0
  | x :: r => uptoBulkEntry x + uptoBulkEntries r
def uptoBulkEntry {H : Type} : Lit × DataW H → Nat
  | (.string bytes, d) => bytes.length + uptoBulk d + 1
  | (_, d) => uptoBulk d + 1
 end
def uptoSmall : (H : Type) → List (DataW H) → Bool := fun _ ds => decide (uptoBulkAll ds ≤ 1048576)
def OpenSpec.upto (s : _root_.Go.ChangeSpec) : _root_.Go.OpenSpec := { _root_.Go.OpenSpec.ofChange s with cond := some uptoSmall }

/-- 'evenhandedlaw1.WholeGcd', WHERE WHAT IT READS IS OF BULK AT MOST 1048576: true; the input reads as it did. -/
def wholeGcdUptoRow : OpenClaim := { program := "ytlljmbocnchdaaa", sum := "fc0f1ac38fede9a6ac9289f9bce1b2b49bcc8c50b9be502ae6e726562827ec91", func := "evenhanded/evenhandedlaw1.WholeGcd", spec := "wholeGcd", apart := false, narrowed := true }
def WholeGcdUptoSaid : Prop := wholeGcdUptoRow.holds Try.pinned (OpenSpec.upto wholeGcdSpec)

/-- 'evenhandedlaw1.WholeCross', WHERE WHAT IT READS IS OF BULK AT MOST 1048576: true; the input reads as it did. -/
def wholeCrossUptoRow : OpenClaim := { program := "ytlljmbocnchdaaa", sum := "fc0f1ac38fede9a6ac9289f9bce1b2b49bcc8c50b9be502ae6e726562827ec91", func := "evenhanded/evenhandedlaw1.WholeCross", spec := "wholeCross", apart := false, narrowed := true }
def WholeCrossUptoSaid : Prop := wholeCrossUptoRow.holds Try.pinned (OpenSpec.upto wholeCrossSpec)

/-- 'evenhandedlaw1.WholeSums', WHERE WHAT IT READS IS OF BULK AT MOST 1048576: true; the input reads as it did. -/
def wholeSumsUptoRow : OpenClaim := { program := "ytlljmbocnchdaaa", sum := "fc0f1ac38fede9a6ac9289f9bce1b2b49bcc8c50b9be502ae6e726562827ec91", func := "evenhanded/evenhandedlaw1.WholeSums", spec := "wholeSums", apart := false, narrowed := true }
def WholeSumsUptoSaid : Prop := wholeSumsUptoRow.holds Try.pinned (OpenSpec.upto wholeSumsSpec)

/-- 'evenhandedlaw1.WholeParts', WHERE WHAT IT READS IS OF BULK AT MOST 1048576: true; the input reads as it did. -/
def wholePartsUptoRow : OpenClaim := { program := "ytlljmbocnchdaaa", sum := "fc0f1ac38fede9a6ac9289f9bce1b2b49bcc8c50b9be502ae6e726562827ec91", func := "evenhanded/evenhandedlaw1.WholeParts", spec := "wholeParts", apart := false, narrowed := true }
def WholePartsUptoSaid : Prop := wholePartsUptoRow.holds Try.pinned (OpenSpec.upto wholePartsSpec)

/-- 'evenhandedlaw1.WholeRounds', WHERE WHAT IT READS IS OF BULK AT MOST 1048576: true; the input reads as it did. -/
def wholeRoundsUptoRow : OpenClaim := { program := "ytlljmbocnchdaaa", sum := "fc0f1ac38fede9a6ac9289f9bce1b2b49bcc8c50b9be502ae6e726562827ec91", func := "evenhanded/evenhandedlaw1.WholeRounds", spec := "wholeRounds", apart := false, narrowed := true }
def WholeRoundsUptoSaid : Prop := wholeRoundsUptoRow.holds Try.pinned (OpenSpec.upto wholeRoundsSpec)

/-- 'evenhandedlaw1.WholeKnown', WHERE WHAT IT READS IS OF BULK AT MOST 1048576: true; the input reads as it did. -/
def wholeKnownUptoRow : OpenClaim := { program := "ytlljmbocnchdaaa", sum := "fc0f1ac38fede9a6ac9289f9bce1b2b49bcc8c50b9be502ae6e726562827ec91", func := "evenhanded/evenhandedlaw1.WholeKnown", spec := "wholeKnown", apart := false, narrowed := true }
def WholeKnownUptoSaid : Prop := wholeKnownUptoRow.holds Try.pinned (OpenSpec.upto wholeKnownSpec)

/-- 'evenhandedlaw1.WholeLaws', WHERE WHAT IT READS IS OF BULK AT MOST 1048576: true; the input reads as it did. -/
def wholeLawsUptoRow : OpenClaim := { program := "ytlljmbocnchdaaa", sum := "fc0f1ac38fede9a6ac9289f9bce1b2b49bcc8c50b9be502ae6e726562827ec91", func := "evenhanded/evenhandedlaw1.WholeLaws", spec := "wholeLaws", apart := false, narrowed := true }
def WholeLawsUptoSaid : Prop := wholeLawsUptoRow.holds Try.pinned (OpenSpec.upto wholeLawsSpec)

end Rows
end Go.Proofs.Ytlljmbocnchdaaa
