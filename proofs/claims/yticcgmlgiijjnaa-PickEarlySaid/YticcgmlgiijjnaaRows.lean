/-
  No cell of these rows narrows 'for every input' (looked for: loops, veiled, ifaces, maps, wideKeys, modest, calm, conditions, laid).
  DERIVED. THE GIVEN ROWS OF THIS SEAT. 5 by the template 'for every input the law returns true; each argument reads behind the call as it read before'; 0 by the template 'total and deterministic' (their statements: YticcgmlgiijjnaaTotals.lean).
  GIVEN WITH THE SEED: the statements are not yours to turn. If you find one false, say at which input.
  Laid BY PROGRAM, IN A SANDBOX (cutbox-rows.mjs): the forced cells as the released guide's own fill.sh prints them over the translation f42fb189366ea30c… (all of the seat's roots in one cut). By AI agents, Wed Nov 11 2026. No macro, syntax, notation, axiom, sorry.
-/
import Derived.Test.YticcgmlgiijjnaaChecked
import GoSem.Claim
import GoSem.ClaimJoined
import GoSem.ClaimMapViews
import Derived.JoinedTies
import Derived.KernelRfl
namespace Go.Proofs.Yticcgmlgiijjnaa
/- THE CELL 'sum', in the pinned program and in every row, IS THE sha256 OF THE DUMP (.gsa) THAT YticcgmlgiijjnaaProg.lean LOADS. Nothing in Lean hashes anything: it is a label: what it is worth is what the hold of that sum in a sandbox is worth. -/
noncomputable def Try.pinned : Pinned := { name := "yticcgmlgiijjnaa", sum := "f42fb189366ea30cde2e2307155ee1db208c73effd7741340d170309edfd367c", checked := Try.checked }
namespace Rows
def none {H : Type} : Left H := { results := [], args := [] }

/-- 'evenhandedlaw13.PickBest': WHATEVER THE INPUT: true; the input reads as it did. -/
def pickBestSpec : ChangeSpec := { name := "pickBest", fn := fun _ => fun
  | [d1, d2, d3] => { results := [.lit (.bool true)], args := [d1, d2, d3] }
  | _ => none }
def pickBestRow : OpenClaim := { program := "yticcgmlgiijjnaa", sum := "f42fb189366ea30cde2e2307155ee1db208c73effd7741340d170309edfd367c", func := "evenhanded/evenhandedlaw13.PickBest", spec := "pickBest", apart := false }
def PickBestSaid : Prop := pickBestRow.holds Try.pinned (OpenSpec.ofChange pickBestSpec)

/-- ITS FALSE NEIGHBOUR: 'it returns false'. Refute it at one input. -/
def pickBestWrong : ChangeSpec := { name := "pickBest", fn := fun _ => fun
  | [d1, d2, d3] => { results := [.lit (.bool false)], args := [d1, d2, d3] }
  | _ => none }
def PickBestWrongFalsely : Prop := pickBestRow.holds Try.pinned (OpenSpec.ofChange pickBestWrong)

/-- 'evenhandedlaw13.PickFew': WHATEVER THE INPUT: true; the input reads as it did. -/
def pickFewSpec : ChangeSpec := { name := "pickFew", fn := fun _ => fun
  | [d1, d2, d3] => { results := [.lit (.bool true)], args := [d1, d2, d3] }
  | _ => none }
def pickFewRow : OpenClaim := { program := "yticcgmlgiijjnaa", sum := "f42fb189366ea30cde2e2307155ee1db208c73effd7741340d170309edfd367c", func := "evenhanded/evenhandedlaw13.PickFew", spec := "pickFew", apart := false }
def PickFewSaid : Prop := pickFewRow.holds Try.pinned (OpenSpec.ofChange pickFewSpec)

/-- ITS FALSE NEIGHBOUR: 'it returns false'. Refute it at one input. -/
def pickFewWrong : ChangeSpec := { name := "pickFew", fn := fun _ => fun
  | [d1, d2, d3] => { results := [.lit (.bool false)], args := [d1, d2, d3] }
  | _ => none }
def PickFewWrongFalsely : Prop := pickFewRow.holds Try.pinned (OpenSpec.ofChange pickFewWrong)

/-- 'evenhandedlaw13.PickKnown': WHATEVER THE INPUT: true; the input reads as it did. -/
def pickKnownSpec : ChangeSpec := { name := "pickKnown", fn := fun _ => fun
  | [] => { results := [.lit (.bool true)], args := [] }
  | _ => none }
def pickKnownRow : OpenClaim := { program := "yticcgmlgiijjnaa", sum := "f42fb189366ea30cde2e2307155ee1db208c73effd7741340d170309edfd367c", func := "evenhanded/evenhandedlaw13.PickKnown", spec := "pickKnown", apart := false }
def PickKnownSaid : Prop := pickKnownRow.holds Try.pinned (OpenSpec.ofChange pickKnownSpec)

/-- ITS FALSE NEIGHBOUR: 'it returns false'. Refute it at one input. -/
def pickKnownWrong : ChangeSpec := { name := "pickKnown", fn := fun _ => fun
  | [] => { results := [.lit (.bool false)], args := [] }
  | _ => none }
def PickKnownWrongFalsely : Prop := pickKnownRow.holds Try.pinned (OpenSpec.ofChange pickKnownWrong)

/-- 'evenhandedlaw13.PickEarly': WHATEVER THE INPUT: true; the input reads as it did. -/
def pickEarlySpec : ChangeSpec := { name := "pickEarly", fn := fun _ => fun
  | [d1, d2] => { results := [.lit (.bool true)], args := [d1, d2] }
  | _ => none }
def pickEarlyRow : OpenClaim := { program := "yticcgmlgiijjnaa", sum := "f42fb189366ea30cde2e2307155ee1db208c73effd7741340d170309edfd367c", func := "evenhanded/evenhandedlaw13.PickEarly", spec := "pickEarly", apart := false }
def PickEarlySaid : Prop := pickEarlyRow.holds Try.pinned (OpenSpec.ofChange pickEarlySpec)

/-- ITS FALSE NEIGHBOUR: 'it returns false'. Refute it at one input. -/
def pickEarlyWrong : ChangeSpec := { name := "pickEarly", fn := fun _ => fun
  | [d1, d2] => { results := [.lit (.bool false)], args := [d1, d2] }
  | _ => none }
def PickEarlyWrongFalsely : Prop := pickEarlyRow.holds Try.pinned (OpenSpec.ofChange pickEarlyWrong)

/-- 'evenhandedlaw13.PickAlone': WHATEVER THE INPUT: true; the input reads as it did. -/
def pickAloneSpec : ChangeSpec := { name := "pickAlone", fn := fun _ => fun
  | [d1, d2, d3] => { results := [.lit (.bool true)], args := [d1, d2, d3] }
  | _ => none }
def pickAloneRow : OpenClaim := { program := "yticcgmlgiijjnaa", sum := "f42fb189366ea30cde2e2307155ee1db208c73effd7741340d170309edfd367c", func := "evenhanded/evenhandedlaw13.PickAlone", spec := "pickAlone", apart := false }
def PickAloneSaid : Prop := pickAloneRow.holds Try.pinned (OpenSpec.ofChange pickAloneSpec)

/-- ITS FALSE NEIGHBOUR: 'it returns false'. Refute it at one input. -/
def pickAloneWrong : ChangeSpec := { name := "pickAlone", fn := fun _ => fun
  | [d1, d2, d3] => { results := [.lit (.bool false)], args := [d1, d2, d3] }
  | _ => none }
def PickAloneWrongFalsely : Prop := pickAloneRow.holds Try.pinned (OpenSpec.ofChange pickAloneWrong)

/- THE SECOND FORM. 'bulk': how many values and letters a reading holds, each counted each time it is reached (what is shared counts as often as it is met; a slice's spare places count too). A statement '..UptoSaid' is the law's where the arguments, and the package variables that the reading takes, are together of bulk at most 1048576: NARROWER than '..Said'. Prove '..Said' where nothing that the law and all that it calls make is longer than what came in: it says more and counts as full. Else prove '..UptoSaid'. A law counts once. -/
mutual
def uptoBulk {H : Type} : DataW H → Nat
  | .lit (.string bytes) => bytes.length + 1
  | .lit _ => 1
  | .nil => 1
  | .ptr d => uptoBulk d + 1
  | .slice elems spare => uptoBulkAll elems + uptoBulkAll spare + 1
  | .agg parts => uptoBulkAll parts + 1
  | .iface _ d => uptoBulk d + 1
  | .map entries => uptoBulkEntries entries + 1
  | .held _ => 1
def uptoBulkAll {H : Type} : List (DataW H) → Nat
  | [] => 0
  | d :: r => uptoBulk d + uptoBulkAll r
def uptoBulkEntries {H : Type} : List (Lit × DataW H) → Nat
  | [] => 0
  | x :: r => uptoBulkEntry x + uptoBulkEntries r
def uptoBulkEntry {H : Type} : Lit × DataW H → Nat
  | (.string bytes, d) => bytes.length + uptoBulk d + 1
  | (_, d) => uptoBulk d + 1
 end
def uptoSmall : (H : Type) → List (DataW H) → Bool := fun _ ds => decide (uptoBulkAll ds ≤ 1048576)
def OpenSpec.upto (s : _root_.Go.ChangeSpec) : _root_.Go.OpenSpec := { _root_.Go.OpenSpec.ofChange s with cond := some uptoSmall }

/-- 'evenhandedlaw13.PickBest', WHERE WHAT IT READS IS OF BULK AT MOST 1048576: true; the input reads as it did. -/
def pickBestUptoRow : OpenClaim := { program := "yticcgmlgiijjnaa", sum := "f42fb189366ea30cde2e2307155ee1db208c73effd7741340d170309edfd367c", func := "evenhanded/evenhandedlaw13.PickBest", spec := "pickBest", apart := false, narrowed := true }
def PickBestUptoSaid : Prop := pickBestUptoRow.holds Try.pinned (OpenSpec.upto pickBestSpec)

/-- 'evenhandedlaw13.PickFew', WHERE WHAT IT READS IS OF BULK AT MOST 1048576: true; the input reads as it did. -/
def pickFewUptoRow : OpenClaim := { program := "yticcgmlgiijjnaa", sum := "f42fb189366ea30cde2e2307155ee1db208c73effd7741340d170309edfd367c", func := "evenhanded/evenhandedlaw13.PickFew", spec := "pickFew", apart := false, narrowed := true }
def PickFewUptoSaid : Prop := pickFewUptoRow.holds Try.pinned (OpenSpec.upto pickFewSpec)

/-- 'evenhandedlaw13.PickKnown', WHERE WHAT IT READS IS OF BULK AT MOST 1048576: true; the input reads as it did. -/
def pickKnownUptoRow : OpenClaim := { program := "yticcgmlgiijjnaa", sum := "f42fb189366ea30cde2e2307155ee1db208c73effd7741340d170309edfd367c", func := "evenhanded/evenhandedlaw13.PickKnown", spec := "pickKnown", apart := false, narrowed := true }
def PickKnownUptoSaid : Prop := pickKnownUptoRow.holds Try.pinned (OpenSpec.upto pickKnownSpec)

/-- 'evenhandedlaw13.PickEarly', WHERE WHAT IT READS IS OF BULK AT MOST 1048576: true; the input reads as it did. -/
def pickEarlyUptoRow : OpenClaim := { program := "yticcgmlgiijjnaa", sum := "f42fb189366ea30cde2e2307155ee1db208c73effd7741340d170309edfd367c", func := "evenhanded/evenhandedlaw13.PickEarly", spec := "pickEarly", apart := false, narrowed := true }
def PickEarlyUptoSaid : Prop := pickEarlyUptoRow.holds Try.pinned (OpenSpec.upto pickEarlySpec)

/-- 'evenhandedlaw13.PickAlone', WHERE WHAT IT READS IS OF BULK AT MOST 1048576: true; the input reads as it did. -/
def pickAloneUptoRow : OpenClaim := { program := "yticcgmlgiijjnaa", sum := "f42fb189366ea30cde2e2307155ee1db208c73effd7741340d170309edfd367c", func := "evenhanded/evenhandedlaw13.PickAlone", spec := "pickAlone", apart := false, narrowed := true }
def PickAloneUptoSaid : Prop := pickAloneUptoRow.holds Try.pinned (OpenSpec.upto pickAloneSpec)

end Rows
end Go.Proofs.Yticcgmlgiijjnaa
