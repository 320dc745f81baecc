/-
  No cell of these rows narrows 'for every input' (looked for: loops, veiled, ifaces, maps, wideKeys, modest, calm, conditions, laid).
  DERIVED. THE GIVEN ROWS OF THIS SEAT. 6 by the template 'for every input the law returns true; each argument reads behind the call as it read before'; 0 by the template 'total and deterministic' (their statements: YtpgecjedifcilaaTotals.lean).
  GIVEN WITH THE SEED: the statements are not yours to turn. If you find one false, say at which input.
  Laid BY PROGRAM, IN A SANDBOX (cutbox-rows.mjs): the forced cells as the released guide's own fill.sh prints them over the translation d6d2290fbf58a35a… (all of the seat's roots in one cut). By AI agents, Wed Nov 11 2026. No macro, syntax, notation, axiom, sorry.
-/
import Derived.Test.YtpgecjedifcilaaChecked
import GoSem.Claim
import GoSem.ClaimJoined
import GoSem.ClaimMapViews
import Derived.JoinedTies
import Derived.KernelRfl
namespace Go.Proofs.Ytpgecjedifcilaa
/- THE CELL 'sum', in the pinned program and in every row, IS THE sha256 OF THE DUMP (.gsa) THAT YtpgecjedifcilaaProg.lean LOADS. Nothing in Lean hashes anything: it is a label: what it is worth is what the hold of that sum in a sandbox is worth. -/
noncomputable def Try.pinned : Pinned := { name := "ytpgecjedifcilaa", sum := "d6d2290fbf58a35ad2da58e488eb15f6dd288a304dd928dec226c338ae52ea00", checked := Try.checked }
namespace Rows
def none {H : Type} : Left H := { results := [], args := [] }

/-- 'evenhandedlaw2.RatioOrder': WHATEVER THE INPUT: true; the input reads as it did. -/
def ratioOrderSpec : ChangeSpec := { name := "ratioOrder", fn := fun _ => fun
  | [d1, d2, d3] => { results := [.lit (.bool true)], args := [d1, d2, d3] }
  | _ => none }
def ratioOrderRow : OpenClaim := { program := "ytpgecjedifcilaa", sum := "d6d2290fbf58a35ad2da58e488eb15f6dd288a304dd928dec226c338ae52ea00", func := "evenhanded/evenhandedlaw2.RatioOrder", spec := "ratioOrder", inPlace := ["math/bits.Sub64", "math/bits.Add64"], named := ["math/bits.divideError", "math/bits.overflowError"], apart := false }
def RatioOrderSaid : Prop := ratioOrderRow.holds Try.pinned (OpenSpec.ofChange ratioOrderSpec)

/-- ITS FALSE NEIGHBOUR: 'it returns false'. Refute it at one input. -/
def ratioOrderWrong : ChangeSpec := { name := "ratioOrder", fn := fun _ => fun
  | [d1, d2, d3] => { results := [.lit (.bool false)], args := [d1, d2, d3] }
  | _ => none }
def RatioOrderWrongFalsely : Prop := ratioOrderRow.holds Try.pinned (OpenSpec.ofChange ratioOrderWrong)

/-- 'evenhandedlaw2.RatioParts': WHATEVER THE INPUT: true; the input reads as it did. -/
def ratioPartsSpec : ChangeSpec := { name := "ratioParts", fn := fun _ => fun
  | [d1, d2, d3] => { results := [.lit (.bool true)], args := [d1, d2, d3] }
  | _ => none }
def ratioPartsRow : OpenClaim := { program := "ytpgecjedifcilaa", sum := "d6d2290fbf58a35ad2da58e488eb15f6dd288a304dd928dec226c338ae52ea00", func := "evenhanded/evenhandedlaw2.RatioParts", spec := "ratioParts", inPlace := ["math/bits.Sub64", "math/bits.Add64"], named := ["math/bits.divideError", "math/bits.overflowError"], apart := false }
def RatioPartsSaid : Prop := ratioPartsRow.holds Try.pinned (OpenSpec.ofChange ratioPartsSpec)

/-- ITS FALSE NEIGHBOUR: 'it returns false'. Refute it at one input. -/
def ratioPartsWrong : ChangeSpec := { name := "ratioParts", fn := fun _ => fun
  | [d1, d2, d3] => { results := [.lit (.bool false)], args := [d1, d2, d3] }
  | _ => none }
def RatioPartsWrongFalsely : Prop := ratioPartsRow.holds Try.pinned (OpenSpec.ofChange ratioPartsWrong)

/-- 'evenhandedlaw2.RatioReckons': WHATEVER THE INPUT: true; the input reads as it did. -/
def ratioReckonsSpec : ChangeSpec := { name := "ratioReckons", fn := fun _ => fun
  | [d1, d2] => { results := [.lit (.bool true)], args := [d1, d2] }
  | _ => none }
def ratioReckonsRow : OpenClaim := { program := "ytpgecjedifcilaa", sum := "d6d2290fbf58a35ad2da58e488eb15f6dd288a304dd928dec226c338ae52ea00", func := "evenhanded/evenhandedlaw2.RatioReckons", spec := "ratioReckons", inPlace := ["math/bits.Sub64", "math/bits.Add64"], named := ["math/bits.divideError", "math/bits.overflowError"], apart := false }
def RatioReckonsSaid : Prop := ratioReckonsRow.holds Try.pinned (OpenSpec.ofChange ratioReckonsSpec)

/-- ITS FALSE NEIGHBOUR: 'it returns false'. Refute it at one input. -/
def ratioReckonsWrong : ChangeSpec := { name := "ratioReckons", fn := fun _ => fun
  | [d1, d2] => { results := [.lit (.bool false)], args := [d1, d2] }
  | _ => none }
def RatioReckonsWrongFalsely : Prop := ratioReckonsRow.holds Try.pinned (OpenSpec.ofChange ratioReckonsWrong)

/-- 'evenhandedlaw2.RatioMay': WHATEVER THE INPUT: true; the input reads as it did. -/
def ratioMaySpec : ChangeSpec := { name := "ratioMay", fn := fun _ => fun
  | [d1, d2] => { results := [.lit (.bool true)], args := [d1, d2] }
  | _ => none }
def ratioMayRow : OpenClaim := { program := "ytpgecjedifcilaa", sum := "d6d2290fbf58a35ad2da58e488eb15f6dd288a304dd928dec226c338ae52ea00", func := "evenhanded/evenhandedlaw2.RatioMay", spec := "ratioMay", inPlace := ["math/bits.Sub64", "math/bits.Add64"], unfollowed := true, recurses := true, named := ["math/bits.divideError", "math/bits.overflowError"], apart := false }
def RatioMaySaid : Prop := ratioMayRow.holds Try.pinned (OpenSpec.ofChange ratioMaySpec)

/-- ITS FALSE NEIGHBOUR: 'it returns false'. Refute it at one input. -/
def ratioMayWrong : ChangeSpec := { name := "ratioMay", fn := fun _ => fun
  | [d1, d2] => { results := [.lit (.bool false)], args := [d1, d2] }
  | _ => none }
def RatioMayWrongFalsely : Prop := ratioMayRow.holds Try.pinned (OpenSpec.ofChange ratioMayWrong)

/-- 'evenhandedlaw2.RatioKnown': WHATEVER THE INPUT: true; the input reads as it did. -/
def ratioKnownSpec : ChangeSpec := { name := "ratioKnown", fn := fun _ => fun
  | [] => { results := [.lit (.bool true)], args := [] }
  | _ => none }
def ratioKnownRow : OpenClaim := { program := "ytpgecjedifcilaa", sum := "d6d2290fbf58a35ad2da58e488eb15f6dd288a304dd928dec226c338ae52ea00", func := "evenhanded/evenhandedlaw2.RatioKnown", spec := "ratioKnown", inPlace := ["math/bits.Sub64", "math/bits.Add64"], named := ["math/bits.divideError", "math/bits.overflowError"], apart := false }
def RatioKnownSaid : Prop := ratioKnownRow.holds Try.pinned (OpenSpec.ofChange ratioKnownSpec)

/-- ITS FALSE NEIGHBOUR: 'it returns false'. Refute it at one input. -/
def ratioKnownWrong : ChangeSpec := { name := "ratioKnown", fn := fun _ => fun
  | [] => { results := [.lit (.bool false)], args := [] }
  | _ => none }
def RatioKnownWrongFalsely : Prop := ratioKnownRow.holds Try.pinned (OpenSpec.ofChange ratioKnownWrong)

/-- 'evenhandedlaw2.RatioLaws': WHATEVER THE INPUT: true; the input reads as it did. -/
def ratioLawsSpec : ChangeSpec := { name := "ratioLaws", fn := fun _ => fun
  | [d1, d2, d3] => { results := [.lit (.bool true)], args := [d1, d2, d3] }
  | _ => none }
def ratioLawsRow : OpenClaim := { program := "ytpgecjedifcilaa", sum := "d6d2290fbf58a35ad2da58e488eb15f6dd288a304dd928dec226c338ae52ea00", func := "evenhanded/evenhandedlaw2.RatioLaws", spec := "ratioLaws", inPlace := ["math/bits.Sub64", "math/bits.Add64"], named := ["math/bits.divideError", "math/bits.overflowError"], apart := false }
def RatioLawsSaid : Prop := ratioLawsRow.holds Try.pinned (OpenSpec.ofChange ratioLawsSpec)

/-- ITS FALSE NEIGHBOUR: 'it returns false'. Refute it at one input. -/
def ratioLawsWrong : ChangeSpec := { name := "ratioLaws", fn := fun _ => fun
  | [d1, d2, d3] => { results := [.lit (.bool false)], args := [d1, d2, d3] }
  | _ => none }
def RatioLawsWrongFalsely : Prop := ratioLawsRow.holds Try.pinned (OpenSpec.ofChange ratioLawsWrong)

/- THE SECOND FORM. 'bulk': how many values and letters a reading holds, each counted each time it is reached (what is shared counts as often as it is met; a slice's spare places count too). A statement '..UptoSaid' is the law's where the arguments, and the package variables that the reading takes, are together of bulk at most 1048576: NARROWER than '..Said'. Prove '..Said' where nothing that the law and all that it calls make is longer than what came in: it says more and counts as full. Else prove '..UptoSaid'. A law counts once. -/
mutual
def uptoBulk {H : Type} : DataW H → Nat
  | .lit (.string bytes) => bytes.length + 1
  | .lit _ => 1
  | .nil => 1
  | .ptr d => uptoBulk d + 1
  | .slice elems spare => uptoBulkAll elems + uptoBulkAll spare + 1
  | .agg parts => uptoBulkAll parts + 1
  | .iface _ d => uptoBulk d + 1
  | .map entries => uptoBulkEntries entries + 1
  | .held _ => 1
def uptoBulkAll {H : Type} : List (DataW H) → Nat
  | [] => 0
  | d :: r => uptoBulk d + uptoBulkAll r
def uptoBulkEntries {H : Type} : List (Lit × DataW H) → Nat
  | [] => 0
  | x :: r => uptoBulkEntry x + uptoBulkEntries r
def uptoBulkEntry {H : Type} : Lit × DataW H → Nat
  | (.string bytes, d) => bytes.length + uptoBulk d + 1
  | (_, d) => uptoBulk d + 1
 end
def uptoSmall : (H : Type) → List (DataW H) → Bool := fun _ ds => decide (uptoBulkAll ds ≤ 1048576)
def OpenSpec.upto (s : _root_.Go.ChangeSpec) : _root_.Go.OpenSpec := { _root_.Go.OpenSpec.ofChange s with cond := some uptoSmall }

/-- 'evenhandedlaw2.RatioOrder', WHERE WHAT IT READS IS OF BULK AT MOST 1048576: true; the input reads as it did. -/
def ratioOrderUptoRow : OpenClaim := { program := "ytpgecjedifcilaa", sum := "d6d2290fbf58a35ad2da58e488eb15f6dd288a304dd928dec226c338ae52ea00", func := "evenhanded/evenhandedlaw2.RatioOrder", spec := "ratioOrder", inPlace := ["math/bits.Sub64", "math/bits.Add64"], named := ["math/bits.divideError", "math/bits.overflowError"], apart := false, narrowed := true }
def RatioOrderUptoSaid : Prop := ratioOrderUptoRow.holds Try.pinned (OpenSpec.upto ratioOrderSpec)

/-- 'evenhandedlaw2.RatioParts', WHERE WHAT IT READS IS OF BULK AT MOST 1048576: true; the input reads as it did. -/
def ratioPartsUptoRow : OpenClaim := { program := "ytpgecjedifcilaa", sum := "d6d2290fbf58a35ad2da58e488eb15f6dd288a304dd928dec226c338ae52ea00", func := "evenhanded/evenhandedlaw2.RatioParts", spec := "ratioParts", inPlace := ["math/bits.Sub64", "math/bits.Add64"], named := ["math/bits.divideError", "math/bits.overflowError"], apart := false, narrowed := true }
def RatioPartsUptoSaid : Prop := ratioPartsUptoRow.holds Try.pinned (OpenSpec.upto ratioPartsSpec)

/-- 'evenhandedlaw2.RatioReckons', WHERE WHAT IT READS IS OF BULK AT MOST 1048576: true; the input reads as it did. -/
def ratioReckonsUptoRow : OpenClaim := { program := "ytpgecjedifcilaa", sum := "d6d2290fbf58a35ad2da58e488eb15f6dd288a304dd928dec226c338ae52ea00", func := "evenhanded/evenhandedlaw2.RatioReckons", spec := "ratioReckons", inPlace := ["math/bits.Sub64", "math/bits.Add64"], named := ["math/bits.divideError", "math/bits.overflowError"], apart := false, narrowed := true }
def RatioReckonsUptoSaid : Prop := ratioReckonsUptoRow.holds Try.pinned (OpenSpec.upto ratioReckonsSpec)

/-- 'evenhandedlaw2.RatioMay', WHERE WHAT IT READS IS OF BULK AT MOST 1048576: true; the input reads as it did. -/
def ratioMayUptoRow : OpenClaim := { program := "ytpgecjedifcilaa", sum := "d6d2290fbf58a35ad2da58e488eb15f6dd288a304dd928dec226c338ae52ea00", func := "evenhanded/evenhandedlaw2.RatioMay", spec := "ratioMay", inPlace := ["math/bits.Sub64", "math/bits.Add64"], unfollowed := true, recurses := true, named := ["math/bits.divideError", "math/bits.overflowError"], apart := false, narrowed := true }
def RatioMayUptoSaid : Prop := ratioMayUptoRow.holds Try.pinned (OpenSpec.upto ratioMaySpec)

/-- 'evenhandedlaw2.RatioKnown', WHERE WHAT IT READS IS OF BULK AT MOST 1048576: true; the input reads as it did. -/
def ratioKnownUptoRow : OpenClaim := { program := "ytpgecjedifcilaa", sum := "d6d2290fbf58a35ad2da58e488eb15f6dd288a304dd928dec226c338ae52ea00", func := "evenhanded/evenhandedlaw2.RatioKnown", spec := "ratioKnown", inPlace := ["math/bits.Sub64", "math/bits.Add64"], named := ["math/bits.divideError", "math/bits.overflowError"], apart := false, narrowed := true }
def RatioKnownUptoSaid : Prop := ratioKnownUptoRow.holds Try.pinned (OpenSpec.upto ratioKnownSpec)

/-- 'evenhandedlaw2.RatioLaws', WHERE WHAT IT READS IS OF BULK AT MOST 1048576: true; the input reads as it did. -/
def ratioLawsUptoRow : OpenClaim := { program := "ytpgecjedifcilaa", sum := "d6d2290fbf58a35ad2da58e488eb15f6dd288a304dd928dec226c338ae52ea00", func := "evenhanded/evenhandedlaw2.RatioLaws", spec := "ratioLaws", inPlace := ["math/bits.Sub64", "math/bits.Add64"], named := ["math/bits.divideError", "math/bits.overflowError"], apart := false, narrowed := true }
def RatioLawsUptoSaid : Prop := ratioLawsUptoRow.holds Try.pinned (OpenSpec.upto ratioLawsSpec)

end Rows
end Go.Proofs.Ytpgecjedifcilaa
