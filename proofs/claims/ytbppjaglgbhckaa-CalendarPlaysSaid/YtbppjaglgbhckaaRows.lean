/-
  No cell of these rows narrows 'for every input' (looked for: loops, veiled, ifaces, maps, wideKeys, modest, calm, conditions, laid).
  DERIVED. THE GIVEN ROWS OF THIS SEAT. 4 by the template 'for every input the law returns true; each argument reads behind the call as it read before'; 0 by the template 'total and deterministic' (their statements: YtbppjaglgbhckaaTotals.lean).
  GIVEN WITH THE SEED: the statements are not yours to turn. If you find one false, say at which input.
  Laid BY PROGRAM, IN A SANDBOX (cutbox-rows.mjs): the forced cells as the released guide's own fill.sh prints them over the translation ec8251ee323b1027… (all of the seat's roots in one cut). By AI agents, Wed Nov 11 2026. No macro, syntax, notation, axiom, sorry.
-/
import Derived.Test.YtbppjaglgbhckaaChecked
import GoSem.Claim
import GoSem.ClaimJoined
import GoSem.ClaimMapViews
import Derived.JoinedTies
import Derived.KernelRfl
namespace Go.Proofs.Ytbppjaglgbhckaa
/- THE CELL 'sum', in the pinned program and in every row, IS THE sha256 OF THE DUMP (.gsa) THAT YtbppjaglgbhckaaProg.lean LOADS. Nothing in Lean hashes anything: it is a label: what it is worth is what the hold of that sum in a sandbox is worth. -/
noncomputable def Try.pinned : Pinned := { name := "ytbppjaglgbhckaa", sum := "ec8251ee323b1027d6ba419eac6047e62605acc0c4764784f71391301105a99a", checked := Try.checked }
namespace Rows
def none {H : Type} : Left H := { results := [], args := [] }

/-- 'evenhandedlaw7.CalendarTurns': WHATEVER THE INPUT: true; the input reads as it did. -/
def calendarTurnsSpec : ChangeSpec := { name := "calendarTurns", fn := fun _ => fun
  | [d] => { results := [.lit (.bool true)], args := [d] }
  | _ => none }
def calendarTurnsRow : OpenClaim := { program := "ytbppjaglgbhckaa", sum := "ec8251ee323b1027d6ba419eac6047e62605acc0c4764784f71391301105a99a", func := "evenhanded/evenhandedlaw7.CalendarTurns", spec := "calendarTurns", inPlace := ["slices.overlaps[evenhanded/calendar.day]"], unfollowed := true, recurses := true, apart := false }
def CalendarTurnsSaid : Prop := calendarTurnsRow.holds Try.pinned (OpenSpec.ofChange calendarTurnsSpec)

/-- ITS FALSE NEIGHBOUR: 'it returns false'. Refute it at one input. -/
def calendarTurnsWrong : ChangeSpec := { name := "calendarTurns", fn := fun _ => fun
  | [d] => { results := [.lit (.bool false)], args := [d] }
  | _ => none }
def CalendarTurnsWrongFalsely : Prop := calendarTurnsRow.holds Try.pinned (OpenSpec.ofChange calendarTurnsWrong)

/-- 'evenhandedlaw7.CalendarPlays': WHATEVER THE INPUT: true; the input reads as it did. -/
def calendarPlaysSpec : ChangeSpec := { name := "calendarPlays", fn := fun _ => fun
  | [d] => { results := [.lit (.bool true)], args := [d] }
  | _ => none }
def calendarPlaysRow : OpenClaim := { program := "ytbppjaglgbhckaa", sum := "ec8251ee323b1027d6ba419eac6047e62605acc0c4764784f71391301105a99a", func := "evenhanded/evenhandedlaw7.CalendarPlays", spec := "calendarPlays", inPlace := ["slices.overlaps[evenhanded/calendar.day]"], unfollowed := true, recurses := true, apart := false }
def CalendarPlaysSaid : Prop := calendarPlaysRow.holds Try.pinned (OpenSpec.ofChange calendarPlaysSpec)

/-- ITS FALSE NEIGHBOUR: 'it returns false'. Refute it at one input. -/
def calendarPlaysWrong : ChangeSpec := { name := "calendarPlays", fn := fun _ => fun
  | [d] => { results := [.lit (.bool false)], args := [d] }
  | _ => none }
def CalendarPlaysWrongFalsely : Prop := calendarPlaysRow.holds Try.pinned (OpenSpec.ofChange calendarPlaysWrong)

/-- 'evenhandedlaw7.CalendarKnown': WHATEVER THE INPUT: true; the input reads as it did. -/
def calendarKnownSpec : ChangeSpec := { name := "calendarKnown", fn := fun _ => fun
  | [] => { results := [.lit (.bool true)], args := [] }
  | _ => none }
def calendarKnownRow : OpenClaim := { program := "ytbppjaglgbhckaa", sum := "ec8251ee323b1027d6ba419eac6047e62605acc0c4764784f71391301105a99a", func := "evenhanded/evenhandedlaw7.CalendarKnown", spec := "calendarKnown", inPlace := ["slices.overlaps[evenhanded/calendar.day]"], unfollowed := true, recurses := true, apart := false }
def CalendarKnownSaid : Prop := calendarKnownRow.holds Try.pinned (OpenSpec.ofChange calendarKnownSpec)

/-- ITS FALSE NEIGHBOUR: 'it returns false'. Refute it at one input. -/
def calendarKnownWrong : ChangeSpec := { name := "calendarKnown", fn := fun _ => fun
  | [] => { results := [.lit (.bool false)], args := [] }
  | _ => none }
def CalendarKnownWrongFalsely : Prop := calendarKnownRow.holds Try.pinned (OpenSpec.ofChange calendarKnownWrong)

/-- 'evenhandedlaw7.CalendarDrops': WHATEVER THE INPUT: true; the input reads as it did. -/
def calendarDropsSpec : ChangeSpec := { name := "calendarDrops", fn := fun _ => fun
  | [d1, d2] => { results := [.lit (.bool true)], args := [d1, d2] }
  | _ => none }
def calendarDropsRow : OpenClaim := { program := "ytbppjaglgbhckaa", sum := "ec8251ee323b1027d6ba419eac6047e62605acc0c4764784f71391301105a99a", func := "evenhanded/evenhandedlaw7.CalendarDrops", spec := "calendarDrops", inPlace := ["slices.overlaps[evenhanded/calendar.day]"], unfollowed := true, recurses := true, apart := false }
def CalendarDropsSaid : Prop := calendarDropsRow.holds Try.pinned (OpenSpec.ofChange calendarDropsSpec)

/-- ITS FALSE NEIGHBOUR: 'it returns false'. Refute it at one input. -/
def calendarDropsWrong : ChangeSpec := { name := "calendarDrops", fn := fun _ => fun
  | [d1, d2] => { results := [.lit (.bool false)], args := [d1, d2] }
  | _ => none }
def CalendarDropsWrongFalsely : Prop := calendarDropsRow.holds Try.pinned (OpenSpec.ofChange calendarDropsWrong)

/- THE SECOND FORM. 'bulk': how many values and letters a reading holds, each counted each time it is reached (what is shared counts as often as it is met; a slice's spare places count too). A statement '..UptoSaid' is the law's where the arguments, and the package variables that the reading takes, are together of bulk at most 1048576: NARROWER than '..Said'. Prove '..Said' where nothing that the law and all that it calls make is longer than what came in: it says more and counts as full. Else prove '..UptoSaid'. A law counts once. -/
mutual
def uptoBulk {H : Type} : DataW H → Nat
  | .lit (.string bytes) => bytes.length + 1
  | .lit _ => 1
  | .nil => 1
  | .ptr d => uptoBulk d + 1
  | .slice elems spare => uptoBulkAll elems + uptoBulkAll spare + 1
  | .agg parts => uptoBulkAll parts + 1
  | .iface _ d => uptoBulk d + 1
  | .map entries => uptoBulkEntries entries + 1
  | .held _ => 1
def uptoBulkAll {H : Type} : List (DataW H) → Nat
  | [] => 0
  | d :: r => uptoBulk d + uptoBulkAll r
def uptoBulkEntries {H : Type} : List (Lit × DataW H) → Nat
  | [] => 0
  | x :: r => uptoBulkEntry x + uptoBulkEntries r
def uptoBulkEntry {H : Type} : Lit × DataW H → Nat
  | (.string bytes, d) => bytes.length + uptoBulk d + 1
  | (_, d) => uptoBulk d + 1
 end
def uptoSmall : (H : Type) → List (DataW H) → Bool := fun _ ds => decide (uptoBulkAll ds ≤ 1048576)
def OpenSpec.upto (s : _root_.Go.ChangeSpec) : _root_.Go.OpenSpec := { _root_.Go.OpenSpec.ofChange s with cond := some uptoSmall }

/-- 'evenhandedlaw7.CalendarTurns', WHERE WHAT IT READS IS OF BULK AT MOST 1048576: true; the input reads as it did. -/
def calendarTurnsUptoRow : OpenClaim := { program := "ytbppjaglgbhckaa", sum := "ec8251ee323b1027d6ba419eac6047e62605acc0c4764784f71391301105a99a", func := "evenhanded/evenhandedlaw7.CalendarTurns", spec := "calendarTurns", inPlace := ["slices.overlaps[evenhanded/calendar.day]"], unfollowed := true, recurses := true, apart := false, narrowed := true }
def CalendarTurnsUptoSaid : Prop := calendarTurnsUptoRow.holds Try.pinned (OpenSpec.upto calendarTurnsSpec)

/-- 'evenhandedlaw7.CalendarPlays', WHERE WHAT IT READS IS OF BULK AT MOST 1048576: true; the input reads as it did. -/
def calendarPlaysUptoRow : OpenClaim := { program := "ytbppjaglgbhckaa", sum := "ec8251ee323b1027d6ba419eac6047e62605acc0c4764784f71391301105a99a", func := "evenhanded/evenhandedlaw7.CalendarPlays", spec := "calendarPlays", inPlace := ["slices.overlaps[evenhanded/calendar.day]"], unfollowed := true, recurses := true, apart := false, narrowed := true }
def CalendarPlaysUptoSaid : Prop := calendarPlaysUptoRow.holds Try.pinned (OpenSpec.upto calendarPlaysSpec)

/-- 'evenhandedlaw7.CalendarKnown', WHERE WHAT IT READS IS OF BULK AT MOST 1048576: true; the input reads as it did. -/
def calendarKnownUptoRow : OpenClaim := { program := "ytbppjaglgbhckaa", sum := "ec8251ee323b1027d6ba419eac6047e62605acc0c4764784f71391301105a99a", func := "evenhanded/evenhandedlaw7.CalendarKnown", spec := "calendarKnown", inPlace := ["slices.overlaps[evenhanded/calendar.day]"], unfollowed := true, recurses := true, apart := false, narrowed := true }
def CalendarKnownUptoSaid : Prop := calendarKnownUptoRow.holds Try.pinned (OpenSpec.upto calendarKnownSpec)

/-- 'evenhandedlaw7.CalendarDrops', WHERE WHAT IT READS IS OF BULK AT MOST 1048576: true; the input reads as it did. -/
def calendarDropsUptoRow : OpenClaim := { program := "ytbppjaglgbhckaa", sum := "ec8251ee323b1027d6ba419eac6047e62605acc0c4764784f71391301105a99a", func := "evenhanded/evenhandedlaw7.CalendarDrops", spec := "calendarDrops", inPlace := ["slices.overlaps[evenhanded/calendar.day]"], unfollowed := true, recurses := true, apart := false, narrowed := true }
def CalendarDropsUptoSaid : Prop := calendarDropsUptoRow.holds Try.pinned (OpenSpec.upto calendarDropsSpec)

end Rows
end Go.Proofs.Ytbppjaglgbhckaa
