/-
  No cell of these rows narrows 'for every input' (looked for: loops, veiled, ifaces, maps, wideKeys, modest, calm, conditions, laid).
  DERIVED. THE GIVEN ROWS OF THIS SEAT. 4 by the template 'for every input the law returns true; each argument reads behind the call as it read before'; 0 by the template 'total and deterministic' (their statements: YtfgmenndmcjggaaTotals.lean).
  GIVEN WITH THE SEED: the statements are not yours to turn. If you find one false, say at which input.
  Laid BY PROGRAM, IN A SANDBOX (cutbox-rows.mjs): the forced cells as the released guide's own fill.sh prints them over the translation 9bb232ddd43fa1ef… (all of the seat's roots in one cut). By AI agents, Wed Nov 11 2026. No macro, syntax, notation, axiom, sorry.
-/
import Derived.Test.YtfgmenndmcjggaaChecked
import GoSem.Claim
import GoSem.ClaimJoined
import GoSem.ClaimMapViews
import Derived.JoinedTies
import Derived.KernelRfl
namespace Go.Proofs.Ytfgmenndmcjggaa
/- THE CELL 'sum', in the pinned program and in every row, IS THE sha256 OF THE DUMP (.gsa) THAT YtfgmenndmcjggaaProg.lean LOADS. Nothing in Lean hashes anything: it is a label: what it is worth is what the hold of that sum in a sandbox is worth. -/
noncomputable def Try.pinned : Pinned := { name := "ytfgmenndmcjggaa", sum := "9bb232ddd43fa1ef88920265057118c85d62f8a89b3cc7208bc3db52141238ff", checked := Try.checked }
namespace Rows
def none {H : Type} : Left H := { results := [], args := [] }

/-- 'evenhandedlaw8.LedgerFills': WHATEVER THE INPUT: true; the input reads as it did. -/
def ledgerFillsSpec : ChangeSpec := { name := "ledgerFills", fn := fun _ => fun
  | [d1, d2, d3] => { results := [.lit (.bool true)], args := [d1, d2, d3] }
  | _ => none }
def ledgerFillsRow : OpenClaim := { program := "ytfgmenndmcjggaa", sum := "9bb232ddd43fa1ef88920265057118c85d62f8a89b3cc7208bc3db52141238ff", func := "evenhanded/evenhandedlaw8.LedgerFills", spec := "ledgerFills", inPlace := ["math/bits.Sub64", "math/bits.Add64"], named := ["math/bits.divideError", "math/bits.overflowError"], apart := false }
def LedgerFillsSaid : Prop := ledgerFillsRow.holds Try.pinned (OpenSpec.ofChange ledgerFillsSpec)

/-- ITS FALSE NEIGHBOUR: 'it returns false'. Refute it at one input. -/
def ledgerFillsWrong : ChangeSpec := { name := "ledgerFills", fn := fun _ => fun
  | [d1, d2, d3] => { results := [.lit (.bool false)], args := [d1, d2, d3] }
  | _ => none }
def LedgerFillsWrongFalsely : Prop := ledgerFillsRow.holds Try.pinned (OpenSpec.ofChange ledgerFillsWrong)

/-- 'evenhandedlaw8.LedgerKnown': WHATEVER THE INPUT: true; the input reads as it did. -/
def ledgerKnownSpec : ChangeSpec := { name := "ledgerKnown", fn := fun _ => fun
  | [] => { results := [.lit (.bool true)], args := [] }
  | _ => none }
def ledgerKnownRow : OpenClaim := { program := "ytfgmenndmcjggaa", sum := "9bb232ddd43fa1ef88920265057118c85d62f8a89b3cc7208bc3db52141238ff", func := "evenhanded/evenhandedlaw8.LedgerKnown", spec := "ledgerKnown", inPlace := ["math/bits.Sub64", "math/bits.Add64"], named := ["math/bits.divideError", "math/bits.overflowError"], apart := false }
def LedgerKnownSaid : Prop := ledgerKnownRow.holds Try.pinned (OpenSpec.ofChange ledgerKnownSpec)

/-- ITS FALSE NEIGHBOUR: 'it returns false'. Refute it at one input. -/
def ledgerKnownWrong : ChangeSpec := { name := "ledgerKnown", fn := fun _ => fun
  | [] => { results := [.lit (.bool false)], args := [] }
  | _ => none }
def LedgerKnownWrongFalsely : Prop := ledgerKnownRow.holds Try.pinned (OpenSpec.ofChange ledgerKnownWrong)

/-- 'evenhandedlaw8.LedgerPlays': WHATEVER THE INPUT: true; the input reads as it did. -/
def ledgerPlaysSpec : ChangeSpec := { name := "ledgerPlays", fn := fun _ => fun
  | [d1, d2] => { results := [.lit (.bool true)], args := [d1, d2] }
  | _ => none }
def ledgerPlaysRow : OpenClaim := { program := "ytfgmenndmcjggaa", sum := "9bb232ddd43fa1ef88920265057118c85d62f8a89b3cc7208bc3db52141238ff", func := "evenhanded/evenhandedlaw8.LedgerPlays", spec := "ledgerPlays", inPlace := ["math/bits.Sub64", "math/bits.Add64"], named := ["math/bits.divideError", "math/bits.overflowError"], apart := false }
def LedgerPlaysSaid : Prop := ledgerPlaysRow.holds Try.pinned (OpenSpec.ofChange ledgerPlaysSpec)

/-- ITS FALSE NEIGHBOUR: 'it returns false'. Refute it at one input. -/
def ledgerPlaysWrong : ChangeSpec := { name := "ledgerPlays", fn := fun _ => fun
  | [d1, d2] => { results := [.lit (.bool false)], args := [d1, d2] }
  | _ => none }
def LedgerPlaysWrongFalsely : Prop := ledgerPlaysRow.holds Try.pinned (OpenSpec.ofChange ledgerPlaysWrong)

/-- 'evenhandedlaw8.LedgerOrders': WHATEVER THE INPUT: true; the input reads as it did. -/
def ledgerOrdersSpec : ChangeSpec := { name := "ledgerOrders", fn := fun _ => fun
  | [d1, d2] => { results := [.lit (.bool true)], args := [d1, d2] }
  | _ => none }
def ledgerOrdersRow : OpenClaim := { program := "ytfgmenndmcjggaa", sum := "9bb232ddd43fa1ef88920265057118c85d62f8a89b3cc7208bc3db52141238ff", func := "evenhanded/evenhandedlaw8.LedgerOrders", spec := "ledgerOrders", inPlace := ["math/bits.Sub64", "math/bits.Add64"], unfollowed := true, recurses := true, named := ["math/bits.divideError", "math/bits.overflowError"], apart := false }
def LedgerOrdersSaid : Prop := ledgerOrdersRow.holds Try.pinned (OpenSpec.ofChange ledgerOrdersSpec)

/-- ITS FALSE NEIGHBOUR: 'it returns false'. Refute it at one input. -/
def ledgerOrdersWrong : ChangeSpec := { name := "ledgerOrders", fn := fun _ => fun
  | [d1, d2] => { results := [.lit (.bool false)], args := [d1, d2] }
  | _ => none }
def LedgerOrdersWrongFalsely : Prop := ledgerOrdersRow.holds Try.pinned (OpenSpec.ofChange ledgerOrdersWrong)

/- THE SECOND FORM. 'bulk': how many values and letters a reading holds, each counted each time it is reached (what is shared counts as often as it is met; a slice's spare places count too). A statement '..UptoSaid' is the law's where the arguments, and the package variables that the reading takes, are together of bulk at most 1048576: NARROWER than '..Said'. Prove '..Said' where nothing that the law and all that it calls make is longer than what came in: it says more and counts as full. Else prove '..UptoSaid'. A law counts once. -/
mutual
def uptoBulk {H : Type} : DataW H → Nat
  | .lit (.string bytes) => bytes.length + 1
  | .lit _ => 1
  | .nil => 1
  | .ptr d => uptoBulk d + 1
  | .slice elems spare => uptoBulkAll elems + uptoBulkAll spare + 1
  | .agg parts => uptoBulkAll parts + 1
  | .iface _ d => uptoBulk d + 1
  | .map entries => uptoBulkEntries entries + 1
  | .held _ => 1
def uptoBulkAll {H : Type} : List (DataW H) → Nat
  | [] => 0
  | d :: r => uptoBulk d + uptoBulkAll r
def uptoBulkEntries {H : Type} : List (Lit × DataW H) → Nat
  | [] => 0
  | x :: r => uptoBulkEntry x + uptoBulkEntries r
def uptoBulkEntry {H : Type} : Lit × DataW H → Nat
  | (.string bytes, d) => bytes.length + uptoBulk d + 1
  | (_, d) => uptoBulk d + 1
 end
def uptoSmall : (H : Type) → List (DataW H) → Bool := fun _ ds => decide (uptoBulkAll ds ≤ 1048576)
def OpenSpec.upto (s : _root_.Go.ChangeSpec) : _root_.Go.OpenSpec := { _root_.Go.OpenSpec.ofChange s with cond := some uptoSmall }

/-- 'evenhandedlaw8.LedgerFills', WHERE WHAT IT READS IS OF BULK AT MOST 1048576: true; the input reads as it did. -/
def ledgerFillsUptoRow : OpenClaim := { program := "ytfgmenndmcjggaa", sum := "9bb232ddd43fa1ef88920265057118c85d62f8a89b3cc7208bc3db52141238ff", func := "evenhanded/evenhandedlaw8.LedgerFills", spec := "ledgerFills", inPlace := ["math/bits.Sub64", "math/bits.Add64"], named := ["math/bits.divideError", "math/bits.overflowError"], apart := false, narrowed := true }
def LedgerFillsUptoSaid : Prop := ledgerFillsUptoRow.holds Try.pinned (OpenSpec.upto ledgerFillsSpec)

/-- 'evenhandedlaw8.LedgerKnown', WHERE WHAT IT READS IS OF BULK AT MOST 1048576: true; the input reads as it did. -/
def ledgerKnownUptoRow : OpenClaim := { program := "ytfgmenndmcjggaa", sum := "9bb232ddd43fa1ef88920265057118c85d62f8a89b3cc7208bc3db52141238ff", func := "evenhanded/evenhandedlaw8.LedgerKnown", spec := "ledgerKnown", inPlace := ["math/bits.Sub64", "math/bits.Add64"], named := ["math/bits.divideError", "math/bits.overflowError"], apart := false, narrowed := true }
def LedgerKnownUptoSaid : Prop := ledgerKnownUptoRow.holds Try.pinned (OpenSpec.upto ledgerKnownSpec)

/-- 'evenhandedlaw8.LedgerPlays', WHERE WHAT IT READS IS OF BULK AT MOST 1048576: true; the input reads as it did. -/
def ledgerPlaysUptoRow : OpenClaim := { program := "ytfgmenndmcjggaa", sum := "9bb232ddd43fa1ef88920265057118c85d62f8a89b3cc7208bc3db52141238ff", func := "evenhanded/evenhandedlaw8.LedgerPlays", spec := "ledgerPlays", inPlace := ["math/bits.Sub64", "math/bits.Add64"], named := ["math/bits.divideError", "math/bits.overflowError"], apart := false, narrowed := true }
def LedgerPlaysUptoSaid : Prop := ledgerPlaysUptoRow.holds Try.pinned (OpenSpec.upto ledgerPlaysSpec)

/-- 'evenhandedlaw8.LedgerOrders', WHERE WHAT IT READS IS OF BULK AT MOST 1048576: true; the input reads as it did. -/
def ledgerOrdersUptoRow : OpenClaim := { program := "ytfgmenndmcjggaa", sum := "9bb232ddd43fa1ef88920265057118c85d62f8a89b3cc7208bc3db52141238ff", func := "evenhanded/evenhandedlaw8.LedgerOrders", spec := "ledgerOrders", inPlace := ["math/bits.Sub64", "math/bits.Add64"], unfollowed := true, recurses := true, named := ["math/bits.divideError", "math/bits.overflowError"], apart := false, narrowed := true }
def LedgerOrdersUptoSaid : Prop := ledgerOrdersUptoRow.holds Try.pinned (OpenSpec.upto ledgerOrdersSpec)

end Rows
end Go.Proofs.Ytfgmenndmcjggaa
