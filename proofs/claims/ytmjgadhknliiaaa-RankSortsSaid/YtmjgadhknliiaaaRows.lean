/-
  No cell of these rows narrows 'for every input' (looked for: loops, veiled, ifaces, maps, wideKeys, modest, calm, conditions, laid).
  DERIVED. THE GIVEN ROWS OF THIS SEAT. 5 by the template 'for every input the law returns true; each argument reads behind the call as it read before'; 0 by the template 'total and deterministic' (their statements: YtmjgadhknliiaaaTotals.lean).
  GIVEN WITH THE SEED: the statements are not yours to turn. If you find one false, say at which input.
  Laid BY PROGRAM, IN A SANDBOX (cutbox-rows.mjs): the forced cells as the released guide's own fill.sh prints them over the translation 43e359f2cae85f7c… (all of the seat's roots in one cut). By AI agents, Wed Nov 11 2026. No macro, syntax, notation, axiom, sorry.
-/
import Derived.Test.YtmjgadhknliiaaaChecked
import GoSem.Claim
import GoSem.ClaimJoined
import GoSem.ClaimMapViews
import Derived.JoinedTies
import Derived.KernelRfl
namespace Go.Proofs.Ytmjgadhknliiaaa
/- THE CELL 'sum', in the pinned program and in every row, IS THE sha256 OF THE DUMP (.gsa) THAT YtmjgadhknliiaaaProg.lean LOADS. Nothing in Lean hashes anything: it is a label: what it is worth is what the hold of that sum in a sandbox is worth. -/
noncomputable def Try.pinned : Pinned := { name := "ytmjgadhknliiaaa", sum := "43e359f2cae85f7c4e755b911ac823b852721c26d831a06718b13bd0983f5ce5", checked := Try.checked }
namespace Rows
def none {H : Type} : Left H := { results := [], args := [] }

/-- 'evenhandedlaw4.RankOrders': WHATEVER THE INPUT: true; the input reads as it did. -/
def rankOrdersSpec : ChangeSpec := { name := "rankOrders", fn := fun _ => fun
  | [d1, d2, d3] => { results := [.lit (.bool true)], args := [d1, d2, d3] }
  | _ => none }
def rankOrdersRow : OpenClaim := { program := "ytmjgadhknliiaaa", sum := "43e359f2cae85f7c4e755b911ac823b852721c26d831a06718b13bd0983f5ce5", func := "evenhanded/evenhandedlaw4.RankOrders", spec := "rankOrders", apart := false }
def RankOrdersSaid : Prop := rankOrdersRow.holds Try.pinned (OpenSpec.ofChange rankOrdersSpec)

/-- ITS FALSE NEIGHBOUR: 'it returns false'. Refute it at one input. -/
def rankOrdersWrong : ChangeSpec := { name := "rankOrders", fn := fun _ => fun
  | [d1, d2, d3] => { results := [.lit (.bool false)], args := [d1, d2, d3] }
  | _ => none }
def RankOrdersWrongFalsely : Prop := rankOrdersRow.holds Try.pinned (OpenSpec.ofChange rankOrdersWrong)

/-- 'evenhandedlaw4.RankLaws': WHATEVER THE INPUT: true; the input reads as it did. -/
def rankLawsSpec : ChangeSpec := { name := "rankLaws", fn := fun _ => fun
  | [d1, d2, d3] => { results := [.lit (.bool true)], args := [d1, d2, d3] }
  | _ => none }
def rankLawsRow : OpenClaim := { program := "ytmjgadhknliiaaa", sum := "43e359f2cae85f7c4e755b911ac823b852721c26d831a06718b13bd0983f5ce5", func := "evenhanded/evenhandedlaw4.RankLaws", spec := "rankLaws", apart := false }
def RankLawsSaid : Prop := rankLawsRow.holds Try.pinned (OpenSpec.ofChange rankLawsSpec)

/-- ITS FALSE NEIGHBOUR: 'it returns false'. Refute it at one input. -/
def rankLawsWrong : ChangeSpec := { name := "rankLaws", fn := fun _ => fun
  | [d1, d2, d3] => { results := [.lit (.bool false)], args := [d1, d2, d3] }
  | _ => none }
def RankLawsWrongFalsely : Prop := rankLawsRow.holds Try.pinned (OpenSpec.ofChange rankLawsWrong)

/-- 'evenhandedlaw4.RankRows': WHATEVER THE INPUT: true; the input reads as it did. -/
def rankRowsSpec : ChangeSpec := { name := "rankRows", fn := fun _ => fun
  | [d1, d2, d3] => { results := [.lit (.bool true)], args := [d1, d2, d3] }
  | _ => none }
def rankRowsRow : OpenClaim := { program := "ytmjgadhknliiaaa", sum := "43e359f2cae85f7c4e755b911ac823b852721c26d831a06718b13bd0983f5ce5", func := "evenhanded/evenhandedlaw4.RankRows", spec := "rankRows", apart := false }
def RankRowsSaid : Prop := rankRowsRow.holds Try.pinned (OpenSpec.ofChange rankRowsSpec)

/-- ITS FALSE NEIGHBOUR: 'it returns false'. Refute it at one input. -/
def rankRowsWrong : ChangeSpec := { name := "rankRows", fn := fun _ => fun
  | [d1, d2, d3] => { results := [.lit (.bool false)], args := [d1, d2, d3] }
  | _ => none }
def RankRowsWrongFalsely : Prop := rankRowsRow.holds Try.pinned (OpenSpec.ofChange rankRowsWrong)

/-- 'evenhandedlaw4.RankSorts': WHATEVER THE INPUT: true; the input reads as it did. -/
def rankSortsSpec : ChangeSpec := { name := "rankSorts", fn := fun _ => fun
  | [d] => { results := [.lit (.bool true)], args := [d] }
  | _ => none }
def rankSortsRow : OpenClaim := { program := "ytmjgadhknliiaaa", sum := "43e359f2cae85f7c4e755b911ac823b852721c26d831a06718b13bd0983f5ce5", func := "evenhanded/evenhandedlaw4.RankSorts", spec := "rankSorts", unfollowed := true, recurses := true, apart := false }
def RankSortsSaid : Prop := rankSortsRow.holds Try.pinned (OpenSpec.ofChange rankSortsSpec)

/-- ITS FALSE NEIGHBOUR: 'it returns false'. Refute it at one input. -/
def rankSortsWrong : ChangeSpec := { name := "rankSorts", fn := fun _ => fun
  | [d] => { results := [.lit (.bool false)], args := [d] }
  | _ => none }
def RankSortsWrongFalsely : Prop := rankSortsRow.holds Try.pinned (OpenSpec.ofChange rankSortsWrong)

/-- 'evenhandedlaw4.RankKnown': WHATEVER THE INPUT: true; the input reads as it did. -/
def rankKnownSpec : ChangeSpec := { name := "rankKnown", fn := fun _ => fun
  | [] => { results := [.lit (.bool true)], args := [] }
  | _ => none }
def rankKnownRow : OpenClaim := { program := "ytmjgadhknliiaaa", sum := "43e359f2cae85f7c4e755b911ac823b852721c26d831a06718b13bd0983f5ce5", func := "evenhanded/evenhandedlaw4.RankKnown", spec := "rankKnown", unfollowed := true, recurses := true, apart := false }
def RankKnownSaid : Prop := rankKnownRow.holds Try.pinned (OpenSpec.ofChange rankKnownSpec)

/-- ITS FALSE NEIGHBOUR: 'it returns false'. Refute it at one input. -/
def rankKnownWrong : ChangeSpec := { name := "rankKnown", fn := fun _ => fun
  | [] => { results := [.lit (.bool false)], args := [] }
  | _ => none }
def RankKnownWrongFalsely : Prop := rankKnownRow.holds Try.pinned (OpenSpec.ofChange rankKnownWrong)

/- THE SECOND FORM. 'bulk': how many values and letters a reading holds, each counted each time it is reached (what is shared counts as often as it is met; a slice's spare places count too). A statement '..UptoSaid' is the law's where the arguments, and the package variables that the reading takes, are together of bulk at most 1048576: NARROWER than '..Said'. Prove '..Said' where nothing that the law and all that it calls make is longer than what came in: it says more and counts as full. Else prove '..UptoSaid'. A law counts once. -/
mutual
def uptoBulk {H : Type} : DataW H → Nat
  | .lit (.string bytes) => bytes.length + 1
  | .lit _ => 1
  | .nil => 1
  | .ptr d => uptoBulk d + 1
  | .slice elems spare => uptoBulkAll elems + uptoBulkAll spare + 1
  | .agg parts => uptoBulkAll parts + 1
  | .iface _ d => uptoBulk d + 1
  | .map entries => uptoBulkEntries entries + 1
  | .held _ => 1
def uptoBulkAll {H : Type} : List (DataW H) → Nat
  | [] => 0
  | d :: r => uptoBulk d + uptoBulkAll r
def uptoBulkEntries {H : Type} : List (Lit × DataW H) → Nat
  | [] => 0
  | x :: r => uptoBulkEntry x + uptoBulkEntries r
def uptoBulkEntry {H : Type} : Lit × DataW H → Nat
  | (.string bytes, d) => bytes.length + uptoBulk d + 1
  | (_, d) => uptoBulk d + 1
 end
def uptoSmall : (H : Type) → List (DataW H) → Bool := fun _ ds => decide (uptoBulkAll ds ≤ 1048576)
def OpenSpec.upto (s : _root_.Go.ChangeSpec) : _root_.Go.OpenSpec := { _root_.Go.OpenSpec.ofChange s with cond := some uptoSmall }

/-- 'evenhandedlaw4.RankOrders', WHERE WHAT IT READS IS OF BULK AT MOST 1048576: true; the input reads as it did. -/
def rankOrdersUptoRow : OpenClaim := { program := "ytmjgadhknliiaaa", sum := "43e359f2cae85f7c4e755b911ac823b852721c26d831a06718b13bd0983f5ce5", func := "evenhanded/evenhandedlaw4.RankOrders", spec := "rankOrders", apart := false, narrowed := true }
def RankOrdersUptoSaid : Prop := rankOrdersUptoRow.holds Try.pinned (OpenSpec.upto rankOrdersSpec)

/-- 'evenhandedlaw4.RankLaws', WHERE WHAT IT READS IS OF BULK AT MOST 1048576: true; the input reads as it did. -/
def rankLawsUptoRow : OpenClaim := { program := "ytmjgadhknliiaaa", sum := "43e359f2cae85f7c4e755b911ac823b852721c26d831a06718b13bd0983f5ce5", func := "evenhanded/evenhandedlaw4.RankLaws", spec := "rankLaws", apart := false, narrowed := true }
def RankLawsUptoSaid : Prop := rankLawsUptoRow.holds Try.pinned (OpenSpec.upto rankLawsSpec)

/-- 'evenhandedlaw4.RankRows', WHERE WHAT IT READS IS OF BULK AT MOST 1048576: true; the input reads as it did. -/
def rankRowsUptoRow : OpenClaim := { program := "ytmjgadhknliiaaa", sum := "43e359f2cae85f7c4e755b911ac823b852721c26d831a06718b13bd0983f5ce5", func := "evenhanded/evenhandedlaw4.RankRows", spec := "rankRows", apart := false, narrowed := true }
def RankRowsUptoSaid : Prop := rankRowsUptoRow.holds Try.pinned (OpenSpec.upto rankRowsSpec)

/-- 'evenhandedlaw4.RankSorts', WHERE WHAT IT READS IS OF BULK AT MOST 1048576: true; the input reads as it did. -/
def rankSortsUptoRow : OpenClaim := { program := "ytmjgadhknliiaaa", sum := "43e359f2cae85f7c4e755b911ac823b852721c26d831a06718b13bd0983f5ce5", func := "evenhanded/evenhandedlaw4.RankSorts", spec := "rankSorts", unfollowed := true, recurses := true, apart := false, narrowed := true }
def RankSortsUptoSaid : Prop := rankSortsUptoRow.holds Try.pinned (OpenSpec.upto rankSortsSpec)

/-- 'evenhandedlaw4.RankKnown', WHERE WHAT IT READS IS OF BULK AT MOST 1048576: true; the input reads as it did. -/
def rankKnownUptoRow : OpenClaim := { program := "ytmjgadhknliiaaa", sum := "43e359f2cae85f7c4e755b911ac823b852721c26d831a06718b13bd0983f5ce5", func := "evenhanded/evenhandedlaw4.RankKnown", spec := "rankKnown", unfollowed := true, recurses := true, apart := false, narrowed := true }
def RankKnownUptoSaid : Prop := rankKnownUptoRow.holds Try.pinned (OpenSpec.upto rankKnownSpec)

end Rows
end Go.Proofs.Ytmjgadhknliiaaa
