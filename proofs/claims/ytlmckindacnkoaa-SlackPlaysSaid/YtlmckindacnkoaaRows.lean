/-
  No cell of these rows narrows 'for every input' (looked for: loops, veiled, ifaces, maps, wideKeys, modest, calm, conditions, laid).
  DERIVED. THE GIVEN ROWS OF THIS SEAT. 5 by the template 'for every input the law returns true; each argument reads behind the call as it read before'; 0 by the template 'total and deterministic' (their statements: YtlmckindacnkoaaTotals.lean).
  GIVEN WITH THE SEED: the statements are not yours to turn. If you find one false, say at which input.
  Laid BY PROGRAM, IN A SANDBOX (cutbox-rows.mjs): the forced cells as the released guide's own fill.sh prints them over the translation 34365379976fd492… (all of the seat's roots in one cut). By AI agents, Wed Nov 11 2026. No macro, syntax, notation, axiom, sorry.
-/
import Derived.Test.YtlmckindacnkoaaChecked
import GoSem.Claim
import GoSem.ClaimJoined
import GoSem.ClaimMapViews
import Derived.JoinedTies
import Derived.KernelRfl
namespace Go.Proofs.Ytlmckindacnkoaa
/- THE CELL 'sum', in the pinned program and in every row, IS THE sha256 OF THE DUMP (.gsa) THAT YtlmckindacnkoaaProg.lean LOADS. Nothing in Lean hashes anything: it is a label: what it is worth is what the hold of that sum in a sandbox is worth. -/
noncomputable def Try.pinned : Pinned := { name := "ytlmckindacnkoaa", sum := "34365379976fd4929dd8aa9a90053bf3b5e4898e7bea35f7ef6170b630cbf16b", checked := Try.checked }
namespace Rows
def none {H : Type} : Left H := { results := [], args := [] }

/-- 'evenhandedlaw21.SlackPlays': WHATEVER THE INPUT: true; the input reads as it did. -/
def slackPlaysSpec : ChangeSpec := { name := "slackPlays", fn := fun _ => fun
  | [d] => { results := [.lit (.bool true)], args := [d] }
  | _ => none }
def slackPlaysRow : OpenClaim := { program := "ytlmckindacnkoaa", sum := "34365379976fd4929dd8aa9a90053bf3b5e4898e7bea35f7ef6170b630cbf16b", func := "evenhanded/evenhandedlaw21.SlackPlays", spec := "slackPlays", unfollowed := true, recurses := true, apart := false }
def SlackPlaysSaid : Prop := slackPlaysRow.holds Try.pinned (OpenSpec.ofChange slackPlaysSpec)

/-- ITS FALSE NEIGHBOUR: 'it returns false'. Refute it at one input. -/
def slackPlaysWrong : ChangeSpec := { name := "slackPlays", fn := fun _ => fun
  | [d] => { results := [.lit (.bool false)], args := [d] }
  | _ => none }
def SlackPlaysWrongFalsely : Prop := slackPlaysRow.holds Try.pinned (OpenSpec.ofChange slackPlaysWrong)

/-- 'evenhandedlaw21.SlackSums': WHATEVER THE INPUT: true; the input reads as it did. -/
def slackSumsSpec : ChangeSpec := { name := "slackSums", fn := fun _ => fun
  | [d1, d2] => { results := [.lit (.bool true)], args := [d1, d2] }
  | _ => none }
def slackSumsRow : OpenClaim := { program := "ytlmckindacnkoaa", sum := "34365379976fd4929dd8aa9a90053bf3b5e4898e7bea35f7ef6170b630cbf16b", func := "evenhanded/evenhandedlaw21.SlackSums", spec := "slackSums", unfollowed := true, recurses := true, apart := false }
def SlackSumsSaid : Prop := slackSumsRow.holds Try.pinned (OpenSpec.ofChange slackSumsSpec)

/-- ITS FALSE NEIGHBOUR: 'it returns false'. Refute it at one input. -/
def slackSumsWrong : ChangeSpec := { name := "slackSums", fn := fun _ => fun
  | [d1, d2] => { results := [.lit (.bool false)], args := [d1, d2] }
  | _ => none }
def SlackSumsWrongFalsely : Prop := slackSumsRow.holds Try.pinned (OpenSpec.ofChange slackSumsWrong)

/-- 'evenhandedlaw21.SlackKnown': WHATEVER THE INPUT: true; the input reads as it did. -/
def slackKnownSpec : ChangeSpec := { name := "slackKnown", fn := fun _ => fun
  | [] => { results := [.lit (.bool true)], args := [] }
  | _ => none }
def slackKnownRow : OpenClaim := { program := "ytlmckindacnkoaa", sum := "34365379976fd4929dd8aa9a90053bf3b5e4898e7bea35f7ef6170b630cbf16b", func := "evenhanded/evenhandedlaw21.SlackKnown", spec := "slackKnown", unfollowed := true, recurses := true, apart := false }
def SlackKnownSaid : Prop := slackKnownRow.holds Try.pinned (OpenSpec.ofChange slackKnownSpec)

/-- ITS FALSE NEIGHBOUR: 'it returns false'. Refute it at one input. -/
def slackKnownWrong : ChangeSpec := { name := "slackKnown", fn := fun _ => fun
  | [] => { results := [.lit (.bool false)], args := [] }
  | _ => none }
def SlackKnownWrongFalsely : Prop := slackKnownRow.holds Try.pinned (OpenSpec.ofChange slackKnownWrong)

/-- 'evenhandedlaw21.SlackOrder': WHATEVER THE INPUT: true; the input reads as it did. -/
def slackOrderSpec : ChangeSpec := { name := "slackOrder", fn := fun _ => fun
  | [d1, d2, d3] => { results := [.lit (.bool true)], args := [d1, d2, d3] }
  | _ => none }
def slackOrderRow : OpenClaim := { program := "ytlmckindacnkoaa", sum := "34365379976fd4929dd8aa9a90053bf3b5e4898e7bea35f7ef6170b630cbf16b", func := "evenhanded/evenhandedlaw21.SlackOrder", spec := "slackOrder", unfollowed := true, recurses := true, apart := false }
def SlackOrderSaid : Prop := slackOrderRow.holds Try.pinned (OpenSpec.ofChange slackOrderSpec)

/-- ITS FALSE NEIGHBOUR: 'it returns false'. Refute it at one input. -/
def slackOrderWrong : ChangeSpec := { name := "slackOrder", fn := fun _ => fun
  | [d1, d2, d3] => { results := [.lit (.bool false)], args := [d1, d2, d3] }
  | _ => none }
def SlackOrderWrongFalsely : Prop := slackOrderRow.holds Try.pinned (OpenSpec.ofChange slackOrderWrong)

/-- 'evenhandedlaw21.SlackOnce': WHATEVER THE INPUT: true; the input reads as it did. -/
def slackOnceSpec : ChangeSpec := { name := "slackOnce", fn := fun _ => fun
  | [d] => { results := [.lit (.bool true)], args := [d] }
  | _ => none }
def slackOnceRow : OpenClaim := { program := "ytlmckindacnkoaa", sum := "34365379976fd4929dd8aa9a90053bf3b5e4898e7bea35f7ef6170b630cbf16b", func := "evenhanded/evenhandedlaw21.SlackOnce", spec := "slackOnce", unfollowed := true, recurses := true, apart := false }
def SlackOnceSaid : Prop := slackOnceRow.holds Try.pinned (OpenSpec.ofChange slackOnceSpec)

/-- ITS FALSE NEIGHBOUR: 'it returns false'. Refute it at one input. -/
def slackOnceWrong : ChangeSpec := { name := "slackOnce", fn := fun _ => fun
  | [d] => { results := [.lit (.bool false)], args := [d] }
  | _ => none }
def SlackOnceWrongFalsely : Prop := slackOnceRow.holds Try.pinned (OpenSpec.ofChange slackOnceWrong)

/- THE SECOND FORM. 'bulk': how many values and letters a reading holds, each counted each time it is reached (what is shared counts as often as it is met; a slice's spare places count too). A statement '..UptoSaid' is the law's where the arguments, and the package variables that the reading takes, are together of bulk at most 1048576: NARROWER than '..Said'. Prove '..Said' where nothing that the law and all that it calls make is longer than what came in: it says more and counts as full. Else prove '..UptoSaid'. A law counts once. -/
mutual
def uptoBulk {H : Type} : DataW H → Nat
  | .lit (.string bytes) => bytes.length + 1
  | .lit _ => 1
  | .nil => 1
  | .ptr d => uptoBulk d + 1
  | .slice elems spare => uptoBulkAll elems + uptoBulkAll spare + 1
  | .agg parts => uptoBulkAll parts + 1
  | .iface _ d => uptoBulk d + 1
  | .map entries => uptoBulkEntries entries + 1
  | .held _ => 1
def uptoBulkAll {H : Type} : List (DataW H) → Nat
  | [] => 0
  | d :: r => uptoBulk d + uptoBulkAll r
def uptoBulkEntries {H : Type} : List (Lit × DataW H) → Nat
  | [] => 0
  | x :: r => uptoBulkEntry x + uptoBulkEntries r
def uptoBulkEntry {H : Type} : Lit × DataW H → Nat
  | (.string bytes, d) => bytes.length + uptoBulk d + 1
  | (_, d) => uptoBulk d + 1
 end
def uptoSmall : (H : Type) → List (DataW H) → Bool := fun _ ds => decide (uptoBulkAll ds ≤ 1048576)
def OpenSpec.upto (s : _root_.Go.ChangeSpec) : _root_.Go.OpenSpec := { _root_.Go.OpenSpec.ofChange s with cond := some uptoSmall }

/-- 'evenhandedlaw21.SlackPlays', WHERE WHAT IT READS IS OF BULK AT MOST 1048576: true; the input reads as it did. -/
def slackPlaysUptoRow : OpenClaim := { program := "ytlmckindacnkoaa", sum := "34365379976fd4929dd8aa9a90053bf3b5e4898e7bea35f7ef6170b630cbf16b", func := "evenhanded/evenhandedlaw21.SlackPlays", spec := "slackPlays", unfollowed := true, recurses := true, apart := false, narrowed := true }
def SlackPlaysUptoSaid : Prop := slackPlaysUptoRow.holds Try.pinned (OpenSpec.upto slackPlaysSpec)

/-- 'evenhandedlaw21.SlackSums', WHERE WHAT IT READS IS OF BULK AT MOST 1048576: true; the input reads as it did. -/
def slackSumsUptoRow : OpenClaim := { program := "ytlmckindacnkoaa", sum := "34365379976fd4929dd8aa9a90053bf3b5e4898e7bea35f7ef6170b630cbf16b", func := "evenhanded/evenhandedlaw21.SlackSums", spec := "slackSums", unfollowed := true, recurses := true, apart := false, narrowed := true }
def SlackSumsUptoSaid : Prop := slackSumsUptoRow.holds Try.pinned (OpenSpec.upto slackSumsSpec)

/-- 'evenhandedlaw21.SlackKnown', WHERE WHAT IT READS IS OF BULK AT MOST 1048576: true; the input reads as it did. -/
def slackKnownUptoRow : OpenClaim := { program := "ytlmckindacnkoaa", sum := "34365379976fd4929dd8aa9a90053bf3b5e4898e7bea35f7ef6170b630cbf16b", func := "evenhanded/evenhandedlaw21.SlackKnown", spec := "slackKnown", unfollowed := true, recurses := true, apart := false, narrowed := true }
def SlackKnownUptoSaid : Prop := slackKnownUptoRow.holds Try.pinned (OpenSpec.upto slackKnownSpec)

/-- 'evenhandedlaw21.SlackOrder', WHERE WHAT IT READS IS OF BULK AT MOST 1048576: true; the input reads as it did. -/
def slackOrderUptoRow : OpenClaim := { program := "ytlmckindacnkoaa", sum := "34365379976fd4929dd8aa9a90053bf3b5e4898e7bea35f7ef6170b630cbf16b", func := "evenhanded/evenhandedlaw21.SlackOrder", spec := "slackOrder", unfollowed := true, recurses := true, apart := false, narrowed := true }
def SlackOrderUptoSaid : Prop := slackOrderUptoRow.holds Try.pinned (OpenSpec.upto slackOrderSpec)

/-- 'evenhandedlaw21.SlackOnce', WHERE WHAT IT READS IS OF BULK AT MOST 1048576: true; the input reads as it did. -/
def slackOnceUptoRow : OpenClaim := { program := "ytlmckindacnkoaa", sum := "34365379976fd4929dd8aa9a90053bf3b5e4898e7bea35f7ef6170b630cbf16b", func := "evenhanded/evenhandedlaw21.SlackOnce", spec := "slackOnce", unfollowed := true, recurses := true, apart := false, narrowed := true }
def SlackOnceUptoSaid : Prop := slackOnceUptoRow.holds Try.pinned (OpenSpec.upto slackOnceSpec)

end Rows
end Go.Proofs.Ytlmckindacnkoaa
