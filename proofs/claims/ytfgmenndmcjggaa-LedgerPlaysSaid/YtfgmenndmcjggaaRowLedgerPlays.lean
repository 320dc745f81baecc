/- The given statement LedgerPlaysSaid out of the walk LPlays.walk. No condition. -/
import Derived.Test.YtfgmenndmcjggaaRows
import Derived.Test.YtfgmenndmcjggaaLPlays
import Derived.Test.YtfgmenndmcjggaaKit
import Derived.Test.YtfgmenndmcjggaaKit2
import Derived.WalkKit
import Derived.ProofKit
import Derived.OpenShut
import Derived.ShutString
import Derived.ChangeOld
import Derived.Below
import Derived.SizedLaws
import Derived.Carry
namespace Go.Proofs.Ytfgmenndmcjggaa.ledgerPlays
open Go.ChangeShapes Go.WideShapes Go.ChangeAt Go.RowKit Go.Joins
set_option linter.unusedVariables false
theorem own : ownKnob Try.prog.godebug = none := by kernel_rfl
theorem laidOut : laidOutB Try.prog = true := by kernel_rfl
set_option maxRecDepth 100000 in
theorem lifted (os : Os) (started : os.Started) (H : Type) (enc : TypeId × Value → H) :
    ReturnsInHanded {} Try.checked os 5 .any (Rows.ledgerPlaysSpec.pre6 enc Try.prog Try.f5 Rows.ledgerPlaysRow.domain false) (Rows.ledgerPlaysSpec.post enc Try.prog Try.f5 false true false false) := by
  refine returnsInHanded_of_change_sized (C := Try.checked) own started (by kernel_rfl) Try.func5
    (ChangeSpec.witness6 (enc := enc) (C := Try.checked) false ⟨#[], #[.int .i64 0, .slice none 0 0], []⟩ 8 (by kernel_rfl) (by kernel_rfl) (by kernel_rfl) (by kernel_rfl)) ?_
  intro W base args ds gs before hval0 hW hcnd hsz0 _
  have hsz : (DataW.weightsEach Try.prog (Try.f5.params.toList ++ Rows.ledgerPlaysSpec.plain.varTypes Try.prog) (ds ++ gs)).all (· ≤ reachBytes) = true := hsz0
  have hval : ∀ (j : Nat) t v, Try.f5.params[j]? = some t → args[j]? = some v → Value.okWide Try.prog W .any base t v := hval0
  have hW' := hW
  obtain ⟨p, q, hA0, hV, rfl, hfz, hnd⟩ := hW
  have hA : DataW.TrodAll enc Try.prog W 0 (fun _ => true) true Try.f5.params.toList args.toList ds p := hA0
  rw [Try.params5] at hA hval hsz
  obtain ⟨v0, vs0, d0, ds0, p0, q0, hargs, rfl, rfl, h0, r0⟩ := trodAll_cons hA
  obtain ⟨v1, vs1, d1, ds1, p1, q1, rfl, rfl, rfl, h1, r1⟩ := trodAll_cons r0
  obtain ⟨rfl, rfl, rfl⟩ := trodAll_nil r1
  obtain rfl : args = #[v0, v1] := by cases args; simp_all
  obtain ⟨rfl, rfl⟩ := trodVars_none hV
  have k0 := h0
  have lt0 : ∀ x ∈ p0, x.block < W.heap.size := by obtain ⟨m, hm⟩ := k0; exact DataW.trod_lt m _ _ _ hm
  have k1 := h1
  have lt1 : ∀ x ∈ p1, x.block < W.heap.size := by obtain ⟨m, hm⟩ := k1; exact DataW.trod_lt m _ _ _ hm
  obtain ⟨a0, rfl, rfl, rfl, w0⟩ := open_int Try.underlying3 (hval 0 3 v0 rfl rfl) h0
  obtain ⟨a1, len1, cap1, rfl⟩ := okWide_slice Try.underlying37 (hval 1 37 v1 rfl rfl)
  obtain ⟨z1, w1, y1⟩ := Kit2.open_row (ks := [.i .i64, .i .i64, .i .i64, .i .i64]) Try.underlying37 (by kernel_rfl) (by decide) (Kit2.el_struct (ks := ([.i .i64, .i .i64, .i .i64, .i .i64] : List Kit2.CK)) Try.underlying40 (by kernel_rfl) (by intro j c hj; match j, hj with | 0, hj => exact ⟨0, _, ([.i .i64] : List Kit2.CK), rfl, by decide, hj, by kernel_rfl, (Kit2.el_int Try.underlying3)⟩ | 1, hj => exact ⟨1, _, ([.i .i64] : List Kit2.CK), rfl, by decide, hj, by kernel_rfl, (Kit2.el_int Try.underlying3)⟩ | 2, hj => exact ⟨2, _, ([.i .i64] : List Kit2.CK), rfl, by decide, hj, by kernel_rfl, (Kit2.el_int Try.underlying3)⟩ | 3, hj => exact ⟨3, _, ([.i .i64] : List Kit2.CK), rfl, by decide, hj, by kernel_rfl, (Kit2.el_int Try.underlying3)⟩ | n + 4, hj => exact absurd hj (by simp))) h1
  clear hA0 hval0 hsz0 hsz
  refine (LPlays.walk a0 a1 len1 cap1 z1 W w0 w1 y1).mono fun e W' ⟨he, bel⟩ => ?_
  subst he
  exact ⟨_, rfl, _, _, _, [], _, [], hW', trodAll_mk1 (shut_bool Try.underlying4 _), (trodAll_cons_mk (Below.trod laidOut (by kernel_rfl) (of_decide_eq_true (by kernel_rfl)) k0 bel lt0) (trodAll_cons_mk (Below.trod laidOut (by kernel_rfl) (of_decide_eq_true (by kernel_rfl)) k1 bel lt1) trodAll_mk0)), rfl, bel.frame _, fun h => by cases h⟩
theorem over : Rows.ledgerPlaysRow.holds Try.pinned (OpenSpec.ofChange Rows.ledgerPlaysSpec) :=
  OpenClaim.holds_of_wide 5 Try.f5 rfl rfl rfl rfl rfl rfl rfl ⟨rfl, rfl, rfl, rfl, rfl⟩ rfl rfl rfl rfl rfl (by kernel_rfl) Try.func5 (by kernel_rfl)
    (of_decide_eq_true (by kernel_rfl)) (by unfold Func.isWrapper; first | (rw [if_pos (by decide +kernel)]; kernel_rfl) | (rw [if_neg (by decide +kernel)]; exact ⟨rfl, rfl⟩))
    (fun os started H enc _ => lifted os started H enc)
#print axioms over
end Go.Proofs.Ytfgmenndmcjggaa.ledgerPlays
namespace Go.Proofs.Ytfgmenndmcjggaa
theorem ledgerPlays_holds : Rows.LedgerPlaysSaid := ledgerPlays.over
end Go.Proofs.Ytfgmenndmcjggaa
