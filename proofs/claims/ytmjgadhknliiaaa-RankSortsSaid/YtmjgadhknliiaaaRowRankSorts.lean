/- The given statement RankSortsSaid out of the walk SoOw.walk. No condition. -/
import Derived.Test.YtmjgadhknliiaaaRows
import Derived.Test.YtmjgadhknliiaaaSoOw
import Derived.Test.YtmjgadhknliiaaaKit
import Derived.Test.YtmjgadhknliiaaaKit2
import Derived.WalkKit
import Derived.ProofKit
import Derived.OpenShut
import Derived.ShutString
import Derived.ChangeOld
import Derived.Below
import Derived.SizedLaws
import Derived.Carry
namespace Go.Proofs.Ytmjgadhknliiaaa.rankSorts
open Go.ChangeShapes Go.WideShapes Go.ChangeAt Go.RowKit Go.Joins
set_option linter.unusedVariables false
theorem own : ownKnob Try.prog.godebug = none := by kernel_rfl
theorem laidOut : laidOutB Try.prog = true := by kernel_rfl
set_option maxRecDepth 100000 in
theorem lifted (os : Os) (started : os.Started) (H : Type) (enc : TypeId × Value → H) :
    ReturnsInHanded {} Try.checked os 6 .any (Rows.rankSortsSpec.pre6 enc Try.prog Try.f6 Rows.rankSortsRow.domain false) (Rows.rankSortsSpec.post enc Try.prog Try.f6 false true false false) := by
  refine returnsInHanded_of_change_sized (C := Try.checked) own started (by kernel_rfl) Try.func6
    (ChangeSpec.witness6 (enc := enc) (C := Try.checked) false ⟨#[], #[.slice none 0 0], []⟩ 8 (by kernel_rfl) (by kernel_rfl) (by kernel_rfl) (by kernel_rfl)) ?_
  intro W base args ds gs before hval0 hW hcnd hsz0 _
  have hsz : (DataW.weightsEach Try.prog (Try.f6.params.toList ++ Rows.rankSortsSpec.plain.varTypes Try.prog) (ds ++ gs)).all (· ≤ reachBytes) = true := hsz0
  have hval : ∀ (j : Nat) t v, Try.f6.params[j]? = some t → args[j]? = some v → Value.okWide Try.prog W .any base t v := hval0
  have hW' := hW
  obtain ⟨p, q, hA0, hV, rfl, hfz, hnd⟩ := hW
  have hA : DataW.TrodAll enc Try.prog W 0 (fun _ => true) true Try.f6.params.toList args.toList ds p := hA0
  rw [Try.params6] at hA hval hsz
  obtain ⟨v0, vs0, d0, ds0, p0, q0, hargs, rfl, rfl, h0, r0⟩ := trodAll_cons hA
  obtain ⟨rfl, rfl, rfl⟩ := trodAll_nil r0
  obtain rfl : args = #[v0] := by cases args; simp_all
  obtain ⟨rfl, rfl⟩ := trodVars_none hV
  have k0 := h0
  have lt0 : ∀ x ∈ p0, x.block < W.heap.size := by obtain ⟨m, hm⟩ := k0; exact DataW.trod_lt m _ _ _ hm
  obtain ⟨a0, len0, cap0, rfl⟩ := okWide_slice Try.underlying37 (hval 0 37 v0 rfl rfl)
  obtain ⟨z0, w0, y0⟩ := Kit2.open_row (ks := [.i .i64, .i .i64, .i .i64, .i .i64]) Try.underlying37 (by kernel_rfl) (by decide) (Kit2.el_struct (ks := ([.i .i64, .i .i64, .i .i64, .i .i64] : List Kit2.CK)) Try.underlying23 (by kernel_rfl) (by intro j c hj; match j, hj with | 0, hj => exact ⟨0, _, ([.i .i64] : List Kit2.CK), rfl, by decide, hj, by kernel_rfl, (Kit2.el_int Try.underlying3)⟩ | 1, hj => exact ⟨1, _, ([.i .i64] : List Kit2.CK), rfl, by decide, hj, by kernel_rfl, (Kit2.el_int Try.underlying3)⟩ | 2, hj => exact ⟨2, _, ([.i .i64] : List Kit2.CK), rfl, by decide, hj, by kernel_rfl, (Kit2.el_int Try.underlying3)⟩ | 3, hj => exact ⟨3, _, ([.i .i64] : List Kit2.CK), rfl, by decide, hj, by kernel_rfl, (Kit2.el_int Try.underlying3)⟩ | n + 4, hj => exact absurd hj (by simp))) h0
  clear hA0 hval0 hsz0 hsz
  refine (SoOw.walk a0 len0 cap0 z0 W w0 y0).mono fun e W' ⟨he, bel⟩ => ?_
  subst he
  exact ⟨_, rfl, _, _, _, [], _, [], hW', trodAll_mk1 (shut_bool Try.underlying4 _), (trodAll_cons_mk (Below.trod laidOut (by kernel_rfl) (of_decide_eq_true (by kernel_rfl)) k0 bel lt0) trodAll_mk0), rfl, bel.frame _, fun h => by cases h⟩
theorem over : Rows.rankSortsRow.holds Try.pinned (OpenSpec.ofChange Rows.rankSortsSpec) :=
  OpenClaim.holds_of_wide 6 Try.f6 rfl rfl rfl rfl rfl rfl rfl ⟨rfl, rfl, rfl, rfl, rfl⟩ rfl rfl rfl rfl rfl (by kernel_rfl) Try.func6 (by kernel_rfl)
    (of_decide_eq_true (by kernel_rfl)) (by unfold Func.isWrapper; first | (rw [if_pos (by decide +kernel)]; kernel_rfl) | (rw [if_neg (by decide +kernel)]; exact ⟨rfl, rfl⟩))
    (fun os started H enc _ => lifted os started H enc)
#print axioms over
end Go.Proofs.Ytmjgadhknliiaaa.rankSorts
namespace Go.Proofs.Ytmjgadhknliiaaa
theorem rankSorts_holds : Rows.RankSortsSaid := rankSorts.over
end Go.Proofs.Ytmjgadhknliiaaa
