/- The given statement RatioLawsSaid out of the walk RLawsW.walk. No condition. -/
import Derived.Test.YtpgecjedifcilaaRows
import Derived.Test.YtpgecjedifcilaaRLawsW
import Derived.Test.YtpgecjedifcilaaKit
import Derived.WalkKit
import Derived.ProofKit
import Derived.OpenShut
import Derived.ShutString
import Derived.ChangeOld
import Derived.Below
import Derived.SizedLaws
import Derived.Carry
namespace Go.Proofs.Ytpgecjedifcilaa.ratioLaws
open Go.ChangeShapes Go.WideShapes Go.ChangeAt Go.RowKit Go.Joins
set_option linter.unusedVariables false
theorem own : ownKnob Try.prog.godebug = none := by kernel_rfl
theorem laidOut : laidOutB Try.prog = true := by kernel_rfl
set_option maxRecDepth 100000 in
theorem lifted (os : Os) (started : os.Started) (H : Type) (enc : TypeId × Value → H) :
    ReturnsInHanded {} Try.checked os 8 .any (Rows.ratioLawsSpec.pre6 enc Try.prog Try.f8 Rows.ratioLawsRow.domain false) (Rows.ratioLawsSpec.post enc Try.prog Try.f8 false true false false) := by
  refine returnsInHanded_of_change_sized (C := Try.checked) own started (by kernel_rfl) Try.func8
    (ChangeSpec.witness6 (enc := enc) (C := Try.checked) false ⟨#[], #[.agg #[.int .i8 0, .int .i8 0], .agg #[.int .i8 0, .int .i8 0], .agg #[.int .i8 0, .int .i8 0]], []⟩ 8 (by kernel_rfl) (by kernel_rfl) (by kernel_rfl) (by kernel_rfl)) ?_
  intro W base args ds gs before hval0 hW hcnd hsz0 _
  have hsz : (DataW.weightsEach Try.prog (Try.f8.params.toList ++ Rows.ratioLawsSpec.plain.varTypes Try.prog) (ds ++ gs)).all (· ≤ reachBytes) = true := hsz0
  have hval : ∀ (j : Nat) t v, Try.f8.params[j]? = some t → args[j]? = some v → Value.okWide Try.prog W .any base t v := hval0
  have hW' := hW
  obtain ⟨p, q, hA0, hV, rfl, hfz, hnd⟩ := hW
  have hA : DataW.TrodAll enc Try.prog W 0 (fun _ => true) true Try.f8.params.toList args.toList ds p := hA0
  rw [Try.params8] at hA hval hsz
  obtain ⟨v0, vs0, d0, ds0, p0, q0, hargs, rfl, rfl, h0, r0⟩ := trodAll_cons hA
  obtain ⟨v1, vs1, d1, ds1, p1, q1, rfl, rfl, rfl, h1, r1⟩ := trodAll_cons r0
  obtain ⟨v2, vs2, d2, ds2, p2, q2, rfl, rfl, rfl, h2, r2⟩ := trodAll_cons r1
  obtain ⟨rfl, rfl, rfl⟩ := trodAll_nil r2
  obtain rfl : args = #[v0, v1, v2] := by cases args; simp_all
  obtain ⟨rfl, rfl⟩ := trodVars_none hV
  have k0 := h0
  have lt0 : ∀ x ∈ p0, x.block < W.heap.size := by obtain ⟨m, hm⟩ := k0; exact DataW.trod_lt m _ _ _ hm
  have k1 := h1
  have lt1 : ∀ x ∈ p1, x.block < W.heap.size := by obtain ⟨m, hm⟩ := k1; exact DataW.trod_lt m _ _ _ hm
  have k2 := h2
  have lt2 : ∀ x ∈ p2, x.block < W.heap.size := by obtain ⟨m, hm⟩ := k2; exact DataW.trod_lt m _ _ _ hm
  obtain ⟨xs0, rfl, hl0, hw0⟩ := Kit.open_arr Try.underlying47 Try.underlying46 (by kernel_rfl) (by kernel_rfl) (hval 0 47 v0 rfl rfl) h0
  obtain ⟨a0_0, a0_1, rfl⟩ := Kit.list2 hl0
  have w0_0 := hw0 a0_0 (by simp)
  have w0_1 := hw0 a0_1 (by simp)
  obtain ⟨xs1, rfl, hl1, hw1⟩ := Kit.open_arr Try.underlying47 Try.underlying46 (by kernel_rfl) (by kernel_rfl) (hval 1 47 v1 rfl rfl) h1
  obtain ⟨a1_0, a1_1, rfl⟩ := Kit.list2 hl1
  have w1_0 := hw1 a1_0 (by simp)
  have w1_1 := hw1 a1_1 (by simp)
  obtain ⟨xs2, rfl, hl2, hw2⟩ := Kit.open_arr Try.underlying47 Try.underlying46 (by kernel_rfl) (by kernel_rfl) (hval 2 47 v2 rfl rfl) h2
  obtain ⟨a2_0, a2_1, rfl⟩ := Kit.list2 hl2
  have w2_0 := hw2 a2_0 (by simp)
  have w2_1 := hw2 a2_1 (by simp)
  clear hA0 hval0 hsz0 hsz
  refine (RLawsW.walk a0_0 a0_1 a1_0 a1_1 a2_0 a2_1 W w0_0 w0_1 w1_0 w1_1 w2_0 w2_1).mono fun e W' ⟨he, bel⟩ => ?_
  subst he
  exact ⟨_, rfl, _, _, _, [], _, [], hW', trodAll_mk1 (shut_bool Try.underlying4 _), (trodAll_cons_mk (Below.trod laidOut (by kernel_rfl) (of_decide_eq_true (by kernel_rfl)) k0 bel lt0) (trodAll_cons_mk (Below.trod laidOut (by kernel_rfl) (of_decide_eq_true (by kernel_rfl)) k1 bel lt1) (trodAll_cons_mk (Below.trod laidOut (by kernel_rfl) (of_decide_eq_true (by kernel_rfl)) k2 bel lt2) trodAll_mk0))), rfl, bel.frame _, fun h => by cases h⟩
theorem over : Rows.ratioLawsRow.holds Try.pinned (OpenSpec.ofChange Rows.ratioLawsSpec) :=
  OpenClaim.holds_of_wide 8 Try.f8 rfl rfl rfl rfl rfl rfl rfl ⟨rfl, rfl, rfl, rfl, rfl⟩ rfl rfl rfl rfl rfl (by kernel_rfl) Try.func8 (by kernel_rfl)
    (of_decide_eq_true (by kernel_rfl)) (by unfold Func.isWrapper; first | (rw [if_pos (by decide +kernel)]; kernel_rfl) | (rw [if_neg (by decide +kernel)]; exact ⟨rfl, rfl⟩))
    (fun os started H enc _ => lifted os started H enc)
#print axioms over
end Go.Proofs.Ytpgecjedifcilaa.ratioLaws
namespace Go.Proofs.Ytpgecjedifcilaa
theorem ratioLaws_holds : Rows.RatioLawsSaid := ratioLaws.over
end Go.Proofs.Ytpgecjedifcilaa
