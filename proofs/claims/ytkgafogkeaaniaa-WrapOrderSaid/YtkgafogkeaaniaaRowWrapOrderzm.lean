/- The given statement WrapOrderSaid out of the walk WOrX.walk. No condition. -/
import Derived.Test.YtkgafogkeaaniaaRows
import Derived.Test.YtkgafogkeaaniaaWOrXzm
import Derived.Test.YtkgafogkeaaniaaDvAzm
import Derived.Test.YtkgafogkeaaniaaKit2zm
import Derived.WalkKit
import Derived.ProofKit
import Derived.OpenShut
import Derived.ShutString
import Derived.ChangeOld
import Derived.Below
import Derived.SizedLaws
import Derived.Carry
namespace Go.Proofs.Ytkgafogkeaaniaa.wrapOrder
open Go.ChangeShapes Go.WideShapes Go.ChangeAt Go.RowKit Go.Joins
set_option linter.unusedVariables false
theorem own : ownKnob Try.prog.godebug = none := by kernel_rfl
theorem laidOut : laidOutB Try.prog = true := by kernel_rfl
set_option maxRecDepth 100000 in
theorem lifted (os : Os) (started : os.Started) (H : Type) (enc : TypeId × Value → H) :
    ReturnsInHanded {} Try.checked os 6 .any (Rows.wrapOrderSpec.pre6 enc Try.prog Try.f6 Rows.wrapOrderRow.domain false) (Rows.wrapOrderSpec.post enc Try.prog Try.f6 false true false false) := by
  refine returnsInHanded_of_change_sized (C := Try.checked) own started (by kernel_rfl) Try.func6
    (ChangeSpec.witness6 (enc := enc) (C := Try.checked) false ⟨#[], #[.slice none 0 0, .agg #[.int .i64 0, .int .i64 0], .int .i64 0], []⟩ 8 (by kernel_rfl) (by kernel_rfl) (by kernel_rfl) (by kernel_rfl)) ?_
  intro W base args ds gs before hval0 hW hcnd hsz0 _
  have hsz : (DataW.weightsEach Try.prog (Try.f6.params.toList ++ Rows.wrapOrderSpec.plain.varTypes Try.prog) (ds ++ gs)).all (· ≤ reachBytes) = true := hsz0
  have hval : ∀ (j : Nat) t v, Try.f6.params[j]? = some t → args[j]? = some v → Value.okWide Try.prog W .any base t v := hval0
  have hW' := hW
  obtain ⟨p, q, hA0, hV, rfl, hfz, hnd⟩ := hW
  have hA : DataW.TrodAll enc Try.prog W 0 (fun _ => true) true Try.f6.params.toList args.toList ds p := hA0
  rw [Try.params6] at hA hval hsz
  obtain ⟨v0, vs0, d0, ds0, p0, q0, hargs, rfl, rfl, h0, r0⟩ := trodAll_cons hA
  obtain ⟨v1, vs1, d1, ds1, p1, q1, rfl, rfl, rfl, h1, r1⟩ := trodAll_cons r0
  obtain ⟨v2, vs2, d2, ds2, p2, q2, rfl, rfl, rfl, h2, r2⟩ := trodAll_cons r1
  obtain ⟨rfl, rfl, rfl⟩ := trodAll_nil r2
  obtain rfl : args = #[v0, v1, v2] := by cases args; simp_all
  obtain ⟨rfl, rfl⟩ := trodVars_none hV
  have k0 := h0
  have lt0 : ∀ x ∈ p0, x.block < W.heap.size := by obtain ⟨m, hm⟩ := k0; exact DataW.trod_lt m _ _ _ hm
  have k1 := h1
  have lt1 : ∀ x ∈ p1, x.block < W.heap.size := by obtain ⟨m, hm⟩ := k1; exact DataW.trod_lt m _ _ _ hm
  have k2 := h2
  have lt2 : ∀ x ∈ p2, x.block < W.heap.size := by obtain ⟨m, hm⟩ := k2; exact DataW.trod_lt m _ _ _ hm
  obtain ⟨a0, len0, cap0, rfl⟩ := okWide_slice Try.underlying22 (hval 0 22 v0 rfl rfl)
  obtain ⟨z0, w0, y0⟩ := Kit2.open_row (ks := [.i .i64, .i .i64, .i .i64, .b]) Try.underlying22 (by kernel_rfl) (by decide) (Kit2.el_struct (ks := ([.i .i64, .i .i64, .i .i64, .b] : List Kit2.CK)) Try.underlying39 (by kernel_rfl) (by intro j c hj; match j, hj with | 0, hj => exact ⟨0, _, ([.i .i64] : List Kit2.CK), rfl, by decide, hj, by kernel_rfl, (Kit2.el_int Try.underlying3)⟩ | 1, hj => exact ⟨1, _, ([.i .i64, .i .i64] : List Kit2.CK), rfl, by decide, hj, by kernel_rfl, (Kit2.el_struct (ks := ([.i .i64, .i .i64] : List Kit2.CK)) Try.underlying37 (by kernel_rfl) (by intro j c hj; match j, hj with | 0, hj => exact ⟨0, _, ([.i .i64] : List Kit2.CK), rfl, by decide, hj, by kernel_rfl, (Kit2.el_int Try.underlying2)⟩ | 1, hj => exact ⟨1, _, ([.i .i64] : List Kit2.CK), rfl, by decide, hj, by kernel_rfl, (Kit2.el_int Try.underlying2)⟩ | n + 2, hj => exact absurd hj (by simp)))⟩ | 2, hj => exact ⟨1, _, ([.i .i64, .i .i64] : List Kit2.CK), rfl, by decide, hj, by kernel_rfl, (Kit2.el_struct (ks := ([.i .i64, .i .i64] : List Kit2.CK)) Try.underlying37 (by kernel_rfl) (by intro j c hj; match j, hj with | 0, hj => exact ⟨0, _, ([.i .i64] : List Kit2.CK), rfl, by decide, hj, by kernel_rfl, (Kit2.el_int Try.underlying2)⟩ | 1, hj => exact ⟨1, _, ([.i .i64] : List Kit2.CK), rfl, by decide, hj, by kernel_rfl, (Kit2.el_int Try.underlying2)⟩ | n + 2, hj => exact absurd hj (by simp)))⟩ | 3, hj => exact ⟨2, _, ([.b] : List Kit2.CK), rfl, by decide, hj, by kernel_rfl, (Kit2.el_bool Try.underlying4)⟩ | n + 4, hj => exact absurd hj (by simp))) h0
  have q0 := Kit6.row_cap Try.underlying22 h0
  obtain ⟨xs1, rfl, hl1, hw1⟩ := Kit.open_arr Try.underlying23 Try.underlying3 (by kernel_rfl) (by kernel_rfl) (hval 1 23 v1 rfl rfl) h1
  obtain ⟨a1_0, a1_1, rfl⟩ := Kit.list2 hl1
  have w1_0 := hw1 a1_0 (by simp)
  have w1_1 := hw1 a1_1 (by simp)
  obtain ⟨a2, rfl, rfl, rfl, w2⟩ := open_int Try.underlying3 (hval 2 3 v2 rfl rfl) h2
  clear hA0 hval0 hsz0 hsz
  refine (WOrX.walk a0 len0 cap0 z0 a1_0 a1_1 a2 W w0 y0 q0 w1_0 w1_1 w2).mono fun e W' ⟨he, bel⟩ => ?_
  subst he
  exact ⟨_, rfl, _, _, _, [], _, [], hW', trodAll_mk1 (shut_bool Try.underlying4 _), (trodAll_cons_mk (Below.trod laidOut (by kernel_rfl) (of_decide_eq_true (by kernel_rfl)) k0 bel lt0) (trodAll_cons_mk (Below.trod laidOut (by kernel_rfl) (of_decide_eq_true (by kernel_rfl)) k1 bel lt1) (trodAll_cons_mk (Below.trod laidOut (by kernel_rfl) (of_decide_eq_true (by kernel_rfl)) k2 bel lt2) trodAll_mk0))), rfl, bel.frame _, fun h => by cases h⟩
theorem over : Rows.wrapOrderRow.holds Try.pinned (OpenSpec.ofChange Rows.wrapOrderSpec) :=
  OpenClaim.holds_of_wide 6 Try.f6 rfl rfl rfl rfl rfl rfl rfl ⟨rfl, rfl, rfl, rfl, rfl⟩ rfl rfl rfl rfl rfl (by kernel_rfl) Try.func6 (by kernel_rfl)
    (of_decide_eq_true (by kernel_rfl)) (by unfold Func.isWrapper; first | (rw [if_pos (by decide +kernel)]; kernel_rfl) | (rw [if_neg (by decide +kernel)]; exact ⟨rfl, rfl⟩))
    (fun os started H enc _ => lifted os started H enc)
#print axioms over
end Go.Proofs.Ytkgafogkeaaniaa.wrapOrder
namespace Go.Proofs.Ytkgafogkeaaniaa
theorem wrapOrder_holds : Rows.WrapOrderSaid := wrapOrder.over
end Go.Proofs.Ytkgafogkeaaniaa
