/- Package lag: what See refuses. No condition. -/
import Derived.Test.YtiemhmaijiifkaaLaE
set_option linter.unusedVariables false
set_option linter.unusedSimpArgs false
namespace Go.Proofs.Ytiemhmaijiifkaa.LaF
open Go.RowKit Go.Proofs.Ytiemhmaijiifkaa.PR Go.Proofs.Ytiemhmaijiifkaa.RaC Go.Proofs.Ytiemhmaijiifkaa.RaK Go.Proofs.Ytiemhmaijiifkaa.RaR Go.Proofs.Ytiemhmaijiifkaa.LaC Go.Proofs.Ytiemhmaijiifkaa.Kit Go.Proofs.Ytiemhmaijiifkaa.Kit3 Go.Proofs.Ytiemhmaijiifkaa.RaB Go.Proofs.Ytiemhmaijiifkaa.LaD Go.Proofs.Ytiemhmaijiifkaa.LaE WhPlain RaPlain
set_option maxHeartbeats 4000000 in
set_option maxRecDepth 100000 in
theorem See_err (e p r c g0 g1 : Int) (k : Nat) (hf : lag_At.f k e p r c g0 g1 = some (0, 0, 2)) (g : Nat) (w : World) :
    Side (Calls Try.prog 12 #[.pointer (some ⟨g, 0, none⟩), .int .i64 e, .int .i64 p, .int .i64 r, .int .i64 c, .agg #[.int .i64 g0, .int .i64 g1]] w fun r w' => r = .returned (.int .i64 2) ∧ Below w.heap.size w w') := by
  have AT : ∀ w, Side (Calls Try.prog 8 #[.int .i64 e, .int .i64 p, .int .i64 r, .int .i64 c, .agg #[.int .i64 g0, .int .i64 g1]] w fun r w' => r = .returned (.tuple #[.agg #[.int .i64 0, .int .i64 0], .int .i64 2]) ∧ Below w.heap.size w w') := fun w => ⟨lag_At.calls _ _ _ _ _ _ _ _ _ _ w hf⟩
  clear hf
  refine ⟨?_⟩
  go_enter Try.func12, Try.ntmps12
  go_wp2_with fail
  refine (AT _).out.mono ?_
  rintro e w2 ⟨rfl, hb⟩
  have HB : Side (Below w.heap.size w w2) := ⟨below_then (by (repeat (with_reducible first | exact Below.refl _ _ | apply below_alloc))) (by simp) hb⟩
  clear hb
  go_wp2
  go_ret
  exact ⟨rfl, by (repeat (with_reducible first | exact HB.out | apply below_drewN | apply below_drew | apply below_alloc))⟩
theorem er1 : lag_At.f 5 0 1 0 0 1 1 = some (0, 0, 2) := by decide
theorem er2 : lag_At.f 5 1 2 5 4 1 1 = some (0, 0, 2) := by decide
theorem er3 : lag_At.f 5 1 2 0 0 0 0 = some (0, 0, 2) := by decide
theorem er4 : lag_At.f 5 1 1048576 0 0 1 1 = some (0, 0, 2) := by decide
theorem kn1 : lagv 2 3 (11 - 10) (1, 2) = (1, 6) := by decide
theorem kn2 : lagv 2 3 (12 - 10) (2, 1) = (-2, 3) := by decide
theorem kb1 : best (0, 1) (1, 6) = (1, 6) := by decide
theorem kb2 : best (1, 6) (-2, 3) = (2, 3) := by decide
theorem SE1 (w : World) (gl : Nat) (h : LS w gl (0, 1)) : Calls Try.prog 12 #[.pointer (some ⟨gl, 0, none⟩), .int .i64 2, .int .i64 3, .int .i64 10, .int .i64 11, .agg #[.int .i64 1, .int .i64 2]] w fun r w' => r = .returned (.int .i64 0) ∧ LS w' gl (1, 6) ∧ Chg w w' (fun b => b = gl) := by
  have := SeeC (e := 2) (p := 3) (r := 10) (c := 11) (g := (1, 2)) (by decide) (by decide) (by decide) (by decide) (by decide) (by decide) (by decide) (sm_of 1 2 1 2 (by decide) (by decide) (by decide) (by decide)) (by decide) (by decide) kn1 (sm_of 0 1 1 6 (by decide) (by decide) (by decide) (by decide)) (sm_of 1 6 1 6 (by decide) (by decide) (by decide) (by decide)) (by decide) (by decide) w gl h
  rw [kb1] at this
  exact this
theorem SE2 (w : World) (gl : Nat) (h : LS w gl (1, 6)) : Calls Try.prog 12 #[.pointer (some ⟨gl, 0, none⟩), .int .i64 2, .int .i64 3, .int .i64 10, .int .i64 12, .agg #[.int .i64 2, .int .i64 1]] w fun r w' => r = .returned (.int .i64 0) ∧ LS w' gl (2, 3) ∧ Chg w w' (fun b => b = gl) := by
  have := SeeC (e := 2) (p := 3) (r := 10) (c := 12) (g := (2, 1)) (by decide) (by decide) (by decide) (by decide) (by decide) (by decide) (by decide) (sm_of 2 1 2 1 (by decide) (by decide) (by decide) (by decide)) (by decide) (by decide) kn2 (sm_of 1 6 2 6 (by decide) (by decide) (by decide) (by decide)) (sm_of (-2) 3 2 6 (by decide) (by decide) (by decide) (by decide)) (by decide) (by decide) w gl h
  rw [kb2] at this
  exact this
theorem AT3 (w : World) : Side (Calls Try.prog 8 #[.int .i64 2, .int .i64 3, .int .i64 10, .int .i64 11, .agg #[.int .i64 1, .int .i64 2]] w fun r w' => r = .returned (.tuple #[.agg #[.int .i64 1, .int .i64 6], .int .i64 0]) ∧ Below w.heap.size w w') :=
  AtC (e := 2) (p := 3) (r := 10) (c := 11) (g := (1, 2)) (by decide) (by decide) (by decide) (by decide) (by decide) (by decide) (by decide) (sm_of 1 2 1 2 (by decide) (by decide) (by decide) (by decide)) (by decide) (by decide) _ kn1 w
end Go.Proofs.Ytiemhmaijiifkaa.LaF
