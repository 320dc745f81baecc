/- Package ratio: the walk of RatioMay: it answers true. No condition but what the arguments' types say. -/
import Derived.Test.YtpgecjedifcilaaRwK
import Derived.Test.YtpgecjedifcilaaRMay
set_option linter.unusedVariables false
set_option linter.unusedSimpArgs false
namespace Go.Proofs.Ytpgecjedifcilaa.RMayW
open Go.RowKit Go.Proofs.Ytpgecjedifcilaa.PW Go.Proofs.Ytpgecjedifcilaa.RwC Go.Proofs.Ytpgecjedifcilaa.RwD Go.Proofs.Ytpgecjedifcilaa.RwK Go.Proofs.Ytpgecjedifcilaa.Kit WhPlain RaPlain
set_option maxRecDepth 100000 in
theorem OverC {e : Int} (h : e = 0 ∨ e = 14) (w : World) : Side (Calls Try.prog 27 #[.int .i64 e] w fun r w' => r = .returned (.bool true) ∧ Below w.heap.size w w') := by
  rcases h with rfl | rfl
  all_goals
    refine ⟨?_⟩
    go_enter Try.func27, Try.ntmps27
    go_wp2
    go_ret
    exact ⟨rfl, by (repeat (with_reducible first | exact Below.refl _ _ | apply below_drewN | apply below_drew | apply below_alloc))⟩
theorem walk (a0 a1 b0 b1 : Int) (w : World) (ha0 : (Lit.int .i64 a0).wf = true) (ha1 : (Lit.int .i64 a1).wf = true) (hb0 : (Lit.int .i64 b0).wf = true) (hb1 : (Lit.int .i64 b1).wf = true) :
    Calls Try.prog 6 #[.agg #[.int .i64 a0, .int .i64 a1], .agg #[.int .i64 b0, .int .i64 b1]] w fun r w' => r = .returned (.bool true) ∧ Below w.heap.size w w' := by
  have ha : I a0 := RwC.is64 ha0
  have hb : I a1 := RwC.is64 ha1
  have hc : I b0 := RwC.is64 hb0
  have hd : I b1 := RwC.is64 hb1
  have M1 := RefMayC ha hb
  have M2 := RefMayC hc hd
  have MY := MayC ha hb
  cases h1 : low1 a0 a1
  · have hn : (low1 a0 a1 && low1 b0 b1) = false := by rw [h1]; rfl
    rw [h1] at M1 MY
    exact RMay.no_a a0 a1 b0 b1 w AwakeC M1 (AddZ ha hb hc hd hn) (SubZ ha hb hc hd hn) (MulZ ha hb hc hd hn) MY (CmpZ ha hb hc hd hn) (FloorZ ha hb h1) (CeilZ ha hb h1)
  · rw [h1] at M1 MY
    cases h2 : low1 b0 b1
    · have hn : (low1 a0 a1 && low1 b0 b1) = false := by rw [h1, h2]; rfl
      rw [h2] at M2
      exact RMay.no_b a0 a1 b0 b1 w AwakeC M1 M2 (AddZ ha hb hc hd hn) (SubZ ha hb hc hd hn) (MulZ ha hb hc hd hn) MY (CmpZ ha hb hc hd hn)
    · rw [h2] at M2
      obtain ⟨n1, m1, e1, A1, g1⟩ := AddO ha hb hc hd h1 h2
      obtain ⟨n2, m2, e2, A2, g2⟩ := SubO ha hb hc hd h1 h2
      obtain ⟨n3, m3, e3, A3, g3⟩ := MulO ha hb hc hd h1 h2
      exact RMay.yes a0 a1 b0 b1 w n1 m1 e1 n2 m2 e2 n3 m3 e3 _ AwakeC M1 M2 A1 A2 A3 MY (CmpO ha hb hc hd h1 h2) (CrossC ha hb hc hd) (OverC g1) (OverC g2) (OverC g3)
end Go.Proofs.Ytpgecjedifcilaa.RMayW
