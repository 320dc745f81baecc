/- Package lag: LagFluid holds. No condition. -/
import Derived.Test.YtiemhmaijiifkaaLFluid
set_option linter.unusedVariables false
set_option linter.unusedSimpArgs false
namespace Go.Proofs.Ytiemhmaijiifkaa.LFluidW
open Go.RowKit Go.Proofs.Ytiemhmaijiifkaa.PR Go.Proofs.Ytiemhmaijiifkaa.RaC Go.Proofs.Ytiemhmaijiifkaa.RaK Go.Proofs.Ytiemhmaijiifkaa.RaR Go.Proofs.Ytiemhmaijiifkaa.LaC Go.Proofs.Ytiemhmaijiifkaa.Kit Go.Proofs.Ytiemhmaijiifkaa.RaB Go.Proofs.Ytiemhmaijiifkaa.LaE Go.Proofs.Ytiemhmaijiifkaa.LFluid Go.Proofs.YtiemhmaijiifkaaW.PrintWords Go.Proofs.YtiemhmaijiifkaaW.PrintLast WhPlain RaPlain
theorem _root_.Go.Proofs.Ytiemhmaijiifkaa.Kit.list3 {α : Type} {l : List α} (h : l.length = 3) : ∃ a b c, l = [a, b, c] := by
  match l, h with
  | [a, b, c], _ => exact ⟨a, b, c, rfl⟩
theorem TMC {e p : Int} {r : Bool} (h : evenhandedref1_TaskMay.f e p = some r) (w : World) : Side (Calls Try.prog 7 #[.int .i64 e, .int .i64 p] w fun r' w' => r' = .returned (.bool r) ∧ Still w w') :=
  ⟨(evenhandedref1_TaskMay.calls e p r w h).mono fun _ _ ⟨he, hd⟩ => ⟨he, hd.out⟩⟩
theorem one_Q (n : Int) : Q (n, 1) n 1 := Q.self ⟨by show (0 : Int) < 1; decide, Int.gcd_one_right n⟩
theorem lag_Q1 {e p n : Int} (g : Int) (he : 1 ≤ e) (hep : e ≤ p) : Q (lagv e p n (g, 1)) (n * e - g * p) p := by
  have h := lag_Q (n := n) he hep (one_Q g)
  rwa [Int.mul_one, Int.mul_one] at h
theorem walk (e p n0 n1 n2 : Int) (w : World) (he : (Lit.int .i64 e).wf = true) (hp : (Lit.int .i64 p).wf = true) (h0 : (Lit.int .u8 n0).wf = true) (h1 : (Lit.int .u8 n1).wf = true) (h2 : (Lit.int .u8 n2).wf = true) :
    Calls Try.prog 3 #[.int .i64 e, .int .i64 p, .agg #[.int .u8 n0, .int .u8 n1, .int .u8 n2]] w fun r w' => r = .returned (.bool true) ∧ Below w.heap.size w w' := by
  have z0 := isu8 h0
  have z1 := isu8 h1
  have z2 := isu8 h2
  have AW : ∀ w, Side (Calls Try.prog 6 #[] w fun r w' => r = .returned (.bool true) ∧ Below w.heap.size w w') := fun w => ⟨awake_at w⟩
  by_cases c1 : ¬(1 ≤ p ∧ p ≤ 1048575 ∧ 1 ≤ e ∧ e ≤ p)
  · have ht : evenhandedref1_TaskMay.f e p = some false := by
      unfold evenhandedref1_TaskMay.f
      by_cases x1 : p ≥ 1
      · rw [if_pos x1]
        by_cases x2 : p ≤ 1048575
        · rw [if_pos x2]
          by_cases x3 : e ≥ 1
          · rw [if_pos x3, decide_eq_false (by omega)]
          · rw [if_neg x3]
        · rw [if_neg x2]
      · rw [if_neg x1]
    exact none1 e p n0 n1 n2 w AW (TMC ht)
  obtain ⟨p1, p2, e1, e2⟩ := Classical.not_not.1 c1
  have ht : evenhandedref1_TaskMay.f e p = some true := by
    unfold evenhandedref1_TaskMay.f
    rw [if_pos (by omega), if_pos (by omega), if_pos (by omega), decide_eq_true (by omega)]
  by_cases c2 : 65536 < p
  · exact none2 e p n0 n1 n2 w AW (TMC ht) (decide_eq_true c2)
  have q1 : Sm ((n2 : Int), (1 : Int)) 255 1 := one_sm (by omega)
  have q2 : Sm ((n2 + 1 : Int), (1 : Int)) 256 1 := one_sm (by omega)
  have q3 : Sm ((e : Int), (1 : Int)) 65536 1 := one_sm (by omega)
  have A1 : lagv e p (n0 + n1 - n0) (n2, 1) = lagv e p n1 (n2, 1) := by rw [show n0 + n1 - n0 = n1 by omega]
  have A2 : lagv e p (n0 + n1 - n0) (n2 + 1, 1) = lagv e p n1 (n2 + 1, 1) := by rw [show n0 + n1 - n0 = n1 by omega]
  have A3 : lagv e p (n0 + n1 + 1 - n0) (n2, 1) = lagv e p (n1 + 1) (n2, 1) := by rw [show n0 + n1 + 1 - n0 = n1 + 1 by omega]
  have A4 : lagv e p (n0 + p - n0) (e, 1) = (0, 1) := by
    rw [show n0 + p - n0 = p by omega]
    refine Q.unique (lag_Q1 e e1 e2) (one_Q 0) ?_
    have : p * e = e * p := Int.mul_comm _ _
    rw [this]; simp
  have C1 := AtC (e := e) (p := p) (r := n0) (c := n0 + n1) (g := (n2, 1)) e1 e2 (by omega) (by omega) (by omega) (by omega) (by omega) q1 (by decide) (by decide) _ A1
  have C2 := AtC (e := e) (p := p) (r := n0) (c := n0 + n1) (g := (n2 + 1, 1)) e1 e2 (by omega) (by omega) (by omega) (by omega) (by omega) q2 (by decide) (by decide) _ A2
  have C3 := AtC (e := e) (p := p) (r := n0) (c := n0 + n1 + 1) (g := (n2, 1)) e1 e2 (by omega) (by omega) (by omega) (by omega) (by omega) q1 (by decide) (by decide) _ A3
  have C4 := AtC (e := e) (p := p) (r := n0) (c := n0 + p) (g := (e, 1)) e1 e2 (by omega) (by omega) (by omega) (by omega) (by omega) q3 (by decide) (by decide) _ A4
  have a1 := lag_Q1 (e := e) (p := p) (n := n1) n2 e1 e2
  have a2 := lag_Q1 (e := e) (p := p) (n := n1) (n2 + 1) e1 e2
  have a3 := lag_Q1 (e := e) (p := p) (n := n1 + 1) n2 e1 e2
  have s1 := lag_sm (e := e) (p := p) (n := n1) (bn := 255) e1 e2 (by omega) (by omega) q1
  have s2 := lag_sm (e := e) (p := p) (n := n1) (bn := 255) e1 e2 (by omega) (by omega) q2
  have s3 := lag_sm (e := e) (p := p) (n := n1 + 1) (bn := 256) e1 e2 (by omega) (by omega) q1
  generalize lagv e p n1 (n2, 1) = a at *
  generalize lagv e p n1 (n2 + 1, 1) = b at *
  generalize lagv e p (n1 + 1) (n2, 1) = d at *
  have m1 : sub a b = (1, 1) := Q.unique (Q.sb a1 a2) (one_Q 1) (by grind)
  have m2 : sub d a = red e p := Q.unique (Q.sb a3 a1) (red_Q (by omega)) (by grind)
  have C5 := MinusC s1 s2 (by decide) (by decide) (by decide) (by decide) (by decide) (by decide) _ m1
  have C6 := MinusC s3 s1 (by decide) (by decide) (by decide) (by decide) (by decide) (by decide) _ m2
  have C7 := RefOfC (n := e) (d := p) (by unfold B0; omega) (by omega) (by unfold B0; omega)
  exact core e p n0 n1 n2 a.1 a.2 b.1 b.2 d.1 d.2 (red e p).1 (red e p).2 w AW (TMC ht) C1 C2 C3 C4 C5 C6 C7 (decide_eq_false c2) (by omega) (by omega) z0.1 z0.2 z1.1 z1.2 z2.1 z2.2
end Go.Proofs.Ytiemhmaijiifkaa.LFluidW
