/- Package lag: what At comes to, and its contract; of small ones. No condition. -/
import Derived.Test.YtiemhmaijiifkaaRaR
set_option linter.unusedVariables false
set_option linter.unusedSimpArgs false
namespace Go.Proofs.Ytiemhmaijiifkaa.LaC
open Go.RowKit Go.Proofs.Ytiemhmaijiifkaa.PR Go.Proofs.Ytiemhmaijiifkaa.RaC Go.Proofs.Ytiemhmaijiifkaa.RaK Go.Proofs.Ytiemhmaijiifkaa.RaR Go.Proofs.Ytiemhmaijiifkaa.Kit Go.Proofs.YtiemhmaijiifkaaW.PrintWords Go.Proofs.YtiemhmaijiifkaaW.PrintLast WhPlain RaPlain
/-- A lag: what is due less what was got. -/
def lagv (e p n : Int) (g : Int × Int) : Int × Int := sub (mul (sub (n, 1) (0, 1)) (q e p)) g
theorem one_sm {n : Int} {b : Nat} (h : n.natAbs ≤ b) : Sm (n, 1) b 1 := ⟨⟨by show (0 : Int) < 1; decide, Int.gcd_one_right n⟩, h, by show (1 : Int).natAbs ≤ 1; decide⟩
theorem sub_one (a b : Int) : sub (a, 1) (b, 1) = (a - b, 1) := by
  unfold sub red
  simp only [Int.mul_one]
  rw [Int.gcd_one_right]
  simp
theorem lag_is {e p r c : Int} {g : Int × Int} {bg dg : Nat} (he : 1 ≤ e) (hep : e ≤ p) (hp : p ≤ 65536) (hrc : r ≤ c) (hr : r.natAbs ≤ 1048576) (hc : c.natAbs ≤ 1048576) (hn : c - r ≤ 1048576) (hg : Sm g bg dg) (hbg : bg ≤ 1048576) (hdg : dg ≤ 1048576) (k : Nat) (hk : 9223372036854775809 < k) :
    lag_At.f (k + 2) e p r c g.1 g.2 = some ((lagv e p (c - r) g).1, (lagv e p (c - r) g).2, 0) := by
  have fg : Fr g := hg.fr (by unfold B0; omega) (by unfold B0; omega)
  have s1 := one_sm (n := c) (b := 1048576) hc
  have s2 := one_sm (n := r) (b := 1048576) hr
  have f1 : Fr (c, 1) := s1.fr (by decide) (by decide)
  have f2 : Fr (r, 1) := s2.fr (by decide) (by decide)
  have s3 := one_sm (n := c - r) (b := 1048576) (by omega)
  have s4 : Sm (q e p) 65536 65536 := q_sm (by omega) (by omega) (by omega)
  have f3 : Fr (c - r, 1) := s3.fr (by decide) (by decide)
  have f4 : Fr (q e p) := s4.fr (by decide) (by decide)
  have s5 := mul_sm s3 s4
  have f5 := s5.fr (by decide) (by decide)
  have t1 := two s1 s2
  have t2 := two s3 s4
  have t3 := two s5 hg
  have m1 : 1048576 * 65536 * dg ≤ 1048576 * 65536 * 1048576 := Nat.mul_le_mul (Nat.le_refl _) hdg
  have m2 : bg * (1 * 65536) ≤ 1048576 * (1 * 65536) := Nat.mul_le_mul hbg (Nat.le_refl _)
  have m3 : 1 * 65536 * dg ≤ 1 * 65536 * 1048576 := Nat.mul_le_mul (Nat.le_refl _) hdg
  unfold lag_At.f
  rw [if_neg (by omega), if_neg (by omega), if_neg (by omega), if_neg (by omega), fg.may (k + 2) (by omega)]
  simp only [Option.bind_some, Bool.not_true, lag_At.j0, Bool.false_eq_true, if_false]
  have a1 := Sub_at f1 f2 (by omega) (by omega) k (by omega)
  have a2 := Of_at (n := e) (d := p) (by omega) (by omega) (by omega) (k + 1) (by omega)
  have a3 := Mul_at f3 f4 (by omega) (by omega) k (by omega)
  have a4 := Sub_at f5 fg (by omega) (by omega) k (by omega)
  have e1 : red ((c, (1 : Int)).1 * (r, (1 : Int)).2 - (r, (1 : Int)).1 * (c, (1 : Int)).2) ((c, (1 : Int)).2 * (r, (1 : Int)).2) = (c - r, 1) := sub_one c r
  rw [e1] at a1
  simp only at a1
  rw [a1]
  simp only [Option.bind_some, if_true]
  rw [a2]
  simp only [Option.bind_some]
  have e2 : red (if p < 0 then -e else e) (p.natAbs : Int) = q e p := rfl
  rw [e2]
  have e3 : red ((c - r, (1 : Int)).1 * (q e p).1) ((c - r, (1 : Int)).2 * (q e p).2) = mul (c - r, 1) (q e p) := rfl
  rw [e3] at a3
  simp only at a3
  rw [a3]
  simp only [Option.bind_some, if_true]
  have e4 : lagv e p (c - r) g = red ((mul (c - r, 1) (q e p)).1 * g.2 - g.1 * (mul (c - r, 1) (q e p)).2) ((mul (c - r, 1) (q e p)).2 * g.2) := by
    unfold lagv
    rw [sub_one, Int.sub_zero]; rfl
  rw [e4, a4]
  rfl
theorem lag_sm {e p n : Int} {g : Int × Int} {bn bg dg : Nat} (he : 1 ≤ e) (hep : e ≤ p) (hp : p ≤ 65536) (hn : n.natAbs ≤ bn) (hg : Sm g bg dg) : Sm (lagv e p n g) (bn * 65536 * dg + bg * (1 * 65536)) (1 * 65536 * dg) := by
  unfold lagv
  rw [sub_one, Int.sub_zero]
  exact sub_sm (mul_sm (one_sm hn) (q_sm (by omega) (by omega) (by omega))) hg
/-- A lag is n e by p less g. -/
theorem lag_Q {e p n : Int} {g : Int × Int} {m d : Int} (he : 1 ≤ e) (hep : e ≤ p) (hg : Q g m d) : Q (lagv e p n g) (n * e * d - m * p) (p * d) := by
  unfold lagv
  rw [sub_one, Int.sub_zero]
  have h1 : Q (n, 1) n 1 := Q.self ⟨by show (0 : Int) < 1; decide, Int.gcd_one_right n⟩
  have h2 : Q (q e p) e p := by
    have := q_Q (n := e) (d := p) (by omega)
    have e1 : RaK.sg p e = e := by unfold RaK.sg; rw [if_neg (by omega)]
    have e2 : (p.natAbs : Int) = p := by omega
    rw [e1, e2] at this
    exact this
  have h3 := Q.sb (Q.ml h1 h2) hg
  rw [Int.one_mul] at h3
  exact h3
theorem AtC {e p r c : Int} {g : Int × Int} {bg dg : Nat} (he : 1 ≤ e) (hep : e ≤ p) (hp : p ≤ 65536) (hrc : r ≤ c) (hr : r.natAbs ≤ 1048576) (hc : c.natAbs ≤ 1048576) (hn : c - r ≤ 1048576) (hg : Sm g bg dg) (hbg : bg ≤ 1048576) (hdg : dg ≤ 1048576) (x : Int × Int) (hx : lagv e p (c - r) g = x) (w : World) :
    Side (Calls Try.prog 8 #[.int .i64 e, .int .i64 p, .int .i64 r, .int .i64 c, .agg #[.int .i64 g.1, .int .i64 g.2]] w fun r w' => r = .returned (.tuple #[.agg #[.int .i64 x.1, .int .i64 x.2], .int .i64 0]) ∧ Below w.heap.size w w') := by
  subst hx
  exact ⟨lag_At.calls _ _ _ _ _ _ _ _ _ _ w (lag_is he hep hp hrc hr hc hn hg hbg hdg 9223372036854775811 (by omega))⟩
theorem MinusC {x y : Int × Int} {b d b' d' : Nat} (hx : Sm x b d) (hy : Sm y b' d') (h1 : b * d' + b' * d ≤ B0) (h2 : d * d' ≤ B0) (l1 : b ≤ B0) (l2 : d ≤ B0) (l3 : b' ≤ B0) (l4 : d' ≤ B0) (z : Int × Int) (hz : sub x y = z) (w : World) :
    Side (Calls Try.prog 9 #[.agg #[.int .i64 x.1, .int .i64 x.2], .agg #[.int .i64 y.1, .int .i64 y.2]] w fun r w' => r = .returned (.agg #[.int .i64 z.1, .int .i64 z.2]) ∧ Below w.heap.size w w') := by
  subst hz
  exact ⟨evenhandedref1_Minus.calls _ _ _ _ _ _ _ w (refminus_at hx hy h1 h2 l1 l2 l3 l4 (B0 + 1) (by omega))⟩
theorem RefOfC {n d : Int} (hn : n.natAbs ≤ B0) (h0 : 0 < d) (hd : d.natAbs ≤ B0) (w : World) :
    Side (Calls Try.prog 10 #[.int .i64 n, .int .i64 d] w fun r w' => r = .returned (.agg #[.int .i64 (red n d).1, .int .i64 (red n d).2]) ∧ Below w.heap.size w w') :=
  ⟨evenhandedref1_Of.calls _ _ _ _ _ w (refof_at hn h0 hd (B0 + 1) (by omega))⟩
end Go.Proofs.Ytiemhmaijiifkaa.LaC
