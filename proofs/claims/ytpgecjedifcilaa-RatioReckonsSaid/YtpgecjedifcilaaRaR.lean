/- The reference's fractions: what they come to, of small ones. No condition. -/
import Derived.Test.YtpgecjedifcilaaRaK
import Derived.Test.YtpgecjedifcilaaPRx0
import Derived.Test.YtpgecjedifcilaaRaS
set_option linter.unusedVariables false
set_option linter.unusedSimpArgs false
namespace Go.Proofs.Ytpgecjedifcilaa.RaR
open Go.RowKit Go.Proofs.Ytpgecjedifcilaa.PR Go.Proofs.Ytpgecjedifcilaa.RaC Go.Proofs.Ytpgecjedifcilaa.RaK Go.Proofs.Ytpgecjedifcilaa.Kit Go.Proofs.YtpgecjedifcilaaW.PrintWords Go.Proofs.YtpgecjedifcilaaW.PrintLast WhPlain RaPlain
theorem refgcd_loop (n : Nat) : ∀ (m k : Nat), n < k → evenhandedref1_Gcd.l0 k m n = some (Nat.gcd m n : Int) := by
  induction n using Nat.strongRecOn with
  | _ n ih =>
    intro m k hk
    obtain ⟨k, rfl⟩ : ∃ j, k = j + 1 := ⟨k - 1, by omega⟩
    rw [evenhandedref1_Gcd.l0]
    by_cases h : n = 0
    · subst h; rw [if_pos Int.natCast_zero, Nat.gcd_zero_right]
    · rw [if_neg (by omega), show Int.tmod (m : Int) (n : Int) = ((m % n : Nat) : Int) from rfl, ih (m % n) (Nat.mod_lt _ (by omega)) n k (by have := Nat.mod_lt m (show n > 0 by omega); omega), gcd_step m n]
theorem refgcd_at {a b : Int} (ha : a.natAbs ≤ B0) (hb : b.natAbs ≤ B0) (k : Nat) (hk : B0 < k) : evenhandedref1_Gcd.f k a b = some (Int.gcd a b : Int) := by
  unfold B0 at ha hb hk
  unfold evenhandedref1_Gcd.f
  have e : ∀ x : Int, x.natAbs ≤ 9223372036854775807 → mx x (wrap64 (-x)) = (x.natAbs : Int) := by
    intro x hx
    rw [RaC.wr (x := -x) (by omega) (by omega)]
    unfold mx
    split <;> omega
  rw [e a ha, e b hb, refgcd_loop _ _ _ (by omega)]
  rfl
theorem refof_at {n d : Int} (hn : n.natAbs ≤ B0) (h0 : 0 < d) (hd : d.natAbs ≤ B0) (k : Nat) (hk : B0 < k) : evenhandedref1_Of.f k n d = some ((red n d).1, (red n d).2) := by
  unfold evenhandedref1_Of.f
  rw [if_neg (by omega), refgcd_at hn hd k hk]
  simp only [Option.bind_some]
  have hg : 0 < Int.gcd n d := Int.gcd_pos_of_ne_zero_right _ (by omega)
  rw [if_neg (by omega)]
  have hl := red_le (n := n) h0
  have hp := (red_R (n := n) h0).pos
  have e1 : Int.tdiv n (Int.gcd n d : Int) = (red n d).1 := by
    unfold red
    exact Int.tdiv_eq_ediv_of_dvd (Int.gcd_dvd_left n d)
  have e2 : Int.tdiv d (Int.gcd n d : Int) = (red n d).2 := by
    unfold red
    exact Int.tdiv_eq_ediv_of_dvd (Int.gcd_dvd_right n d)
  unfold B0 at hn hd
  rw [e1, e2, RaC.wr (by omega) (by omega), RaC.wr (by omega) (by omega)]
theorem refplus_at {x y : Int × Int} {b d b' d' : Nat} (hx : Sm x b d) (hy : Sm y b' d') (h1 : b * d' + b' * d ≤ B0) (h2 : d * d' ≤ B0) (l1 : b ≤ B0) (l2 : d ≤ B0) (l3 : b' ≤ B0) (l4 : d' ≤ B0) (k : Nat) (hk : B0 < k) :
    evenhandedref1_Plus.f k x.1 x.2 y.1 y.2 = some ((add x y).1, (add x y).2) := by
  have px := hx.r.pos
  have py := hy.r.pos
  have hxd := hx.hd
  have hyd := hy.hd
  have hxn := hx.hn
  have hyn := hy.hn
  have hg : 0 < Int.gcd x.2 y.2 := Int.gcd_pos_of_ne_zero_right _ (by omega)
  unfold evenhandedref1_Plus.f
  rw [refgcd_at (by omega) (by omega) k hk]
  simp only [Option.bind_some]
  rw [if_neg (by omega)]
  obtain ⟨u, hu⟩ := Int.gcd_dvd_left x.2 y.2
  obtain ⟨v, hv⟩ := Int.gcd_dvd_right x.2 y.2
  generalize hG : (Int.gcd x.2 y.2 : Int) = g at *
  have hg0 : 0 < g := by omega
  have eu : Int.tdiv x.2 g = u := by rw [hu, Int.mul_tdiv_cancel_left _ (by omega)]
  have ev : Int.tdiv y.2 g = v := by rw [hv, Int.mul_tdiv_cancel_left _ (by omega)]
  rw [eu, ev]
  have pu : 0 < u := by
    by_cases h : 0 < u
    · exact h
    · have := Int.mul_nonpos_of_nonneg_of_nonpos (show 0 ≤ g by omega) (show u ≤ 0 by omega); omega
  have pv : 0 < v := by
    by_cases h : 0 < v
    · exact h
    · have := Int.mul_nonpos_of_nonneg_of_nonpos (show 0 ≤ g by omega) (show v ≤ 0 by omega); omega
  have lu : u ≤ x.2 := by rw [hu]; have := Int.mul_le_mul_of_nonneg_right (show 1 ≤ g by omega) (show 0 ≤ u by omega); omega
  have lv : v ≤ y.2 := by rw [hv]; have := Int.mul_le_mul_of_nonneg_right (show 1 ≤ g by omega) (show 0 ≤ v by omega); omega
  have q1 : (x.1 * v).natAbs ≤ b * d' := by rw [Int.natAbs_mul]; exact Nat.mul_le_mul hxn (by omega)
  have q2 : (y.1 * u).natAbs ≤ b' * d := by rw [Int.natAbs_mul]; exact Nat.mul_le_mul hyn (by omega)
  have q3 : (u * y.2).natAbs ≤ d * d' := by rw [Int.natAbs_mul]; exact Nat.mul_le_mul (by omega) hyd
  have q4 : 0 < u * y.2 := Int.mul_pos pu py
  unfold B0 at h1 h2 l1 l2 l3 l4
  rw [RaC.wr (x := v) (by omega) (by omega), RaC.wr (x := u) (by omega) (by omega), RaC.wr (x := x.1 * v) (by omega) (by omega), RaC.wr (x := y.1 * u) (by omega) (by omega), RaC.wr (x := x.1 * v + y.1 * u) (by omega) (by omega), RaC.wr (x := u * y.2) (by omega) (by omega)]
  rw [refof_at (by unfold B0; omega) q4 (by unfold B0; omega) k hk]
  simp only [Option.bind_some]
  have e : red (x.1 * v + y.1 * u) (u * y.2) = add x y := by
    refine Q.unique (red_Q q4) (Q.ad (Q.self hx.r) (Q.self hy.r)) ?_
    have h3 : x.2 = g * u := hu
    have h4 : y.2 = g * v := hv
    grind
  rw [e]
theorem refminus_at {x y : Int × Int} {b d b' d' : Nat} (hx : Sm x b d) (hy : Sm y b' d') (h1 : b * d' + b' * d ≤ B0) (h2 : d * d' ≤ B0) (l1 : b ≤ B0) (l2 : d ≤ B0) (l3 : b' ≤ B0) (l4 : d' ≤ B0) (k : Nat) (hk : B0 < k) :
    evenhandedref1_Minus.f k x.1 x.2 y.1 y.2 = some ((sub x y).1, (sub x y).2) := by
  have hyn := hy.hn
  unfold evenhandedref1_Minus.f
  have hy' : Sm (-y.1, y.2) b' d' := ⟨⟨hy.r.pos, by show Int.gcd (-y.1) y.2 = 1; rw [Int.neg_gcd]; exact hy.r.low⟩, by show (-y.1).natAbs ≤ b'; omega, hy.hd⟩
  have e := refplus_at hx hy' h1 h2 l1 l2 l3 l4 k hk
  unfold B0 at l3
  rw [RaC.wr (x := -y.1) (by omega) (by omega)]
  simp only at e
  rw [e]
  simp only [Option.bind_some]
  have : add x (-y.1, y.2) = sub x y := by unfold add sub; simp only [Int.neg_mul]; rfl
  rw [this]
end Go.Proofs.Ytpgecjedifcilaa.RaR
