/- Package ratio: what Add, Sub, Mul and Cmp come to, of all fractions whose answer can be. No condition. -/
import Derived.Test.YtkgafogkeaaniaaRwDzm
set_option linter.unusedVariables false
set_option linter.unusedSimpArgs false
namespace Go.Proofs.Ytkgafogkeaaniaa.RwV
open Go.RowKit Go.Proofs.Ytkgafogkeaaniaa.PW Go.Proofs.YtkgafogkeaaniaaW.PrintWords Go.Proofs.YtkgafogkeaaniaaW.PrintLast Go.Proofs.Ytkgafogkeaaniaa.RwC Go.Proofs.Ytkgafogkeaaniaa.RwD WhPlain RaPlain
theorem sgd_abs (s : Bool) (m : Nat) : (sgd s m).natAbs = m := by unfold sgd; split <;> omega
theorem sgd_mul (a b : Int) : sgd (decide (a < 0) != decide (b < 0)) (a.natAbs * b.natAbs) = a * b := by
  unfold sgd
  have e : ((a.natAbs * b.natAbs : Nat) : Int) = (a.natAbs : Int) * (b.natAbs : Int) := Int.natCast_mul _ _
  rcases Int.lt_or_le a 0 with h1 | h1
  · rcases Int.lt_or_le b 0 with h2 | h2
    · rw [decide_eq_true h1, decide_eq_true h2, if_neg (by decide), e, show (a.natAbs : Int) = -a by omega, show (b.natAbs : Int) = -b by omega, Int.neg_mul_neg]
    · rw [decide_eq_true h1, decide_eq_false (by omega), if_pos (by decide), e, show (a.natAbs : Int) = -a by omega, show (b.natAbs : Int) = b by omega, Int.neg_mul, Int.neg_neg]
  · rcases Int.lt_or_le b 0 with h2 | h2
    · rw [decide_eq_false (show ¬ a < 0 by omega), decide_eq_true h2, if_pos (by decide), e, show (a.natAbs : Int) = a by omega, show (b.natAbs : Int) = -b by omega, Int.mul_neg, Int.neg_neg]
    · rw [decide_eq_false (show ¬ a < 0 by omega), decide_eq_false (show ¬ b < 0 by omega), if_neg (by decide), e, show (a.natAbs : Int) = a by omega, show (b.natAbs : Int) = b by omega]
theorem sgd_not (s : Bool) (m : Nat) : sgd (!s) m = -sgd s m := by cases s <;> simp [sgd]
theorem red_sgd (s : Bool) (A B : Nat) (h0 : 0 < B) : red (sgd s A) (B : Int) = (sgd s (A / Nat.gcd A B), ((B / Nat.gcd A B : Nat) : Int)) := by
  have hg : Int.gcd (sgd s A) (B : Int) = Nat.gcd A B := by
    unfold Int.gcd
    rw [sgd_abs]
    rfl
  unfold red
  rw [hg]
  have hp : 0 < Nat.gcd A B := Nat.gcd_pos_of_pos_right _ h0
  congr 1
  unfold sgd
  split
  · obtain ⟨q, hq⟩ : Nat.gcd A B ∣ A := Nat.gcd_dvd_left A B
    have e : A / Nat.gcd A B = q := by
      conv => lhs; rw [hq]
      have : Nat.gcd (Nat.gcd A B * q) B = Nat.gcd A B := by rw [← hq]
      rw [this]
      exact Nat.mul_div_cancel_left q hp
    rw [e]
    have : -(A : Int) = (Nat.gcd A B : Int) * (-(q : Int)) := by
      conv => lhs; rw [hq]
      rw [Int.natCast_mul, Int.mul_neg]
    rw [this]
    exact Int.mul_ediv_cancel_left _ (by omega)
  · rfl
theorem made_val {A B k : Nat} {p q : Bool} (hk : B < k) (hA : Lt2 A) (h0 : 0 < B) (hB : Lt2 B) (f1 : (red (sgd (p != q) A) (B : Int)).1.natAbs ≤ 9223372036854775807) (f2 : (red (sgd (p != q) A) (B : Int)).2 ≤ 9223372036854775807) :
    ratio_made.f k (hiw A) (low A) p (hiw B) (low B) q = some ((red (sgd (p != q) A) (B : Int)).1, (red (sgd (p != q) A) (B : Int)).2, 0) := by
  rw [red_sgd _ A B h0] at f1 f2 ⊢
  rw [sgd_abs] at f1
  by_cases hz : A = 0
  · rw [made_zero (zero_t p hz)]
    subst hz
    rw [Nat.gcd_zero_left, Nat.div_self h0, Nat.zero_div]
    simp [sgd]
  · have hg : 0 < Nat.gcd A B := Nat.gcd_pos_of_pos_right _ h0
    have hgl : Nat.gcd A B ≤ B := Nat.gcd_le_right _ h0
    have f2' : B / Nat.gcd A B ≤ 9223372036854775807 := by simp only at f2; omega
    have f1' : A / Nat.gcd A B ≤ 9223372036854775807 := f1
    rw [made_more (zero_f p hz) (gcd_w B A k p q hk hA hB) (by_q A _ p false hA.out (hB.le hgl).out hg) (by_q B _ q false hB.out (hB.le hgl).out hg)]
    have e1 : qt A (Nat.gcd A B) = (((A / Nat.gcd A B : Nat) : Int), true) := by unfold qt; rw [if_pos (by omega)]
    have e2 : qt B (Nat.gcd A B) = (((B / Nat.gcd A B : Nat) : Int), true) := by unfold qt; rw [if_pos (by omega)]
    rw [e1, e2]
    generalize A / Nat.gcd A B = x at *
    generalize B / Nat.gcd A B = y at *
    unfold fin
    simp only [if_true]
    rw [if_neg (by omega)]
    cases hs : (p != q)
    · rw [if_neg (by decide), if_pos (by omega), RwC.wr (x := (x : Int)) (by omega) (by omega), RwC.wr (x := (y : Int)) (by omega) (by omega)]
      rfl
    · rw [if_pos rfl, if_pos (by omega), RwC.wr (x := (y : Int)) (by omega) (by omega)]
      have : wrap64 (IntKind.u64.wrap (-(x : Int))) = -(x : Int) := by rw [IntKind.wrap_u64]; unfold wrap64; omega
      rw [this]
      rfl
theorem plus_v (X Y : Nat) (p q : Bool) (hx : Lt2 X) (hy : Lt2 Y) (h : Lt2 (X + Y)) : ∃ (Z : Nat) (s : Bool), ratio_wide_plus.f (hiw X) (low X) p (hiw Y) (low Y) q = some (hiw Z, low Z, s) ∧ Z ≤ X + Y ∧ sgd s Z = sgd p X + sgd q Y := by
  unfold ratio_wide_plus.f
  rw [hl_num, hl_num, if_pos ⟨hl_in X hx.out, hl_in Y hy.out, h.out⟩]
  split
  · rename_i hpq
    subst hpq
    refine ⟨_, _, rfl, Nat.le_refl _, ?_⟩
    cases p <;> simp [sgd] <;> omega
  · rename_i hpq
    split
    · refine ⟨_, _, rfl, by omega, ?_⟩
      cases p <;> cases q <;> simp [sgd] at hpq ⊢ <;> omega
    · refine ⟨_, _, rfl, by omega, ?_⟩
      cases p <;> cases q <;> simp [sgd] at hpq ⊢ <;> omega
def FitR (x : Int × Int) : Prop := x.1.natAbs ≤ 9223372036854775807 ∧ x.2 ≤ 9223372036854775807
section
variable {a b c d : Int} {k : Nat}
theorem pos_mul (pb : 0 < b) (pd : 0 < d) : ((b.natAbs * d.natAbs : Nat) : Int) = b * d ∧ (decide (b < 0) != decide (d < 0)) = false := by
  refine ⟨by rw [Int.natCast_mul, show (b.natAbs : Int) = b by omega, show (d.natAbs : Int) = d by omega], ?_⟩
  rw [decide_eq_false (by omega), decide_eq_false (by omega)]
  rfl
theorem add_v (ha : I a) (hb : I b) (hc : I c) (hd : I d) (pb : 0 < b) (pd : 0 < d) (hk : Gt k) (hf : FitR (red (a * d + c * b) (b * d))) : ratio_Add.j0 (k + 1) false a b c d = some ((red (a * d + c * b) (b * d)).1, (red (a * d + c * b) (b * d)).2, 0) := by
  rw [ratio_Add.j0, if_neg (fun h => Bool.noConfusion h), times_w ha hd, Option.bind_some, times_w hc hb, Option.bind_some]
  obtain ⟨Z, s, e, hZ, hs⟩ := plus_v (a.natAbs * d.natAbs) (c.natAbs * b.natAbs) (decide (a < 0) != decide (d < 0)) (decide (c < 0) != decide (b < 0)) (prod_lt ha hd).two (prod_lt hc hb).two ((prod_lt ha hd).add (prod_lt hc hb))
  rw [sgd_mul, sgd_mul] at hs
  obtain ⟨e1, e2⟩ := pos_mul pb pd
  rw [e, Option.bind_some, times_w hb hd, Option.bind_some]
  have e3 : (s != (decide (b < 0) != decide (d < 0))) = s := by rw [e2]; cases s <;> rfl
  have := made_val (p := s) (q := (decide (b < 0) != decide (d < 0))) (hk.lt (prod_lt hb hd)) (((prod_lt ha hd).add (prod_lt hc hb)).le hZ) (abs_pos pb pd) (prod_lt hb hd).two (by rw [e3, hs, e1]; exact hf.1) (by rw [e3, hs, e1]; exact hf.2)
  rw [e3, hs, e1] at this
  rw [this]
  rfl
theorem sub_v (ha : I a) (hb : I b) (hc : I c) (hd : I d) (pb : 0 < b) (pd : 0 < d) (hk : Gt k) (hf : FitR (red (a * d - c * b) (b * d))) : ratio_Sub.j0 (k + 1) false a b c d = some ((red (a * d - c * b) (b * d)).1, (red (a * d - c * b) (b * d)).2, 0) := by
  rw [ratio_Sub.j0, if_neg (fun h => Bool.noConfusion h), times_w hc hb, Option.bind_some, times_w ha hd, Option.bind_some]
  obtain ⟨Z, s, e, hZ, hs⟩ := plus_v (a.natAbs * d.natAbs) (c.natAbs * b.natAbs) (decide (a < 0) != decide (d < 0)) (!(decide (c < 0) != decide (b < 0))) (prod_lt ha hd).two (prod_lt hc hb).two ((prod_lt ha hd).add (prod_lt hc hb))
  rw [sgd_not, sgd_mul, sgd_mul, ← Int.sub_eq_add_neg] at hs
  obtain ⟨e1, e2⟩ := pos_mul pb pd
  rw [e, Option.bind_some, times_w hb hd, Option.bind_some]
  have e3 : (s != (decide (b < 0) != decide (d < 0))) = s := by rw [e2]; cases s <;> rfl
  have := made_val (p := s) (q := (decide (b < 0) != decide (d < 0))) (hk.lt (prod_lt hb hd)) (((prod_lt ha hd).add (prod_lt hc hb)).le hZ) (abs_pos pb pd) (prod_lt hb hd).two (by rw [e3, hs, e1]; exact hf.1) (by rw [e3, hs, e1]; exact hf.2)
  rw [e3, hs, e1] at this
  rw [this]
  rfl
theorem mul_v (ha : I a) (hb : I b) (hc : I c) (hd : I d) (pb : 0 < b) (pd : 0 < d) (hk : Gt k) (hf : FitR (red (a * c) (b * d))) : ratio_Mul.j0 (k + 1) false a b c d = some ((red (a * c) (b * d)).1, (red (a * c) (b * d)).2, 0) := by
  rw [ratio_Mul.j0, if_neg (fun h => Bool.noConfusion h), times_w ha hc, Option.bind_some, times_w hb hd, Option.bind_some]
  obtain ⟨e1, e2⟩ := pos_mul pb pd
  have e3 : ((decide (a < 0) != decide (c < 0)) != (decide (b < 0) != decide (d < 0))) = (decide (a < 0) != decide (c < 0)) := by rw [e2]; cases (decide (a < 0) != decide (c < 0)) <;> rfl
  have := made_val (p := (decide (a < 0) != decide (c < 0))) (q := (decide (b < 0) != decide (d < 0))) (hk.lt (prod_lt hb hd)) (prod_lt ha hc).two (abs_pos pb pd) (prod_lt hb hd).two (by rw [e3, sgd_mul, e1]; exact hf.1) (by rw [e3, sgd_mul, e1]; exact hf.2)
  rw [e3, sgd_mul, e1] at this
  rw [this]
  rfl
end
/-- A fraction in two words of 64 bits. -/
structure Fr (x : Int × Int) : Prop where
  r : R x
  i1 : I x.1
  i2 : I x.2
def add (x y : Int × Int) : Int × Int := red (x.1 * y.2 + y.1 * x.2) (x.2 * y.2)
def sub (x y : Int × Int) : Int × Int := red (x.1 * y.2 - y.1 * x.2) (x.2 * y.2)
def mul (x y : Int × Int) : Int × Int := red (x.1 * y.1) (x.2 * y.2)
def K0 : Nat := 2 ^ 126 + 1
theorem K0_gt : Gt K0 := ⟨by unfold K0; omega⟩
theorem K0_big (j : Nat) : 9223372036854775808 < K0 + j := Nat.lt_of_lt_of_le (by decide : 9223372036854775808 < K0) (Nat.le_add_right _ _)
theorem Fr.may {x : Int × Int} (h : Fr x) (j : Nat) : ratio_May.f (K0 + j) x.1 x.2 = some true := by
  rw [RwD.May_at h.i1 h.i2 _ (K0_big j), decide_eq_true ⟨h.r.pos, h.r.low⟩]
theorem add_f {x y : Int × Int} (hx : Fr x) (hy : Fr y) (hf : FitR (add x y)) : ratio_Add.f (K0 + 1) x.1 x.2 y.1 y.2 = some ((add x y).1, (add x y).2, 0) := by
  unfold ratio_Add.f
  rw [hx.may, Option.bind_some, if_pos rfl, hy.may, Option.bind_some]
  exact add_v hx.i1 hx.i2 hy.i1 hy.i2 hx.r.pos hy.r.pos K0_gt hf
theorem sub_f {x y : Int × Int} (hx : Fr x) (hy : Fr y) (hf : FitR (sub x y)) : ratio_Sub.f (K0 + 1) x.1 x.2 y.1 y.2 = some ((sub x y).1, (sub x y).2, 0) := by
  unfold ratio_Sub.f
  rw [hx.may, Option.bind_some, if_pos rfl, hy.may, Option.bind_some]
  exact sub_v hx.i1 hx.i2 hy.i1 hy.i2 hx.r.pos hy.r.pos K0_gt hf
theorem mul_f {x y : Int × Int} (hx : Fr x) (hy : Fr y) (hf : FitR (mul x y)) : ratio_Mul.f (K0 + 1) x.1 x.2 y.1 y.2 = some ((mul x y).1, (mul x y).2, 0) := by
  unfold ratio_Mul.f
  rw [hx.may, Option.bind_some, if_pos rfl, hy.may, Option.bind_some]
  exact mul_v hx.i1 hx.i2 hy.i1 hy.i2 hx.r.pos hy.r.pos K0_gt hf
theorem cmp_f {x y : Int × Int} (hx : Fr x) (hy : Fr y) : ratio_Cmp.f (K0 + 4) x.1 x.2 y.1 y.2 = some (cmp3 (x.1 * y.2) (y.1 * x.2)) := by
  have h1 : low1 x.1 x.2 = true := decide_eq_true ⟨hx.r.pos, hx.r.low⟩
  have h2 : low1 y.1 y.2 = true := decide_eq_true ⟨hy.r.pos, hy.r.low⟩
  exact cmp_at hx.i1 hx.i2 hy.i1 hy.i2 h1 h2 (K0_big 0) (by rw [hx.may, h1]) (by rw [hy.may, h2])
end Go.Proofs.Ytkgafogkeaaniaa.RwV
