/- Package ratio: what its functions compute, of small fractions. No condition. -/
import Derived.Test.YtfgmenndmcjggaaRatPlain
import Derived.Test.YtfgmenndmcjggaaWhPlain
import Derived.Shelf.Bits.Mul64
import Derived.Test.YtfgmenndmcjggaaPRx0
import Derived.Test.YtfgmenndmcjggaaPRx1
import Derived.Test.YtfgmenndmcjggaaPRx2
import Derived.Test.YtfgmenndmcjggaaPRx3
import Derived.Test.YtfgmenndmcjggaaPRx4
import Derived.Test.YtfgmenndmcjggaaPRx5
set_option linter.unusedVariables false
set_option linter.unusedSimpArgs false
namespace Go.Proofs.Ytfgmenndmcjggaa.RaC
open Go.RowKit Go.Proofs.Ytfgmenndmcjggaa.PR Go.Proofs.YtfgmenndmcjggaaW.PrintWords Go.Proofs.YtfgmenndmcjggaaW.PrintLast WhPlain RaPlain
theorem wr {x : Int} (h1 : -9223372036854775808 ≤ x) (h2 : x < 9223372036854775808) : wrap64 x = x := by
  unfold wrap64; omega
theorem wu {x : Int} (h1 : 0 ≤ x) (h2 : x < 18446744073709551616) : IntKind.u64.wrap x = x := by
  rw [IntKind.wrap_u64]; omega
theorem td {a b : Int} (h : 0 ≤ a) : Int.tdiv a b = a / b := Int.tdiv_eq_ediv_of_nonneg h
theorem tm {a b : Int} (h : 0 ≤ a) : Int.tmod a b = a % b := Int.tmod_eq_emod_of_nonneg h
theorem is64 {x : Int} (h : (Lit.int .i64 x).wf = true) : -9223372036854775808 ≤ x ∧ x < 9223372036854775808 := by
  have h1 : IntKind.i64.min = -9223372036854775808 := by decide
  have h2 : IntKind.i64.max = 9223372036854775807 := by decide
  simp only [Lit.wf, h1, h2, Bool.and_eq_true, decide_eq_true_eq] at h; omega
def I (x : Int) : Prop := -9223372036854775808 ≤ x ∧ x < 9223372036854775808
theorem I.abs {x : Int} (h : I x) : (x.natAbs : Int) ≤ 9223372036854775808 := by unfold I at h; omega
theorem size_at {a : Int} (h : I a) : whole_size.f a = some (a.natAbs : Int) := by
  unfold I at h; unfold whole_size.f; split
  · rw [IntKind.wrap_u64, IntKind.wrap_u64]; exact congrArg some (by omega)
  · rw [IntKind.wrap_u64]; exact congrArg some (by omega)
theorem mul64_at (x y : Nat) (hx : x < 18446744073709551616) (hy : y < 18446744073709551616) :
    bits_Mul64.f x y = some (((x * y / 18446744073709551616 : Nat) : Int), ((x * y % 18446744073709551616 : Nat) : Int)) := by
  obtain ⟨bd, bt, bw, hhi⟩ := Go.Lib.mul64_hi x y hx hy
  have ba := Go.Lib.half_mul_le (a := x / 4294967296) (b := y / 4294967296) (by omega) (by omega)
  have bb := Go.Lib.half_mul_le (a := x / 4294967296) (b := y % 4294967296) (by omega) (by omega)
  have bc := Go.Lib.half_mul_le (a := x % 4294967296) (b := y / 4294967296) (by omega) (by omega)
  have ba' : x / 4294967296 * (y / 4294967296) < 18446744073709551616 := by omega
  have bb' : x / 4294967296 * (y % 4294967296) < 18446744073709551616 := by omega
  have bc' : x % 4294967296 * (y / 4294967296) < 18446744073709551616 := by omega
  have bh1 : x / 4294967296 * (y / 4294967296) + (x / 4294967296 * (y % 4294967296) + x % 4294967296 * (y % 4294967296) / 4294967296) / 4294967296 < 18446744073709551616 := by omega
  have bh : x / 4294967296 * (y / 4294967296) + (x / 4294967296 * (y % 4294967296) + x % 4294967296 * (y % 4294967296) / 4294967296) / 4294967296 + ((x / 4294967296 * (y % 4294967296) + x % 4294967296 * (y % 4294967296) / 4294967296) % 4294967296 + x % 4294967296 * (y / 4294967296)) / 4294967296 < 18446744073709551616 := by omega
  unfold bits_Mul64.f
  simp only [Mul64.maskN x hx, Mul64.maskN y hy, Mul64.divN, Mul64.mulN, Mul64.addN, Mul64.wrapN _ bd, Mul64.wrapN _ bb', Mul64.wrapN _ bt, Mul64.maskN _ bt, Mul64.wrapN _ bc', Mul64.wrapN _ bw, Mul64.wrapN _ ba', Mul64.wrapN _ bh1, Mul64.wrapN _ bh, Mul64.wrapM (x * y)]
  rw [hhi]
theorem signed_at (n : Int) (h0 : 0 ≤ n) (hn : n < 18446744073709551616) (b : Bool) (k : Nat) : whole_signed.f (k + 1) n b = some (fit (if b = true then -n else n)) := by
  unfold whole_signed.f
  cases b with
  | true =>
    rw [if_pos rfl, if_pos rfl]; simp only [whole_signed.j0]
    by_cases h : n ≤ 9223372036854775808
    · rw [decide_eq_true h, if_pos rfl, fit_yes (by omega) (by omega)]
      have : wrap64 (IntKind.u64.wrap (-n)) = -n := by rw [IntKind.wrap_u64]; unfold wrap64; omega
      rw [this]
    · rw [decide_eq_false h, if_neg (by decide), if_pos trivial, fit_no (by omega)]
  | false =>
    rw [if_neg (by decide), if_neg (by decide)]; simp only [whole_signed.j0]
    rw [if_neg (by decide), if_neg (by decide)]
    by_cases h : n < 9223372036854775808
    · rw [if_pos h, fit_yes (by omega) h, wr (by omega) h]
    · rw [if_neg h, fit_no (by omega)]
theorem gcd_loop (n : Nat) : ∀ (m k : Nat), n < k → whole_Gcd.l0 k m n = some (if (Nat.gcd m n : Int) > 9223372036854775807 then 0 else wrap64 (Nat.gcd m n : Int)) := by
  induction n using Nat.strongRecOn with
  | _ n ih =>
    intro m k hk
    obtain ⟨k, rfl⟩ : ∃ j, k = j + 1 := ⟨k - 1, by omega⟩
    rw [whole_Gcd.l0]
    by_cases h : n = 0
    · subst h; rw [if_pos Int.natCast_zero, Nat.gcd_zero_right]; split <;> rfl
    · rw [if_neg (by omega), show Int.tmod (m : Int) (n : Int) = ((m % n : Nat) : Int) from rfl, ih (m % n) (Nat.mod_lt _ (by omega)) n k (by have := Nat.mod_lt m (show n > 0 by omega); omega), gcd_step m n]
theorem Gcd_at {a b : Int} (ha : I a) (hb : I b) (k : Nat) (hk : 9223372036854775808 < k) : whole_Gcd.f k a b = some (G a b) := by
  have h1 := ha.abs; have h2 := hb.abs
  unfold whole_Gcd.f
  rw [size_at ha, size_at hb]; simp only [Option.bind_some]
  rw [gcd_loop _ _ _ (by omega)]
  unfold G Int.gcd
  split
  · rfl
  · rw [wr (by omega) (by omega)]
theorem cmpI_at (x y : Int) : cmp_Compare_int.f x y = some (cmp3 x y) := by
  unfold cmp_Compare_int.f cmp_isNaN_int.f cmp3
  simp only [Option.bind_some, bne_self_eq_false]
  rw [if_neg (by decide), if_neg (by decide)]; split
  · rfl
  · by_cases h : x > y
    · rw [if_pos h, if_pos h]
    · rw [if_neg h, if_neg h]
theorem cmpL_at (x y : Int) : cmp_Compare_int64.f x y = some (cmp3 x y) := by
  unfold cmp_Compare_int64.f cmp_isNaN_int64.f cmp3
  simp only [Option.bind_some, bne_self_eq_false]
  rw [if_neg (by decide), if_neg (by decide)]; split
  · rfl
  · by_cases h : x > y
    · rw [if_pos h, if_pos h]
    · rw [if_neg h, if_neg h]
theorem cmpU_at (x y : Int) : cmp_Compare_uint64.f x y = some (cmp3 x y) := by
  unfold cmp_Compare_uint64.f cmp_isNaN_uint64.f cmp3
  simp only [Option.bind_some, bne_self_eq_false]
  rw [if_neg (by decide), if_neg (by decide)]; split
  · rfl
  · by_cases h : x > y
    · rw [if_pos h, if_pos h]
    · rw [if_neg h, if_neg h]
theorem or2_at (x y : Int) (k : Nat) : cmp_Or_int.f (k + 3) [x, y] = some (if x = 0 then y else x) := by
  unfold cmp_Or_int.f
  simp only [cmp_Or_int.l0, List.length_cons, List.length_nil]
  have h0 : rd [x, y] 0 = x := rfl
  have h1 : rd [x, y] 1 = y := rfl
  have w1 : wrap64 (0 + 1) = 1 := by unfold wrap64; omega
  have w2 : wrap64 (1 + 1) = 2 := by unfold wrap64; omega
  rw [if_pos (by decide), if_pos (by decide), if_pos (by decide), h0]
  by_cases hx : x = 0
  · rw [if_pos hx, if_pos hx, w1, if_pos (by decide), if_pos (by decide), if_pos (by decide), h1]
    by_cases hy : y = 0
    · rw [if_pos hy, w2, if_neg (by decide), hy]
    · rw [if_neg hy]
  · rw [if_neg hx, if_neg hx]
theorem sign_at (a b : Int) : whole_sign.f a b = some (sg (a * b)) := by
  unfold whole_sign.f
  rw [cmpL_at, cmpL_at]; simp only [Option.bind_some]
  rw [cmp3_sg, cmp3_sg, sg_mul, wr]
  · have := sg_range (a * b); omega
  · have := sg_range (a * b); omega
theorem Cross_at {a b c d : Int} (ha : I a) (hb : I b) (hc : I c) (hd : I d) (k : Nat) : whole_Cross.f (k + 4) a b c d = some (cmp3 (a * b) (c * d)) := by
  unfold whole_Cross.f
  rw [sign_at, sign_at]; simp only [Option.bind_some]
  by_cases hs : sg (a * b) = sg (c * d)
  · rw [if_pos hs]
    by_cases h0 : sg (a * b) = 0
    · rw [beq_iff_eq.2 h0]; simp only [whole_Cross.j0, if_true]
      have z1 : a * b = 0 := sg_zero h0
      have z2 : c * d = 0 := sg_zero (hs ▸ h0)
      rw [cmpI_at, Option.bind_some, z1, z2, cmp3_eq rfl, cmp3_eq rfl]
    · rw [beq_eq_false_iff_ne.2 h0]; simp only [whole_Cross.j0]
      have h1 := ha.abs; have h2 := hb.abs; have h3 := hc.abs; have h4 := hd.abs
      rw [if_neg (by decide), size_at ha, size_at hb, size_at hc, size_at hd]; simp only [Option.bind_some]
      rw [mul64_at _ _ (by omega) (by omega), mul64_at _ _ (by omega) (by omega)]; simp only [Option.bind_some]
      rw [cmpU_at, cmpU_at]; simp only [Option.bind_some]
      rw [or2_at, Option.bind_some, cmp3_lex, ← Int.natAbs_mul, ← Int.natAbs_mul, cmp3_signs hs h0, wr]
      · have := cmp3_range (a * b) (c * d); omega
      · have := cmp3_range (a * b) (c * d); omega
  · rw [if_neg hs]; simp only [whole_Cross.j0, if_true]
    rw [cmpI_at, Option.bind_some, cmp3_sgs hs]
theorem G_small {a b : Int} (ha : I a) (hb : I b) (h1 : 1 ≤ a) : G a b = (Int.gcd a b : Int) ∧ 1 ≤ (Int.gcd a b : Int) ∧ (Int.gcd a b : Int) ≤ a := by
  have hg : Int.gcd a b ≤ a.natAbs := Nat.gcd_le_left _ (by omega)
  have hp : 0 < Int.gcd a b := Nat.gcd_pos_of_pos_left _ (by omega)
  unfold I at ha
  refine ⟨?_, by omega, by omega⟩
  unfold G; rw [if_neg (by omega)]
theorem rsize_at {a : Int} (h : I a) : ratio_size.f a = some (a.natAbs : Int) := by
  unfold I at h; unfold ratio_size.f; split
  · rw [IntKind.wrap_u64, IntKind.wrap_u64]; exact congrArg some (by omega)
  · rw [IntKind.wrap_u64]; exact congrArg some (by omega)
theorem times_at {a b : Int} (ha : I a) (hb : I b) : ratio_times.f a b = some (((a.natAbs * b.natAbs / 18446744073709551616 : Nat) : Int), ((a.natAbs * b.natAbs % 18446744073709551616 : Nat) : Int), (decide (a < 0) != decide (b < 0))) := by
  have h1 := ha.abs; have h2 := hb.abs
  unfold ratio_times.f
  rw [rsize_at ha, rsize_at hb]; simp only [Option.bind_some]
  rw [mul64_at _ _ (by omega) (by omega)]; rfl
theorem times_small {a b : Int} (ha : I a) (hb : I b) (h : a.natAbs * b.natAbs < 18446744073709551616) : ratio_times.f a b = some (0, ((a.natAbs * b.natAbs : Nat) : Int), (decide (a < 0) != decide (b < 0))) := by
  rw [times_at ha hb, Nat.div_eq_of_lt h, Nat.mod_eq_of_lt h]; rfl
theorem zero_at (h l : Int) (b : Bool) : ratio_wide_zero.f h l b = some (decide (h = 0 ∧ l = 0)) := by
  unfold ratio_wide_zero.f
  by_cases h0 : h = 0
  · rw [if_pos h0]; by_cases h1 : l = 0 <;> simp [h0, h1]
  · rw [if_neg h0]; simp [h0]
theorem rgcd_loop (n : Nat) : ∀ (m k : Nat) (p q : Bool), n < k → m ≤ 18446744073709551615 → n ≤ 18446744073709551615 → ratio_gcd.l0 k 0 m p 0 n q = some (0, (Nat.gcd m n : Int), false) := by
  induction n using Nat.strongRecOn with
  | _ n ih =>
    intro m k p q hk hm hn
    obtain ⟨k, rfl⟩ : ∃ j, k = j + 1 := ⟨k - 1, by omega⟩
    rw [ratio_gcd.l0, zero_at]
    by_cases h : n = 0
    · subst h; simp
    · have hz : decide ((0 : Int) = 0 ∧ (n : Int) = 0) = false := decide_eq_false (by omega)
      rw [hz]
      simp only [Option.bind_some, Bool.false_eq_true, if_false]
      have hmod : ratio_wide_mod.f 0 (m : Int) p 0 (n : Int) q = some (0, ((m % n : Nat) : Int), false) := by
        unfold ratio_wide_mod.f
        rw [if_pos (by omega)]; rfl
      rw [hmod]
      simp only [Option.bind_some]
      rw [ih (m % n) (Nat.mod_lt _ (by omega)) n k q false (by have := Nat.mod_lt m (show n > 0 by omega); omega) (by omega) (by have := Nat.mod_lt m (show n > 0 by omega); omega)]
      rw [gcd_step m n]
theorem rgcd_at (m n k : Nat) (p q : Bool) (hk : n < k) (hm : m ≤ 18446744073709551615) (hn : n ≤ 18446744073709551615) : ratio_gcd.f k 0 m p 0 n q = some (0, (Nat.gcd m n : Int), false) := rgcd_loop n m k p q hk hm hn
theorem rby_at (m n : Nat) (p q : Bool) (h0 : 0 < n) (hm : m ≤ 18446744073709551615) (hn : n ≤ 18446744073709551615) : ratio_wide_by.f 0 m p 0 n q = some (((m / n : Nat) : Int), true) := by
  unfold ratio_wide_by.f
  rw [if_pos (by omega)]; rfl
/-- The number with its sign. -/
def sgd (p : Bool) (m : Nat) : Int := if p = true then -(m : Int) else m
theorem made_zero (k : Nat) (p : Bool) (h l : Int) (q : Bool) : ratio_made.f k 0 0 p h l q = some (0, 1, 0) := by
  unfold ratio_made.f
  rw [zero_at]; rfl
theorem made_at (A B k : Nat) (p q : Bool) (hk : B < k) (hA : A ≤ 9223372036854775807) (h0 : 0 < B) (hB : B ≤ 9223372036854775807) :
    ratio_made.f k 0 A p 0 B q = some ((red (sgd (p != q) A) B).1, (red (sgd (p != q) A) B).2, 0) := by
  by_cases hz : A = 0
  · subst hz
    rw [show ((0 : Nat) : Int) = 0 from rfl, made_zero]
    have : sgd (p != q) 0 = 0 := by unfold sgd; split <;> rfl
    rw [this]
    unfold red
    rw [Int.gcd_zero_left, Int.zero_ediv]
    rw [show ((B : Int).natAbs : Int) = B by omega, Int.ediv_self (by omega)]
  · have hg : 0 < Nat.gcd A B := Nat.gcd_pos_of_pos_right _ h0
    have hgl : Nat.gcd A B ≤ B := Nat.gcd_le_right _ h0
    have e1 : A / Nat.gcd A B ≤ A := Nat.div_le_self _ _
    have e2 : B / Nat.gcd A B ≤ B := Nat.div_le_self _ _
    unfold ratio_made.f
    rw [zero_at, rgcd_at A B k p q hk (by omega) (by omega)]
    have hd : decide ((0 : Int) = 0 ∧ (A : Int) = 0) = false := decide_eq_false (by omega)
    rw [hd]
    simp only [Option.bind_some, Bool.false_eq_true, if_false]
    rw [rby_at A _ p false hg (by omega) (by omega), rby_at B _ q false hg (by omega) (by omega)]
    simp only [Option.bind_some, if_true]
    rw [if_neg (by omega)]
    have r2 : (red (sgd (p != q) A) B).2 = ((B / Nat.gcd A B : Nat) : Int) := by
      unfold red sgd
      split
      · rw [Int.neg_gcd]; rfl
      · rfl
    have r1 : (red (sgd (p != q) A) B).1 = sgd (p != q) (A / Nat.gcd A B) := by
      unfold red sgd
      split
      · rw [Int.neg_gcd]
        show -(A : Int) / ((Nat.gcd A B : Nat) : Int) = _
        rw [Int.neg_ediv_of_dvd (Int.ofNat_dvd.2 (Nat.gcd_dvd_left A B))]; rfl
      · rfl
    rw [r1, r2]
    generalize A / Nat.gcd A B = a at *
    generalize B / Nat.gcd A B = b at *
    cases hs : (p != q)
    · simp only [Bool.false_eq_true, if_false]
      rw [if_pos (by omega), wr (by omega) (by omega), wr (by omega) (by omega)]; rfl
    · simp only [if_true]
      rw [if_pos (by omega), wr (x := (b : Int)) (by omega) (by omega)]
      have : wrap64 (IntKind.u64.wrap (-(a : Int))) = -(a : Int) := by rw [IntKind.wrap_u64]; unfold wrap64; omega
      rw [this]; rfl
theorem plus_at (A B : Nat) (p q : Bool) (h : A + B ≤ 18446744073709551615) : ∃ (C : Nat) (r : Bool), ratio_wide_plus.f 0 A p 0 B q = some (0, (C : Int), r) ∧ sgd r C = sgd p A + sgd q B ∧ C ≤ A + B := by
  unfold ratio_wide_plus.f
  rw [if_pos (by omega)]
  by_cases e : p = q
  · rw [if_pos e]
    subst e
    exact ⟨A + B, p, by simp, by cases p <;> simp [sgd] <;> omega, by omega⟩
  · rw [if_neg e]
    by_cases hl : (A : Int) < B
    · rw [if_pos hl]
      refine ⟨B - A, q, by rw [Int.ofNat_sub (by omega)], ?_, by omega⟩
      cases p <;> cases q <;> simp [sgd] at e ⊢ <;> omega
    · rw [if_neg hl]
      refine ⟨A - B, p, by rw [Int.ofNat_sub (by omega)], ?_, by omega⟩
      cases p <;> cases q <;> simp [sgd] at e ⊢ <;> omega
theorem sgd_mul (a b : Int) : sgd (decide (a < 0) != decide (b < 0)) (a.natAbs * b.natAbs) = a * b := (mul_parts a b).symm
theorem sgd_not (p : Bool) (m : Nat) : sgd (!p) m = -sgd p m := by cases p <;> simp [sgd]
theorem sgd_abs (p : Bool) (m : Nat) : (sgd p m).natAbs = m := by cases p <;> simp [sgd]
theorem sgd_eq {p : Bool} {m : Nat} {n : Int} (h : sgd p m = n) : m = n.natAbs := by rw [← h, sgd_abs]
/-- A fraction made of a signed size and a size that is no nought. -/
theorem made_is (A k : Nat) (p q : Bool) (B : Nat) (n d : Int) (hk : B < k) (hA : A ≤ 9223372036854775807) (h0 : 0 < B) (hB : B ≤ 9223372036854775807) (hn : sgd p A = n) (hd : (B : Int) = d) (hq : q = false) :
    ratio_made.f k 0 A p 0 B q = some ((red n d).1, (red n d).2, 0) := by
  rw [made_at A B k p q hk hA h0 hB, hq, Bool.bne_false, hn, hd]
theorem Of_at {n d : Int} (hn : n.natAbs ≤ 9223372036854775807) (hd : d.natAbs ≤ 9223372036854775807) (h0 : d ≠ 0) (k : Nat) (hk : d.natAbs < k) :
    ratio_Of.f k n d = some ((red (if d < 0 then -n else n) d.natAbs).1, (red (if d < 0 then -n else n) d.natAbs).2, 0) := by
  unfold ratio_Of.f
  rw [if_neg h0, times_small (a := n) (b := 1) (by unfold I; omega) (by unfold I; omega) (by rw [show (1 : Int).natAbs = 1 from rfl]; omega), times_small (a := d) (b := 1) (by unfold I; omega) (by unfold I; omega) (by rw [show (1 : Int).natAbs = 1 from rfl]; omega)]
  simp only [Option.bind_some]
  rw [show n.natAbs * (1 : Int).natAbs = n.natAbs from Nat.mul_one _, show d.natAbs * (1 : Int).natAbs = d.natAbs from Nat.mul_one _]
  rw [made_at _ _ _ _ _ hk hn (by omega) hd]
  have e : sgd ((decide (n < 0) != decide ((1 : Int) < 0)) != (decide (d < 0) != decide ((1 : Int) < 0))) n.natAbs = if d < 0 then -n else n := by
    by_cases h1 : n < 0 <;> by_cases h2 : d < 0 <;> simp [sgd, h1, h2] <;> omega
  rw [e]; rfl
theorem Of_no (n : Int) (k : Nat) : ratio_Of.f k n 0 = some (0, 0, 2) := by unfold ratio_Of.f; rw [if_pos rfl]
theorem May_at {n d : Int} (hn : I n) (hd : I d) (k : Nat) (hk : 9223372036854775808 < k) : ratio_May.f k n d = some (decide (0 < d ∧ Int.gcd n d = 1)) := by
  unfold ratio_May.f
  by_cases h : d > 0
  · rw [if_pos h, Gcd_at hn hd k hk]
    have hg : Int.gcd n d ≤ d.natAbs := Nat.gcd_le_right _ (by omega)
    have hG : G n d = (Int.gcd n d : Int) := by unfold G; rw [if_neg (by unfold I at hd; omega)]
    simp only [Option.bind_some, hG]
    by_cases h1 : Int.gcd n d = 1
    · rw [h1]; simp [h]
    · have : ¬ ((Int.gcd n d : Int) = 1) := by omega
      simp [h1, this]
  · rw [if_neg h]
    have : ¬ 0 < d := by omega
    simp [this]
/-- A fraction that may be, and fits. -/
structure Fr (x : Int × Int) : Prop where
  r : R x
  i1 : I x.1
  i2 : I x.2
theorem Fr.may {x : Int × Int} (h : Fr x) (k : Nat) (hk : 9223372036854775808 < k) : ratio_May.f k x.1 x.2 = some true := by
  rw [May_at h.i1 h.i2 k hk, decide_eq_true ⟨h.r.pos, h.r.low⟩]
theorem mul_abs (a b : Int) : (a * b).natAbs = a.natAbs * b.natAbs := Int.natAbs_mul a b
theorem Add_at {x y : Int × Int} (hx : Fr x) (hy : Fr y) (h1 : (x.1 * y.2).natAbs + (y.1 * x.2).natAbs ≤ 9223372036854775807) (h2 : (x.2 * y.2).natAbs ≤ 9223372036854775807) (k : Nat) (hk : 9223372036854775808 < k) :
    ratio_Add.f (k + 1) x.1 x.2 y.1 y.2 = some ((red (x.1 * y.2 + y.1 * x.2) (x.2 * y.2)).1, (red (x.1 * y.2 + y.1 * x.2) (x.2 * y.2)).2, 0) := by
  have p2 : 0 < x.2 * y.2 := Int.mul_pos hx.r.pos hy.r.pos
  unfold ratio_Add.f
  rw [hx.may (k + 1) (by omega), hy.may (k + 1) (by omega)]
  simp only [Option.bind_some, if_true, Bool.not_true, ratio_Add.j0, Bool.false_eq_true, if_false]
  rw [mul_abs, mul_abs] at h1
  rw [mul_abs] at h2
  rw [times_small hx.i1 hy.i2 (by omega), times_small hy.i1 hx.i2 (by omega), times_small hx.i2 hy.i2 (by omega)]
  simp only [Option.bind_some]
  obtain ⟨C, r, e1, e2, e3⟩ := plus_at (x.1.natAbs * y.2.natAbs) (y.1.natAbs * x.2.natAbs) (decide (x.1 < 0) != decide (y.2 < 0)) (decide (y.1 < 0) != decide (x.2 < 0)) (by omega)
  rw [e1]
  simp only [Option.bind_some]
  rw [sgd_mul, sgd_mul] at e2
  have e4 : ((x.2.natAbs * y.2.natAbs : Nat) : Int) = x.2 * y.2 := by rw [← mul_abs]; omega
  rw [made_is C k r _ (x.2.natAbs * y.2.natAbs) _ _ (by omega) (by omega) (by omega) h2 e2 e4 (by have := hx.r.pos; have := hy.r.pos; rw [decide_eq_false (by omega), decide_eq_false (by omega)]; rfl)]
  rfl
theorem Sub_at {x y : Int × Int} (hx : Fr x) (hy : Fr y) (h1 : (x.1 * y.2).natAbs + (y.1 * x.2).natAbs ≤ 9223372036854775807) (h2 : (x.2 * y.2).natAbs ≤ 9223372036854775807) (k : Nat) (hk : 9223372036854775808 < k) :
    ratio_Sub.f (k + 1) x.1 x.2 y.1 y.2 = some ((red (x.1 * y.2 - y.1 * x.2) (x.2 * y.2)).1, (red (x.1 * y.2 - y.1 * x.2) (x.2 * y.2)).2, 0) := by
  have p2 : 0 < x.2 * y.2 := Int.mul_pos hx.r.pos hy.r.pos
  unfold ratio_Sub.f
  rw [hx.may (k + 1) (by omega), hy.may (k + 1) (by omega)]
  simp only [Option.bind_some, if_true, Bool.not_true, ratio_Sub.j0, Bool.false_eq_true, if_false]
  rw [mul_abs, mul_abs] at h1
  rw [mul_abs] at h2
  rw [times_small hx.i1 hy.i2 (by omega), times_small hy.i1 hx.i2 (by omega), times_small hx.i2 hy.i2 (by omega)]
  simp only [Option.bind_some]
  obtain ⟨C, r, e1, e2, e3⟩ := plus_at (x.1.natAbs * y.2.natAbs) (y.1.natAbs * x.2.natAbs) (decide (x.1 < 0) != decide (y.2 < 0)) (!(decide (y.1 < 0) != decide (x.2 < 0))) (by omega)
  rw [e1]
  simp only [Option.bind_some]
  rw [sgd_not, sgd_mul, sgd_mul, ← Int.sub_eq_add_neg] at e2
  have e4 : ((x.2.natAbs * y.2.natAbs : Nat) : Int) = x.2 * y.2 := by rw [← mul_abs]; omega
  rw [made_is C k r _ (x.2.natAbs * y.2.natAbs) _ _ (by omega) (by omega) (by omega) h2 e2 e4 (by have := hx.r.pos; have := hy.r.pos; rw [decide_eq_false (by omega), decide_eq_false (by omega)]; rfl)]
  rfl
theorem Cmp_at {x y : Int × Int} (hx : Fr x) (hy : Fr y) (k : Nat) (hk : 9223372036854775808 < k) : ratio_Cmp.f k x.1 x.2 y.1 y.2 = some (cmp3 (x.1 * y.2) (y.1 * x.2)) := by
  unfold ratio_Cmp.f
  rw [hx.may k hk, hy.may k hk]
  obtain ⟨k, rfl⟩ : ∃ m, k = m + 4 := ⟨k - 4, by omega⟩
  simp only [Option.bind_some, if_true]
  rw [Cross_at hx.i1 hy.i2 hy.i1 hx.i2]; rfl
theorem down_div {a b : Int} (hb : 0 < b) : down a b = a / b := by
  unfold down
  have hd := Int.tdiv_eq_ediv (a := a) (b := b)
  have hs := Int.sign_eq_one_of_pos hb
  by_cases h : Int.tmod a b ≠ 0 ∧ ((a < 0) ≠ (b < 0))
  · rw [if_pos h]
    have ha : a < 0 := by
      by_cases ha : a < 0
      · exact ha
      · exact absurd (propext ⟨fun h => absurd h ha, fun h => by omega⟩) h.2
    have hnd : ¬ b ∣ a := fun hdv => h.1 (Int.tmod_eq_zero_of_dvd hdv)
    have hc : ¬ (0 ≤ a ∨ b ∣ a) := by
      rintro (h' | h')
      · omega
      · exact hnd h'
    rw [if_neg hc, hs] at hd
    omega
  · rw [if_neg h]
    by_cases ha : a < 0
    · have h0 : Int.tmod a b = 0 := by
        by_cases h0 : Int.tmod a b = 0
        · exact h0
        · exact absurd ⟨h0, fun e => by rw [eq_iff_iff] at e; omega⟩ h
      rw [if_pos (.inr (Int.dvd_of_tmod_eq_zero h0))] at hd
      omega
    · rw [if_pos (.inl (by omega))] at hd
      omega
theorem upp_div {a b : Int} (hb : 0 < b) : upp a b = -((-a) / b) := by
  have h1 := down_div (a := -a) hb
  rw [← h1]
  unfold upp down
  rw [Int.neg_tmod, Int.neg_tdiv]
  by_cases hz : Int.tmod a b = 0
  · rw [if_neg (fun h => h.1 hz), if_neg (fun h => h.1 (by rw [hz]; rfl))]; omega
  · have ha : a ≠ 0 := fun e => hz (by rw [e]; exact Int.zero_tmod b)
    by_cases hl : a < 0
    · rw [if_neg (fun h => by have := h.2; rw [eq_iff_iff] at this; omega), if_neg (fun h => h.2 (propext ⟨fun h => by omega, fun h => by omega⟩))]; omega
    · rw [if_pos ⟨hz, propext ⟨fun h => by omega, fun h => by omega⟩⟩, if_pos ⟨fun e => hz (by omega), fun e => by rw [eq_iff_iff] at e; omega⟩]; omega
theorem div_abs {a b : Int} (hb : 0 < b) (ha : I a) : I (a / b) ∧ I (-((-a) / b)) ∨ a = -9223372036854775808 := by
  by_cases he : a = -9223372036854775808
  · exact .inr he
  · have h0 := Int.natAbs_ediv_le_natAbs a b
    have h1 := Int.natAbs_ediv_le_natAbs (-a) b
    unfold I at ha ⊢
    exact .inl (by omega)
theorem fr_of (n d : Int) (h1 : 0 < d) (h2 : Int.gcd n d = 1) (h3 : I n) (h4 : I d) : Fr (n, d) := ⟨⟨h1, h2⟩, h3, h4⟩
theorem red_fr {n d : Int} (hd : 0 < d) (h1 : n.natAbs ≤ 9223372036854775807) (h2 : d ≤ 9223372036854775807) : Fr (red n d) := by
  have hl := red_le (n := n) hd
  have hp := (red_R (n := n) hd).pos
  exact ⟨red_R hd, by unfold I; omega, by unfold I; omega⟩
end Go.Proofs.Ytfgmenndmcjggaa.RaC
