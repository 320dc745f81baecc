/- Package ratio: what its functions compute, of all fractions. No condition. -/
import Derived.Test.YtkgafogkeaaniaaWhPlainzm
import Derived.Shelf.Bits.Mul64
import Derived.Test.YtkgafogkeaaniaaPWx0zm
import Derived.Test.YtkgafogkeaaniaaPWx1zm
import Derived.Test.YtkgafogkeaaniaaPWx2zm
import Derived.Test.YtkgafogkeaaniaaPWx3zm
import Derived.Test.YtkgafogkeaaniaaPWx4zm
import Derived.Test.YtkgafogkeaaniaaPWx5zm
set_option linter.unusedVariables false
set_option linter.unusedSimpArgs false
namespace Go.Proofs.Ytkgafogkeaaniaa.RwC
open Go.RowKit Go.Proofs.Ytkgafogkeaaniaa.PW Go.Proofs.YtkgafogkeaaniaaW.PrintWords Go.Proofs.YtkgafogkeaaniaaW.PrintLast Go.Proofs.Ytkgafogkeaaniaa.DvC Go.Proofs.Ytkgafogkeaaniaa.DvD Go.Proofs.Ytkgafogkeaaniaa.DvE WhPlain RaPlain
theorem wr {x : Int} (h1 : -9223372036854775808 ≤ x) (h2 : x < 9223372036854775808) : wrap64 x = x := by
  unfold wrap64; omega
theorem is64 {x : Int} (h : (Lit.int .i64 x).wf = true) : -9223372036854775808 ≤ x ∧ x < 9223372036854775808 := by
  have h1 : IntKind.i64.min = -9223372036854775808 := by decide
  have h2 : IntKind.i64.max = 9223372036854775807 := by decide
  simp only [Lit.wf, h1, h2, Bool.and_eq_true, decide_eq_true_eq] at h; omega
def I (x : Int) : Prop := -9223372036854775808 ≤ x ∧ x < 9223372036854775808
theorem I.abs {x : Int} (h : I x) : (x.natAbs : Int) ≤ 9223372036854775808 := by unfold I at h; omega
theorem size_at {a : Int} (h : I a) : whole_size.f a = some (a.natAbs : Int) := by
  unfold I at h; unfold whole_size.f; split
  · rw [IntKind.wrap_u64, IntKind.wrap_u64]; exact congrArg some (by omega)
  · rw [IntKind.wrap_u64]; exact congrArg some (by omega)
theorem mul64_at (x y : Nat) (hx : x < 18446744073709551616) (hy : y < 18446744073709551616) :
    bits_Mul64.f x y = some (((x * y / 18446744073709551616 : Nat) : Int), ((x * y % 18446744073709551616 : Nat) : Int)) := by
  obtain ⟨bd, bt, bw, hhi⟩ := Go.Lib.mul64_hi x y hx hy
  have ba := Go.Lib.half_mul_le (a := x / 4294967296) (b := y / 4294967296) (by omega) (by omega)
  have bb := Go.Lib.half_mul_le (a := x / 4294967296) (b := y % 4294967296) (by omega) (by omega)
  have bc := Go.Lib.half_mul_le (a := x % 4294967296) (b := y / 4294967296) (by omega) (by omega)
  have ba' : x / 4294967296 * (y / 4294967296) < 18446744073709551616 := by omega
  have bb' : x / 4294967296 * (y % 4294967296) < 18446744073709551616 := by omega
  have bc' : x % 4294967296 * (y / 4294967296) < 18446744073709551616 := by omega
  have bh1 : x / 4294967296 * (y / 4294967296) + (x / 4294967296 * (y % 4294967296) + x % 4294967296 * (y % 4294967296) / 4294967296) / 4294967296 < 18446744073709551616 := by omega
  have bh : x / 4294967296 * (y / 4294967296) + (x / 4294967296 * (y % 4294967296) + x % 4294967296 * (y % 4294967296) / 4294967296) / 4294967296 + ((x / 4294967296 * (y % 4294967296) + x % 4294967296 * (y % 4294967296) / 4294967296) % 4294967296 + x % 4294967296 * (y / 4294967296)) / 4294967296 < 18446744073709551616 := by omega
  unfold bits_Mul64.f
  simp only [Mul64.maskN x hx, Mul64.maskN y hy, Mul64.divN, Mul64.mulN, Mul64.addN, Mul64.wrapN _ bd, Mul64.wrapN _ bb', Mul64.wrapN _ bt, Mul64.maskN _ bt, Mul64.wrapN _ bc', Mul64.wrapN _ bw, Mul64.wrapN _ ba', Mul64.wrapN _ bh1, Mul64.wrapN _ bh, Mul64.wrapM (x * y)]
  rw [hhi]
theorem gcd_loop (n : Nat) : ∀ (m k : Nat), n < k → whole_Gcd.l0 k m n = some (if (Nat.gcd m n : Int) > 9223372036854775807 then 0 else wrap64 (Nat.gcd m n : Int)) := by
  induction n using Nat.strongRecOn with
  | _ n ih =>
    intro m k hk
    obtain ⟨k, rfl⟩ : ∃ j, k = j + 1 := ⟨k - 1, by omega⟩
    rw [whole_Gcd.l0]
    by_cases h : n = 0
    · subst h; rw [if_pos Int.natCast_zero, Nat.gcd_zero_right]; split <;> rfl
    · rw [if_neg (by omega), show Int.tmod (m : Int) (n : Int) = ((m % n : Nat) : Int) from rfl, ih (m % n) (Nat.mod_lt _ (by omega)) n k (by have := Nat.mod_lt m (show n > 0 by omega); omega), gcd_step m n]
theorem Gcd_at {a b : Int} (ha : I a) (hb : I b) (k : Nat) (hk : 9223372036854775808 < k) : whole_Gcd.f k a b = some (G a b) := by
  have h1 := ha.abs; have h2 := hb.abs
  unfold whole_Gcd.f
  rw [size_at ha, size_at hb]; simp only [Option.bind_some]
  rw [gcd_loop _ _ _ (by omega)]
  unfold G Int.gcd
  split
  · rfl
  · rw [wr (by omega) (by omega)]
theorem cmpI_at (x y : Int) : cmp_Compare_int.f x y = some (cmp3 x y) := by
  unfold cmp_Compare_int.f cmp_isNaN_int.f cmp3
  simp only [Option.bind_some, bne_self_eq_false]
  rw [if_neg (by decide), if_neg (by decide)]; split
  · rfl
  · by_cases h : x > y
    · rw [if_pos h, if_pos h]
    · rw [if_neg h, if_neg h]
theorem cmpL_at (x y : Int) : cmp_Compare_int64.f x y = some (cmp3 x y) := by
  unfold cmp_Compare_int64.f cmp_isNaN_int64.f cmp3
  simp only [Option.bind_some, bne_self_eq_false]
  rw [if_neg (by decide), if_neg (by decide)]; split
  · rfl
  · by_cases h : x > y
    · rw [if_pos h, if_pos h]
    · rw [if_neg h, if_neg h]
theorem cmpU_at (x y : Int) : cmp_Compare_uint64.f x y = some (cmp3 x y) := by
  unfold cmp_Compare_uint64.f cmp_isNaN_uint64.f cmp3
  simp only [Option.bind_some, bne_self_eq_false]
  rw [if_neg (by decide), if_neg (by decide)]; split
  · rfl
  · by_cases h : x > y
    · rw [if_pos h, if_pos h]
    · rw [if_neg h, if_neg h]
theorem or2_at (x y : Int) (k : Nat) : cmp_Or_int.f (k + 3) [x, y] = some (if x = 0 then y else x) := by
  unfold cmp_Or_int.f
  simp only [cmp_Or_int.l0, List.length_cons, List.length_nil]
  have h0 : rd [x, y] 0 = x := rfl
  have h1 : rd [x, y] 1 = y := rfl
  have w1 : wrap64 (0 + 1) = 1 := by unfold wrap64; omega
  have w2 : wrap64 (1 + 1) = 2 := by unfold wrap64; omega
  rw [if_pos (by decide), if_pos (by decide), if_pos (by decide), h0]
  by_cases hx : x = 0
  · rw [if_pos hx, if_pos hx, w1, if_pos (by decide), if_pos (by decide), if_pos (by decide), h1]
    by_cases hy : y = 0
    · rw [if_pos hy, w2, if_neg (by decide), hy]
    · rw [if_neg hy]
  · rw [if_neg hx, if_neg hx]
theorem sign_at (a b : Int) : whole_sign.f a b = some (sg (a * b)) := by
  unfold whole_sign.f
  rw [cmpL_at, cmpL_at]; simp only [Option.bind_some]
  rw [cmp3_sg, cmp3_sg, sg_mul, wr]
  · have := sg_range (a * b); omega
  · have := sg_range (a * b); omega
theorem Cross_at {a b c d : Int} (ha : I a) (hb : I b) (hc : I c) (hd : I d) (k : Nat) : whole_Cross.f (k + 4) a b c d = some (cmp3 (a * b) (c * d)) := by
  unfold whole_Cross.f
  rw [sign_at, sign_at]; simp only [Option.bind_some]
  by_cases hs : sg (a * b) = sg (c * d)
  · rw [if_pos hs]
    by_cases h0 : sg (a * b) = 0
    · rw [beq_iff_eq.2 h0]; simp only [whole_Cross.j0, if_true]
      have z1 : a * b = 0 := sg_zero h0
      have z2 : c * d = 0 := sg_zero (hs ▸ h0)
      rw [cmpI_at, Option.bind_some, z1, z2, cmp3_eq rfl, cmp3_eq rfl]
    · rw [beq_eq_false_iff_ne.2 h0]; simp only [whole_Cross.j0]
      have h1 := ha.abs; have h2 := hb.abs; have h3 := hc.abs; have h4 := hd.abs
      rw [if_neg (by decide), size_at ha, size_at hb, size_at hc, size_at hd]; simp only [Option.bind_some]
      rw [mul64_at _ _ (by omega) (by omega), mul64_at _ _ (by omega) (by omega)]; simp only [Option.bind_some]
      rw [cmpU_at, cmpU_at]; simp only [Option.bind_some]
      rw [or2_at, Option.bind_some, cmp3_lex, ← Int.natAbs_mul, ← Int.natAbs_mul, cmp3_signs hs h0, wr]
      · have := cmp3_range (a * b) (c * d); omega
      · have := cmp3_range (a * b) (c * d); omega
  · rw [if_neg hs]; simp only [whole_Cross.j0, if_true]
    rw [cmpI_at, Option.bind_some, cmp3_sgs hs]
theorem rsize_at {a : Int} (h : I a) : ratio_size.f a = some (a.natAbs : Int) := by
  unfold I at h; unfold ratio_size.f; split
  · rw [IntKind.wrap_u64, IntKind.wrap_u64]; exact congrArg some (by omega)
  · rw [IntKind.wrap_u64]; exact congrArg some (by omega)
theorem times_at {a b : Int} (ha : I a) (hb : I b) : ratio_times.f a b = some (((a.natAbs * b.natAbs / 18446744073709551616 : Nat) : Int), ((a.natAbs * b.natAbs % 18446744073709551616 : Nat) : Int), (decide (a < 0) != decide (b < 0))) := by
  have h1 := ha.abs; have h2 := hb.abs
  unfold ratio_times.f
  rw [rsize_at ha, rsize_at hb]; simp only [Option.bind_some]
  rw [mul64_at _ _ (by omega) (by omega)]; rfl
theorem zero_at (h l : Int) (b : Bool) : ratio_wide_zero.f h l b = some (decide (h = 0 ∧ l = 0)) := by
  unfold ratio_wide_zero.f
  by_cases h0 : h = 0
  · rw [if_pos h0]; by_cases h1 : l = 0 <;> simp [h0, h1]
  · rw [if_neg h0]; simp [h0]
theorem hl_num (X : Nat) : num (hiw X) (low X) = X := by
  unfold num hiw low
  rw [Int.toNat_natCast, Int.toNat_natCast]
  exact nat2_V X
theorem hl_in (X : Nat) (h : X < 2 ^ 128) : In2 (hiw X) (low X) := by
  obtain ⟨a, b⟩ := V_lt X h
  unfold In2 hiw low
  omega
theorem zero_w (X : Nat) (p : Bool) : ratio_wide_zero.f (hiw X) (low X) p = some (decide (X = 0)) := by
  rw [zero_at]
  congr 1
  refine decide_eq_decide.2 ?_
  unfold hiw low
  omega
theorem mod_w (X Y : Nat) (p q : Bool) (hx : X < 2 ^ 128) (hy : Y < 2 ^ 128) (h0 : 0 < Y) : ratio_wide_mod.f (hiw X) (low X) p (hiw Y) (low Y) q = some (hiw (X % Y), low (X % Y), false) := by
  unfold ratio_wide_mod.f
  rw [hl_num, hl_num, if_pos ⟨hl_in X hx, hl_in Y hy, h0⟩]
theorem by_w (X Y : Nat) (p q : Bool) (hx : X < 2 ^ 128) (hy : Y < 2 ^ 128) (h0 : 0 < Y) : ratio_wide_by.f (hiw X) (low X) p (hiw Y) (low Y) q = some (if X / Y < 18446744073709551616 then (((X / Y : Nat) : Int), true) else (0, false)) := by
  unfold ratio_wide_by.f
  rw [hl_num, hl_num, if_pos ⟨hl_in X hx, hl_in Y hy, h0⟩]
/-- Two words hold it (the bound is kept from sight). -/
structure Lt2 (X : Nat) : Prop where
  out : X < 2 ^ 128
theorem Lt2.le {X Y : Nat} (h : Lt2 X) (k : Y ≤ X) : Lt2 Y := ⟨Nat.lt_of_le_of_lt k h.out⟩
theorem gcd_end {k : Nat} {a b c d : Int} {p q : Bool} (hz : ratio_wide_zero.f c d q = some true) : ratio_gcd.l0 (k + 1) a b p c d q = some (a, b, false) := by
  rw [ratio_gcd.l0, hz, Option.bind_some, if_pos rfl]
theorem gcd_more {k : Nat} {a b c d x y : Int} {p q s : Bool} (hz : ratio_wide_zero.f c d q = some false) (hm : ratio_wide_mod.f a b p c d q = some (x, y, s)) : ratio_gcd.l0 (k + 1) a b p c d q = ratio_gcd.l0 k c d q x y s := by
  rw [ratio_gcd.l0, hz, Option.bind_some, if_neg (fun h => Bool.noConfusion h), hm, Option.bind_some]
theorem zero_t {Y : Nat} (q : Bool) (h : Y = 0) : ratio_wide_zero.f (hiw Y) (low Y) q = some true := (zero_w Y q).trans (congrArg some (decide_eq_true h))
theorem zero_f {Y : Nat} (q : Bool) (h : ¬ Y = 0) : ratio_wide_zero.f (hiw Y) (low Y) q = some false := (zero_w Y q).trans (congrArg some (decide_eq_false h))
theorem gcd_w (Y : Nat) : ∀ (X k : Nat) (p q : Bool), Y < k → Lt2 X → Lt2 Y → ratio_gcd.l0 k (hiw X) (low X) p (hiw Y) (low Y) q = some (hiw (Nat.gcd X Y), low (Nat.gcd X Y), false) := by
  induction Y using Nat.strongRecOn with
  | _ Y ih =>
    intro X k p q hk hx hy
    obtain ⟨k, rfl⟩ : ∃ j, k = j + 1 := ⟨k - 1, by omega⟩
    by_cases h : Y = 0
    · refine (gcd_end (zero_t q h)).trans ?_
      rw [h, Nat.gcd_zero_right]
    · refine (gcd_more (zero_f q h) (mod_w X Y p q hx.out hy.out (Nat.pos_of_ne_zero h))).trans ?_
      have hm := Nat.mod_lt X (Nat.pos_of_ne_zero h)
      rw [ih (X % Y) hm Y k q false (by omega) hy (hy.le (Nat.le_of_lt hm)), gcd_step X Y]
/-- The number with its sign. -/
def sgd (p : Bool) (m : Nat) : Int := if p = true then -(m : Int) else m
def over : Int × Int × Int := (0, 0, 14)
/-- The end of made: two quotients, each with its word that it fits. -/
def fin (s : Bool) (x : Int) (a : Bool) (y : Int) (b : Bool) : Option (Int × Int × Int) :=
  (if a = true then (if b = true then (if y > 9223372036854775807 then (some (0, 0, 14)) else (if s = true then (if x ≤ 9223372036854775808 then (some (wrap64 (IntKind.u64.wrap (-x)), wrap64 y, 0)) else (some (0, 0, 14))) else (if x ≤ 9223372036854775807 then (some (wrap64 x, wrap64 y, 0)) else (some (0, 0, 14))))) else (some (0, 0, 14))) else (some (0, 0, 14)))
theorem made_zero {k : Nat} {a b c d : Int} {p q : Bool} (hz : ratio_wide_zero.f a b p = some true) : ratio_made.f k a b p c d q = some (0, 1, 0) := by
  unfold ratio_made.f
  rw [hz, Option.bind_some, if_pos rfl]
theorem made_more {k : Nat} {a b c d g1 g2 x y : Int} {p q s ok1 ok2 : Bool} (hz : ratio_wide_zero.f a b p = some false) (hg : ratio_gcd.l0 k a b p c d q = some (g1, g2, s)) (hx : ratio_wide_by.f a b p g1 g2 s = some (x, ok1)) (hy : ratio_wide_by.f c d q g1 g2 s = some (y, ok2)) : ratio_made.f k a b p c d q = fin (p != q) x ok1 y ok2 := by
  unfold ratio_made.f ratio_gcd.f
  rw [hz, Option.bind_some, if_neg (fun h => Bool.noConfusion h), hg, Option.bind_some, hx, Option.bind_some, hy, Option.bind_some]
  rfl
/-- Where a size is made: no word but that it is made or is too great. -/
theorem fin_or (s : Bool) (x : Int) (a : Bool) (y : Int) (b : Bool) : ∃ n d e, fin s x a y b = some (n, d, e) ∧ (e = 0 ∨ e = 14) := by
  unfold fin
  repeat' split
  all_goals exact ⟨_, _, _, rfl, by decide⟩
def qt (X Y : Nat) : Int × Bool := if X / Y < 18446744073709551616 then (((X / Y : Nat) : Int), true) else (0, false)
theorem by_q (X Y : Nat) (p q : Bool) (hx : X < 2 ^ 128) (hy : Y < 2 ^ 128) (h0 : 0 < Y) : ratio_wide_by.f (hiw X) (low X) p (hiw Y) (low Y) q = some ((qt X Y).1, (qt X Y).2) := by_w X Y p q hx hy h0
/-- Of two sizes, the lower one no zero, made answers: with 0 or with 14. -/
theorem made_or (A B k : Nat) (p q : Bool) (hk : B < k) (hA : Lt2 A) (h0 : 0 < B) (hB : Lt2 B) : ∃ n d e, ratio_made.f k (hiw A) (low A) p (hiw B) (low B) q = some (n, d, e) ∧ (e = 0 ∨ e = 14) := by
  by_cases hz : A = 0
  · exact ⟨0, 1, 0, made_zero (zero_t p hz), Or.inl rfl⟩
  · have hg : 0 < Nat.gcd A B := Nat.gcd_pos_of_pos_right _ h0
    have hgl : Nat.gcd A B ≤ B := Nat.gcd_le_right _ h0
    rw [made_more (zero_f p hz) (gcd_w B A k p q hk hA hB) (by_q A _ p false hA.out (hB.le hgl).out hg) (by_q B _ q false hB.out (hB.le hgl).out hg)]
    exact fin_or _ _ _ _ _
end Go.Proofs.Ytkgafogkeaaniaa.RwC
