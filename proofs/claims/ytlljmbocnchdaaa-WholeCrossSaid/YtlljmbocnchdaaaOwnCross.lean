/- The law evenhandedlaw1.WholeCross: two fractions compare as their products do, and signs turned turn it: a walk of the law's own code, over the printed contracts of what it calls. No condition. -/
import Derived.Test.YtlljmbocnchdaaaPlain
import Derived.Shelf.Bits.Mul64
import Derived.Test.YtlljmbocnchdaaaPWholeCrossx2
import Derived.Outline
import Derived.Deep.RegionHeld3
import Derived.StillTactics
set_option linter.unusedVariables false
set_option linter.unusedSimpArgs false
namespace Go.Proofs.Ytlljmbocnchdaaa.OwnCross
open Go.RowKit Go.Proofs.Ytlljmbocnchdaaa.PWholeCross Go.Proofs.YtlljmbocnchdaaaW.PrintWords Go.Proofs.YtlljmbocnchdaaaW.PrintLast Go.Proofs.YtlljmbocnchdaaaW.PrintMore WhPlain
theorem wr {x : Int} (h1 : -9223372036854775808 ≤ x) (h2 : x < 9223372036854775808) : wrap64 x = x := by
  unfold wrap64; omega
theorem wu {x : Int} (h1 : 0 ≤ x) (h2 : x < 18446744073709551616) : IntKind.u64.wrap x = x := by
  rw [IntKind.wrap_u64]; omega
theorem td {a b : Int} (h : 0 ≤ a) : Int.tdiv a b = a / b := Int.tdiv_eq_ediv_of_nonneg h
theorem tm {a b : Int} (h : 0 ≤ a) : Int.tmod a b = a % b := Int.tmod_eq_emod_of_nonneg h
theorem is64 {x : Int} (h : (Lit.int .i64 x).wf = true) : -9223372036854775808 ≤ x ∧ x < 9223372036854775808 := by
  have h1 : IntKind.i64.min = -9223372036854775808 := by decide
  have h2 : IntKind.i64.max = 9223372036854775807 := by decide
  simp only [Lit.wf, h1, h2, Bool.and_eq_true, decide_eq_true_eq] at h; omega
def I (x : Int) : Prop := -9223372036854775808 ≤ x ∧ x < 9223372036854775808
theorem I.abs {x : Int} (h : I x) : (x.natAbs : Int) ≤ 9223372036854775808 := by unfold I at h; omega
theorem size_at {a : Int} (h : I a) : whole_size.f a = some (a.natAbs : Int) := by
  unfold I at h; unfold whole_size.f; split
  · rw [IntKind.wrap_u64, IntKind.wrap_u64]; exact congrArg some (by omega)
  · rw [IntKind.wrap_u64]; exact congrArg some (by omega)
theorem mul64_at (x y : Nat) (hx : x < 18446744073709551616) (hy : y < 18446744073709551616) :
    bits_Mul64.f x y = some (((x * y / 18446744073709551616 : Nat) : Int), ((x * y % 18446744073709551616 : Nat) : Int)) := by
  obtain ⟨bd, bt, bw, hhi⟩ := Go.Lib.mul64_hi x y hx hy
  have ba := Go.Lib.half_mul_le (a := x / 4294967296) (b := y / 4294967296) (by omega) (by omega)
  have bb := Go.Lib.half_mul_le (a := x / 4294967296) (b := y % 4294967296) (by omega) (by omega)
  have bc := Go.Lib.half_mul_le (a := x % 4294967296) (b := y / 4294967296) (by omega) (by omega)
  have ba' : x / 4294967296 * (y / 4294967296) < 18446744073709551616 := by omega
  have bb' : x / 4294967296 * (y % 4294967296) < 18446744073709551616 := by omega
  have bc' : x % 4294967296 * (y / 4294967296) < 18446744073709551616 := by omega
  have bh1 : x / 4294967296 * (y / 4294967296) + (x / 4294967296 * (y % 4294967296) + x % 4294967296 * (y % 4294967296) / 4294967296) / 4294967296 < 18446744073709551616 := by omega
  have bh : x / 4294967296 * (y / 4294967296) + (x / 4294967296 * (y % 4294967296) + x % 4294967296 * (y % 4294967296) / 4294967296) / 4294967296 + ((x / 4294967296 * (y % 4294967296) + x % 4294967296 * (y % 4294967296) / 4294967296) % 4294967296 + x % 4294967296 * (y / 4294967296)) / 4294967296 < 18446744073709551616 := by omega
  unfold bits_Mul64.f
  simp only [Mul64.maskN x hx, Mul64.maskN y hy, Mul64.divN, Mul64.mulN, Mul64.addN, Mul64.wrapN _ bd, Mul64.wrapN _ bb', Mul64.wrapN _ bt, Mul64.maskN _ bt, Mul64.wrapN _ bc', Mul64.wrapN _ bw, Mul64.wrapN _ ba', Mul64.wrapN _ bh1, Mul64.wrapN _ bh, Mul64.wrapM (x * y)]
  rw [hhi]
theorem signed_at (n : Int) (h0 : 0 ≤ n) (hn : n < 18446744073709551616) (b : Bool) (k : Nat) : whole_signed.f (k + 1) n b = some (fit (if b = true then -n else n)) := by
  unfold whole_signed.f
  cases b with
  | true =>
    rw [if_pos rfl, if_pos rfl]; simp only [whole_signed.j0]
    by_cases h : n ≤ 9223372036854775808
    · rw [decide_eq_true h, if_pos rfl, fit_yes (by omega) (by omega)]
      have : wrap64 (IntKind.u64.wrap (-n)) = -n := by rw [IntKind.wrap_u64]; unfold wrap64; omega
      rw [this]
    · rw [decide_eq_false h, if_neg (by decide), if_pos trivial, fit_no (by omega)]
  | false =>
    rw [if_neg (by decide), if_neg (by decide)]; simp only [whole_signed.j0]
    rw [if_neg (by decide), if_neg (by decide)]
    by_cases h : n < 9223372036854775808
    · rw [if_pos h, fit_yes (by omega) h, wr (by omega) h]
    · rw [if_neg h, fit_no (by omega)]
theorem Mul_at {a b : Int} (ha : I a) (hb : I b) (k : Nat) : whole_Mul.f (k + 1) a b = some (fit (a * b)) := by
  have h1 := ha.abs; have h2 := hb.abs
  unfold whole_Mul.f
  rw [size_at ha, size_at hb]; simp only [Option.bind_some]
  rw [mul64_at _ _ (by omega) (by omega)]; simp only [Option.bind_some]
  rw [mul_parts a b]
  by_cases h : a.natAbs * b.natAbs < 18446744073709551616
  · rw [if_pos (by omega), signed_at _ (by omega) (by omega)]; simp only [Option.bind_some]
    rw [Nat.mod_eq_of_lt h]
  · rw [if_neg (by omega), fit_no]
    split <;> omega
theorem gcd_loop (n : Nat) : ∀ (m k : Nat), n < k → whole_Gcd.l0 k m n = some (if (Nat.gcd m n : Int) > 9223372036854775807 then 0 else wrap64 (Nat.gcd m n : Int)) := by
  induction n using Nat.strongRecOn with
  | _ n ih =>
    intro m k hk
    obtain ⟨k, rfl⟩ : ∃ j, k = j + 1 := ⟨k - 1, by omega⟩
    rw [whole_Gcd.l0]
    by_cases h : n = 0
    · subst h; rw [if_pos Int.natCast_zero, Nat.gcd_zero_right]; split <;> rfl
    · rw [if_neg (by omega), show Int.tmod (m : Int) (n : Int) = ((m % n : Nat) : Int) from rfl, ih (m % n) (Nat.mod_lt _ (by omega)) n k (by have := Nat.mod_lt m (show n > 0 by omega); omega), gcd_step m n]
theorem Gcd_at {a b : Int} (ha : I a) (hb : I b) (k : Nat) (hk : 9223372036854775808 < k) : whole_Gcd.f k a b = some (G a b) := by
  have h1 := ha.abs; have h2 := hb.abs
  unfold whole_Gcd.f
  rw [size_at ha, size_at hb]; simp only [Option.bind_some]
  rw [gcd_loop _ _ _ (by omega)]
  unfold G Int.gcd
  split
  · rfl
  · rw [wr (by omega) (by omega)]
theorem parted_at {a b : Int} (ha : I a) (hb : I b) (h0 : b ≠ 0) : whole_parted.f a b = some (((a.natAbs / b.natAbs : Nat) : Int), ((Int.tmod (a.natAbs : Int) (b.natAbs : Int)) != 0), (decide (a < 0) != decide (b < 0))) := by
  have h1 := ha.abs; have h2 := hb.abs
  unfold whole_parted.f
  rw [size_at ha, size_at hb]; simp only [Option.bind_some]
  rw [if_neg (by omega)]
  have : IntKind.u64.wrap (Int.tdiv (a.natAbs : Int) (b.natAbs : Int)) = ((a.natAbs / b.natAbs : Nat) : Int) := by
    have h3 : a.natAbs / b.natAbs ≤ a.natAbs := Nat.div_le_self _ _
    rw [show Int.tdiv (a.natAbs : Int) (b.natAbs : Int) = ((a.natAbs / b.natAbs : Nat) : Int) from rfl, wu (Int.natCast_nonneg _) (Int.lt_of_le_of_lt (Int.ofNat_le.2 h3) (by omega))]
  rw [this]
theorem cmpI_at (x y : Int) : cmp_Compare_int.f x y = some (cmp3 x y) := by
  unfold cmp_Compare_int.f cmp_isNaN_int.f cmp3
  simp only [Option.bind_some, bne_self_eq_false]
  rw [if_neg (by decide), if_neg (by decide)]; split
  · rfl
  · by_cases h : x > y
    · rw [if_pos h, if_pos h]
    · rw [if_neg h, if_neg h]
theorem cmpL_at (x y : Int) : cmp_Compare_int64.f x y = some (cmp3 x y) := by
  unfold cmp_Compare_int64.f cmp_isNaN_int64.f cmp3
  simp only [Option.bind_some, bne_self_eq_false]
  rw [if_neg (by decide), if_neg (by decide)]; split
  · rfl
  · by_cases h : x > y
    · rw [if_pos h, if_pos h]
    · rw [if_neg h, if_neg h]
theorem cmpU_at (x y : Int) : cmp_Compare_uint64.f x y = some (cmp3 x y) := by
  unfold cmp_Compare_uint64.f cmp_isNaN_uint64.f cmp3
  simp only [Option.bind_some, bne_self_eq_false]
  rw [if_neg (by decide), if_neg (by decide)]; split
  · rfl
  · by_cases h : x > y
    · rw [if_pos h, if_pos h]
    · rw [if_neg h, if_neg h]
theorem or2_at (x y : Int) (k : Nat) : cmp_Or_int.f (k + 3) [x, y] = some (if x = 0 then y else x) := by
  unfold cmp_Or_int.f
  simp only [cmp_Or_int.l0, List.length_cons, List.length_nil]
  have h0 : rd [x, y] 0 = x := rfl
  have h1 : rd [x, y] 1 = y := rfl
  have w1 : wrap64 (0 + 1) = 1 := by unfold wrap64; omega
  have w2 : wrap64 (1 + 1) = 2 := by unfold wrap64; omega
  rw [if_pos (by decide), if_pos (by decide), if_pos (by decide), h0]
  by_cases hx : x = 0
  · rw [if_pos hx, if_pos hx, w1, if_pos (by decide), if_pos (by decide), if_pos (by decide), h1]
    by_cases hy : y = 0
    · rw [if_pos hy, w2, if_neg (by decide), hy]
    · rw [if_neg hy]
  · rw [if_neg hx, if_neg hx]
theorem sign_at (a b : Int) : whole_sign.f a b = some (sg (a * b)) := by
  unfold whole_sign.f
  rw [cmpL_at, cmpL_at]; simp only [Option.bind_some]
  rw [cmp3_sg, cmp3_sg, sg_mul, wr]
  · have := sg_range (a * b); omega
  · have := sg_range (a * b); omega
theorem Cross_at {a b c d : Int} (ha : I a) (hb : I b) (hc : I c) (hd : I d) (k : Nat) : whole_Cross.f (k + 4) a b c d = some (cmp3 (a * b) (c * d)) := by
  unfold whole_Cross.f
  rw [sign_at, sign_at]; simp only [Option.bind_some]
  by_cases hs : sg (a * b) = sg (c * d)
  · rw [if_pos hs]
    by_cases h0 : sg (a * b) = 0
    · rw [beq_iff_eq.2 h0]; simp only [whole_Cross.j0, if_true]
      have z1 : a * b = 0 := sg_zero h0
      have z2 : c * d = 0 := sg_zero (hs ▸ h0)
      rw [cmpI_at, Option.bind_some, z1, z2, cmp3_eq rfl, cmp3_eq rfl]
    · rw [beq_eq_false_iff_ne.2 h0]; simp only [whole_Cross.j0]
      have h1 := ha.abs; have h2 := hb.abs; have h3 := hc.abs; have h4 := hd.abs
      rw [if_neg (by decide), size_at ha, size_at hb, size_at hc, size_at hd]; simp only [Option.bind_some]
      rw [mul64_at _ _ (by omega) (by omega), mul64_at _ _ (by omega) (by omega)]; simp only [Option.bind_some]
      rw [cmpU_at, cmpU_at]; simp only [Option.bind_some]
      rw [or2_at, Option.bind_some, cmp3_lex, ← Int.natAbs_mul, ← Int.natAbs_mul, cmp3_signs hs h0, wr]
      · have := cmp3_range (a * b) (c * d); omega
      · have := cmp3_range (a * b) (c * d); omega
  · rw [if_neg hs]; simp only [whole_Cross.j0, if_true]
    rw [cmpI_at, Option.bind_some, cmp3_sgs hs]
theorem G_small {a b : Int} (ha : I a) (hb : I b) (h1 : 1 ≤ a) : G a b = (Int.gcd a b : Int) ∧ 1 ≤ (Int.gcd a b : Int) ∧ (Int.gcd a b : Int) ≤ a := by
  have hg : Int.gcd a b ≤ a.natAbs := Nat.gcd_le_left _ (by omega)
  have hp : 0 < Int.gcd a b := Nat.gcd_pos_of_pos_left _ (by omega)
  unfold I at ha
  refine ⟨?_, by omega, by omega⟩
  unfold G; rw [if_neg (by omega)]
theorem Lcm_at {a b : Int} (ha : I a) (hb : I b) (h1 : 1 ≤ a) (h2 : 1 ≤ b) (k : Nat) (hk : 9223372036854775808 < k) : whole_Lcm.f (k + 1) a b = some (fit (a / (Int.gcd a b : Int) * b)) := by
  have hg := G_small ha hb h1
  unfold whole_Lcm.f
  rw [if_neg (by omega), decide_eq_false (by omega)]; simp only [whole_Lcm.j0]
  rw [if_neg (by decide), Gcd_at ha hb k hk, Option.bind_some, hg.1, if_neg (by omega), td (by omega)]
  have hd : 0 ≤ a / (Int.gcd a b : Int) ∧ a / (Int.gcd a b : Int) ≤ a := ⟨Int.ediv_nonneg (by omega) (by omega), Int.ediv_le_self _ (by omega)⟩
  have hI : I (a / (Int.gcd a b : Int)) := by unfold I at ha ⊢; omega
  obtain ⟨k, rfl⟩ : ∃ m, k = m + 1 := ⟨k - 1, by omega⟩
  rw [wr (by unfold I at hI; omega) (by unfold I at hI; omega), Mul_at hI hb]; rfl
theorem Lcm_no {a b : Int} (h : ¬ (1 ≤ a ∧ 1 ≤ b)) (k : Nat) : whole_Lcm.f (k + 1) a b = some (0, 2) := by
  unfold whole_Lcm.f
  by_cases h1 : a < 1
  · rw [if_pos h1]; simp only [whole_Lcm.j0, if_true]
  · rw [if_neg h1, decide_eq_true (by omega)]; simp only [whole_Lcm.j0, if_true]
theorem Floor_at {a b : Int} (ha : I a) (hb : I b) (h0 : b ≠ 0) (k : Nat) : whole_Floor.f (k + 1) a b = some (fit (down a b)) := by
  have h1 := ha.abs; have h2 := hb.abs
  have h3 : a.natAbs / b.natAbs ≤ a.natAbs := Nat.div_le_self _ _
  unfold whole_Floor.f
  rw [if_neg h0, parted_at ha hb h0]; simp only [Option.bind_some]
  have hdp := tdiv_parts a b; have hz := tmod_zero a b
  have hmm : Int.tmod (a.natAbs : Int) (b.natAbs : Int) = ((a.natAbs % b.natAbs : Nat) : Int) := rfl
  have hgen : ∀ (n : Int) (s : Bool), 0 ≤ n → n < 18446744073709551616 → ((whole_signed.f (k + 1) n s).bind fun bt => some (bt.1, bt.2)) = some (fit (if s = true then -n else n)) := by
    intro n s hn0 hn; rw [signed_at n hn0 hn]; rfl
  unfold down
  rw [hdp, hmm]
  generalize a.natAbs / b.natAbs = q at *
  generalize a.natAbs % b.natAbs = r at *
  by_cases hr : r = 0
  · rw [if_neg (show ¬ (Int.tmod a b ≠ 0 ∧ _) from fun h => h.1 (hz.2 hr)), hr]
    rw [if_neg (show ¬ ((((0 : Nat) : Int) != 0) = true) by decide)]
    by_cases hs : (decide (a < 0) != decide (b < 0)) = true
    · rw [if_pos hs, if_pos hs, hgen _ _ (by omega) (by omega)]
      by_cases hn : (q : Int) > 0
      · rw [decide_eq_true hn, if_pos rfl]
      · rw [decide_eq_false hn, if_neg (by decide)]
        exact congrArg (fun x => some (fit x)) (by omega)
    · rw [if_neg hs, if_neg hs, hgen _ _ (by omega) (by omega), if_neg (by decide)]
  · have hr' : ((r : Int) != 0) = true := by rw [bne_iff_ne]; omega
    rw [hr', if_pos rfl]
    have hne : Int.tmod a b ≠ 0 := fun h => hr (hz.1 h)
    by_cases hs : (decide (a < 0) != decide (b < 0)) = true
    · have hs' : (a < 0) ≠ (b < 0) := by
        intro he; rw [bne_iff_ne] at hs; exact hs (decide_eq_decide.2 (iff_of_eq he))
      rw [if_pos hs, if_pos hs, if_pos ⟨hne, hs'⟩, wu (by omega) (by omega), decide_eq_true (by omega), hgen _ _ (by omega) (by omega), if_pos rfl]
      exact congrArg (fun x => some (fit x)) (by omega)
    · have hs' : ¬ ((a < 0) ≠ (b < 0)) := by
        intro he; apply he
        have : decide (a < 0) = decide (b < 0) := by simpa using hs
        exact propext (decide_eq_decide.1 this)
      rw [if_neg hs, if_neg hs, if_neg (fun h => hs' h.2), hgen _ _ (by omega) (by omega), if_neg (by decide)]
theorem Floor_no {a : Int} (k : Nat) : whole_Floor.f k a 0 = some (0, 2) := by unfold whole_Floor.f; rw [if_pos rfl]
theorem awake_yes (k : Nat) (hk : 30 ≤ k) : evenhandedlaw1_awake.f k = some true :=
  at_rounds (evenhandedlaw1_awake.mono) hk (by decide +kernel)

set_option maxHeartbeats 4000000 in
set_option maxRecDepth 100000 in
theorem walk1m (a b c d : Int) (w : World) (HA : Aside0 (evenhandedlaw1_awake.f 30 = some true)) (H1' : Aside0 (whole_Cross.f 4 a b c d = some (-1))) (H2' : Aside0 (whole_Cross.f 4 c d a b = some (-(-1))))
    (b1 : (a == -9223372036854775808) = true) :
    Calls Try.prog 4 #[.int .i64 a, .int .i64 b, .agg #[.int .i64 c, .int .i64 d]] w fun e w' => e = .returned (.bool true) ∧ Below w.heap.size w w' := by
  go_enter Try.func4, Try.ntmps4
  go_wp2_with fail
  refine (evenhandedlaw1_awake.calls 30 true _ HA.out).mono ?_
  rintro e w1 ⟨rfl, hb1⟩
  have k0 : w1.cell? ⟨w.heap.size, 0, none⟩ = some (.int .i64 c) := (hb1.cell (p := ⟨w.heap.size, 0, none⟩) (by simp)).trans (by go_simp)
  have k1 : w1.cell? ⟨w.heap.size, 1, none⟩ = some (.int .i64 d) := (hb1.cell (p := ⟨w.heap.size, 1, none⟩) (by simp)).trans (by go_simp)
  have kb : Below w.heap.size w w1 := ((Below.refl _ _).alloc (Nat.le_refl _) _).trans (hb1.mono (by simp))
  have kz : w.heap.size < w1.heap.size := by have := hb1.size; simp at this; omega
  clear hb1
  go_wp2_with fail
  go_region_held3 (fun w' => w'.cell? ⟨w.heap.size, 0, none⟩ = some (.int .i64 c) ∧ w'.cell? ⟨w.heap.size, 1, none⟩ = some (.int .i64 d) ∧ Below w.heap.size w w' ∧ w.heap.size < w'.heap.size)
    (first
      | exact ⟨k0, k1, kb.drew, kz⟩
      | go_keep
      | (go_split_ands
         refine ⟨?_, ?_, ?_, ?_⟩
         · (rw [hb2.cell (p := ⟨w.heap.size, 0, none⟩) (by assumption)]; assumption)
         · (rw [hb2.cell (p := ⟨w.heap.size, 1, none⟩) (by assumption)]; assumption)
         · (refine Below.trans (by assumption) (hb2.mono (by omega)))
         · (have := hb2.size; omega)))
    (first | (go_at_call 13; (with_reducible refine (whole_Cross.calls 4 a b c d _ _ H1'.out).mono ?_); rintro e w2 ⟨rfl, hb2⟩) | (go_at_call 13; (with_reducible refine (whole_Cross.calls 4 c d a b _ _ H2'.out).mono ?_); rintro e w2 ⟨rfl, hb2⟩))
  all_goals
    obtain ⟨q0, q1, qb, qz⟩ := ‹_ ∧ _ ∧ Below w.heap.size w _ ∧ w.heap.size < _›
    clear k0 k1 kb kz
    go_wp2
    go_ret
    exact ⟨rfl, qb⟩
set_option maxHeartbeats 4000000 in
set_option maxRecDepth 100000 in
theorem walk1z (a b c d : Int) (w : World) (HA : Aside0 (evenhandedlaw1_awake.f 30 = some true)) (H1' : Aside0 (whole_Cross.f 4 a b c d = some 0)) (H2' : Aside0 (whole_Cross.f 4 c d a b = some (-0)))
    (b1 : (a == -9223372036854775808) = true) :
    Calls Try.prog 4 #[.int .i64 a, .int .i64 b, .agg #[.int .i64 c, .int .i64 d]] w fun e w' => e = .returned (.bool true) ∧ Below w.heap.size w w' := by
  go_enter Try.func4, Try.ntmps4
  go_wp2_with fail
  refine (evenhandedlaw1_awake.calls 30 true _ HA.out).mono ?_
  rintro e w1 ⟨rfl, hb1⟩
  have k0 : w1.cell? ⟨w.heap.size, 0, none⟩ = some (.int .i64 c) := (hb1.cell (p := ⟨w.heap.size, 0, none⟩) (by simp)).trans (by go_simp)
  have k1 : w1.cell? ⟨w.heap.size, 1, none⟩ = some (.int .i64 d) := (hb1.cell (p := ⟨w.heap.size, 1, none⟩) (by simp)).trans (by go_simp)
  have kb : Below w.heap.size w w1 := ((Below.refl _ _).alloc (Nat.le_refl _) _).trans (hb1.mono (by simp))
  have kz : w.heap.size < w1.heap.size := by have := hb1.size; simp at this; omega
  clear hb1
  go_wp2_with fail
  go_region_held3 (fun w' => w'.cell? ⟨w.heap.size, 0, none⟩ = some (.int .i64 c) ∧ w'.cell? ⟨w.heap.size, 1, none⟩ = some (.int .i64 d) ∧ Below w.heap.size w w' ∧ w.heap.size < w'.heap.size)
    (first
      | exact ⟨k0, k1, kb.drew, kz⟩
      | go_keep
      | (go_split_ands
         refine ⟨?_, ?_, ?_, ?_⟩
         · (rw [hb2.cell (p := ⟨w.heap.size, 0, none⟩) (by assumption)]; assumption)
         · (rw [hb2.cell (p := ⟨w.heap.size, 1, none⟩) (by assumption)]; assumption)
         · (refine Below.trans (by assumption) (hb2.mono (by omega)))
         · (have := hb2.size; omega)))
    (first | (go_at_call 13; (with_reducible refine (whole_Cross.calls 4 a b c d _ _ H1'.out).mono ?_); rintro e w2 ⟨rfl, hb2⟩) | (go_at_call 13; (with_reducible refine (whole_Cross.calls 4 c d a b _ _ H2'.out).mono ?_); rintro e w2 ⟨rfl, hb2⟩))
  all_goals
    obtain ⟨q0, q1, qb, qz⟩ := ‹_ ∧ _ ∧ Below w.heap.size w _ ∧ w.heap.size < _›
    clear k0 k1 kb kz
    go_wp2
    go_ret
    exact ⟨rfl, qb⟩
set_option maxHeartbeats 4000000 in
set_option maxRecDepth 100000 in
theorem walk1p (a b c d : Int) (w : World) (HA : Aside0 (evenhandedlaw1_awake.f 30 = some true)) (H1' : Aside0 (whole_Cross.f 4 a b c d = some 1)) (H2' : Aside0 (whole_Cross.f 4 c d a b = some (-1)))
    (b1 : (a == -9223372036854775808) = true) :
    Calls Try.prog 4 #[.int .i64 a, .int .i64 b, .agg #[.int .i64 c, .int .i64 d]] w fun e w' => e = .returned (.bool true) ∧ Below w.heap.size w w' := by
  go_enter Try.func4, Try.ntmps4
  go_wp2_with fail
  refine (evenhandedlaw1_awake.calls 30 true _ HA.out).mono ?_
  rintro e w1 ⟨rfl, hb1⟩
  have k0 : w1.cell? ⟨w.heap.size, 0, none⟩ = some (.int .i64 c) := (hb1.cell (p := ⟨w.heap.size, 0, none⟩) (by simp)).trans (by go_simp)
  have k1 : w1.cell? ⟨w.heap.size, 1, none⟩ = some (.int .i64 d) := (hb1.cell (p := ⟨w.heap.size, 1, none⟩) (by simp)).trans (by go_simp)
  have kb : Below w.heap.size w w1 := ((Below.refl _ _).alloc (Nat.le_refl _) _).trans (hb1.mono (by simp))
  have kz : w.heap.size < w1.heap.size := by have := hb1.size; simp at this; omega
  clear hb1
  go_wp2_with fail
  go_region_held3 (fun w' => w'.cell? ⟨w.heap.size, 0, none⟩ = some (.int .i64 c) ∧ w'.cell? ⟨w.heap.size, 1, none⟩ = some (.int .i64 d) ∧ Below w.heap.size w w' ∧ w.heap.size < w'.heap.size)
    (first
      | exact ⟨k0, k1, kb.drew, kz⟩
      | go_keep
      | (go_split_ands
         refine ⟨?_, ?_, ?_, ?_⟩
         · (rw [hb2.cell (p := ⟨w.heap.size, 0, none⟩) (by assumption)]; assumption)
         · (rw [hb2.cell (p := ⟨w.heap.size, 1, none⟩) (by assumption)]; assumption)
         · (refine Below.trans (by assumption) (hb2.mono (by omega)))
         · (have := hb2.size; omega)))
    (first | (go_at_call 13; (with_reducible refine (whole_Cross.calls 4 a b c d _ _ H1'.out).mono ?_); rintro e w2 ⟨rfl, hb2⟩) | (go_at_call 13; (with_reducible refine (whole_Cross.calls 4 c d a b _ _ H2'.out).mono ?_); rintro e w2 ⟨rfl, hb2⟩))
  all_goals
    obtain ⟨q0, q1, qb, qz⟩ := ‹_ ∧ _ ∧ Below w.heap.size w _ ∧ w.heap.size < _›
    clear k0 k1 kb kz
    go_wp2
    go_ret
    exact ⟨rfl, qb⟩
set_option maxHeartbeats 4000000 in
set_option maxRecDepth 100000 in
theorem walk2m (a b c d : Int) (w : World) (HA : Aside0 (evenhandedlaw1_awake.f 30 = some true)) (H1' : Aside0 (whole_Cross.f 4 a b c d = some (-1))) (H2' : Aside0 (whole_Cross.f 4 c d a b = some (-(-1))))
    (b1 : (a == -9223372036854775808) = false) (b2 : (c == -9223372036854775808) = true) :
    Calls Try.prog 4 #[.int .i64 a, .int .i64 b, .agg #[.int .i64 c, .int .i64 d]] w fun e w' => e = .returned (.bool true) ∧ Below w.heap.size w w' := by
  go_enter Try.func4, Try.ntmps4
  go_wp2_with fail
  refine (evenhandedlaw1_awake.calls 30 true _ HA.out).mono ?_
  rintro e w1 ⟨rfl, hb1⟩
  have k0 : w1.cell? ⟨w.heap.size, 0, none⟩ = some (.int .i64 c) := (hb1.cell (p := ⟨w.heap.size, 0, none⟩) (by simp)).trans (by go_simp)
  have k1 : w1.cell? ⟨w.heap.size, 1, none⟩ = some (.int .i64 d) := (hb1.cell (p := ⟨w.heap.size, 1, none⟩) (by simp)).trans (by go_simp)
  have kb : Below w.heap.size w w1 := ((Below.refl _ _).alloc (Nat.le_refl _) _).trans (hb1.mono (by simp))
  have kz : w.heap.size < w1.heap.size := by have := hb1.size; simp at this; omega
  clear hb1
  go_wp2_with fail
  go_region_held3 (fun w' => w'.cell? ⟨w.heap.size, 0, none⟩ = some (.int .i64 c) ∧ w'.cell? ⟨w.heap.size, 1, none⟩ = some (.int .i64 d) ∧ Below w.heap.size w w' ∧ w.heap.size < w'.heap.size)
    (first
      | exact ⟨k0, k1, kb.drew, kz⟩
      | go_keep
      | (go_split_ands
         refine ⟨?_, ?_, ?_, ?_⟩
         · (rw [hb2.cell (p := ⟨w.heap.size, 0, none⟩) (by assumption)]; assumption)
         · (rw [hb2.cell (p := ⟨w.heap.size, 1, none⟩) (by assumption)]; assumption)
         · (refine Below.trans (by assumption) (hb2.mono (by omega)))
         · (have := hb2.size; omega)))
    (first | (go_at_call 13; (with_reducible refine (whole_Cross.calls 4 a b c d _ _ H1'.out).mono ?_); rintro e w2 ⟨rfl, hb2⟩) | (go_at_call 13; (with_reducible refine (whole_Cross.calls 4 c d a b _ _ H2'.out).mono ?_); rintro e w2 ⟨rfl, hb2⟩))
  all_goals
    obtain ⟨q0, q1, qb, qz⟩ := ‹_ ∧ _ ∧ Below w.heap.size w _ ∧ w.heap.size < _›
    clear k0 k1 kb kz
    go_wp2
    go_ret
    exact ⟨rfl, qb⟩
set_option maxHeartbeats 4000000 in
set_option maxRecDepth 100000 in
theorem walk2z (a b c d : Int) (w : World) (HA : Aside0 (evenhandedlaw1_awake.f 30 = some true)) (H1' : Aside0 (whole_Cross.f 4 a b c d = some 0)) (H2' : Aside0 (whole_Cross.f 4 c d a b = some (-0)))
    (b1 : (a == -9223372036854775808) = false) (b2 : (c == -9223372036854775808) = true) :
    Calls Try.prog 4 #[.int .i64 a, .int .i64 b, .agg #[.int .i64 c, .int .i64 d]] w fun e w' => e = .returned (.bool true) ∧ Below w.heap.size w w' := by
  go_enter Try.func4, Try.ntmps4
  go_wp2_with fail
  refine (evenhandedlaw1_awake.calls 30 true _ HA.out).mono ?_
  rintro e w1 ⟨rfl, hb1⟩
  have k0 : w1.cell? ⟨w.heap.size, 0, none⟩ = some (.int .i64 c) := (hb1.cell (p := ⟨w.heap.size, 0, none⟩) (by simp)).trans (by go_simp)
  have k1 : w1.cell? ⟨w.heap.size, 1, none⟩ = some (.int .i64 d) := (hb1.cell (p := ⟨w.heap.size, 1, none⟩) (by simp)).trans (by go_simp)
  have kb : Below w.heap.size w w1 := ((Below.refl _ _).alloc (Nat.le_refl _) _).trans (hb1.mono (by simp))
  have kz : w.heap.size < w1.heap.size := by have := hb1.size; simp at this; omega
  clear hb1
  go_wp2_with fail
  go_region_held3 (fun w' => w'.cell? ⟨w.heap.size, 0, none⟩ = some (.int .i64 c) ∧ w'.cell? ⟨w.heap.size, 1, none⟩ = some (.int .i64 d) ∧ Below w.heap.size w w' ∧ w.heap.size < w'.heap.size)
    (first
      | exact ⟨k0, k1, kb.drew, kz⟩
      | go_keep
      | (go_split_ands
         refine ⟨?_, ?_, ?_, ?_⟩
         · (rw [hb2.cell (p := ⟨w.heap.size, 0, none⟩) (by assumption)]; assumption)
         · (rw [hb2.cell (p := ⟨w.heap.size, 1, none⟩) (by assumption)]; assumption)
         · (refine Below.trans (by assumption) (hb2.mono (by omega)))
         · (have := hb2.size; omega)))
    (first | (go_at_call 13; (with_reducible refine (whole_Cross.calls 4 a b c d _ _ H1'.out).mono ?_); rintro e w2 ⟨rfl, hb2⟩) | (go_at_call 13; (with_reducible refine (whole_Cross.calls 4 c d a b _ _ H2'.out).mono ?_); rintro e w2 ⟨rfl, hb2⟩))
  all_goals
    obtain ⟨q0, q1, qb, qz⟩ := ‹_ ∧ _ ∧ Below w.heap.size w _ ∧ w.heap.size < _›
    clear k0 k1 kb kz
    go_wp2
    go_ret
    exact ⟨rfl, qb⟩
set_option maxHeartbeats 4000000 in
set_option maxRecDepth 100000 in
theorem walk2p (a b c d : Int) (w : World) (HA : Aside0 (evenhandedlaw1_awake.f 30 = some true)) (H1' : Aside0 (whole_Cross.f 4 a b c d = some 1)) (H2' : Aside0 (whole_Cross.f 4 c d a b = some (-1)))
    (b1 : (a == -9223372036854775808) = false) (b2 : (c == -9223372036854775808) = true) :
    Calls Try.prog 4 #[.int .i64 a, .int .i64 b, .agg #[.int .i64 c, .int .i64 d]] w fun e w' => e = .returned (.bool true) ∧ Below w.heap.size w w' := by
  go_enter Try.func4, Try.ntmps4
  go_wp2_with fail
  refine (evenhandedlaw1_awake.calls 30 true _ HA.out).mono ?_
  rintro e w1 ⟨rfl, hb1⟩
  have k0 : w1.cell? ⟨w.heap.size, 0, none⟩ = some (.int .i64 c) := (hb1.cell (p := ⟨w.heap.size, 0, none⟩) (by simp)).trans (by go_simp)
  have k1 : w1.cell? ⟨w.heap.size, 1, none⟩ = some (.int .i64 d) := (hb1.cell (p := ⟨w.heap.size, 1, none⟩) (by simp)).trans (by go_simp)
  have kb : Below w.heap.size w w1 := ((Below.refl _ _).alloc (Nat.le_refl _) _).trans (hb1.mono (by simp))
  have kz : w.heap.size < w1.heap.size := by have := hb1.size; simp at this; omega
  clear hb1
  go_wp2_with fail
  go_region_held3 (fun w' => w'.cell? ⟨w.heap.size, 0, none⟩ = some (.int .i64 c) ∧ w'.cell? ⟨w.heap.size, 1, none⟩ = some (.int .i64 d) ∧ Below w.heap.size w w' ∧ w.heap.size < w'.heap.size)
    (first
      | exact ⟨k0, k1, kb.drew, kz⟩
      | go_keep
      | (go_split_ands
         refine ⟨?_, ?_, ?_, ?_⟩
         · (rw [hb2.cell (p := ⟨w.heap.size, 0, none⟩) (by assumption)]; assumption)
         · (rw [hb2.cell (p := ⟨w.heap.size, 1, none⟩) (by assumption)]; assumption)
         · (refine Below.trans (by assumption) (hb2.mono (by omega)))
         · (have := hb2.size; omega)))
    (first | (go_at_call 13; (with_reducible refine (whole_Cross.calls 4 a b c d _ _ H1'.out).mono ?_); rintro e w2 ⟨rfl, hb2⟩) | (go_at_call 13; (with_reducible refine (whole_Cross.calls 4 c d a b _ _ H2'.out).mono ?_); rintro e w2 ⟨rfl, hb2⟩))
  all_goals
    obtain ⟨q0, q1, qb, qz⟩ := ‹_ ∧ _ ∧ Below w.heap.size w _ ∧ w.heap.size < _›
    clear k0 k1 kb kz
    go_wp2
    go_ret
    exact ⟨rfl, qb⟩
set_option maxHeartbeats 4000000 in
set_option maxRecDepth 100000 in
theorem walk3m (a b c d : Int) (w : World) (HA : Aside0 (evenhandedlaw1_awake.f 30 = some true)) (H1' : Aside0 (whole_Cross.f 4 a b c d = some (-1))) (H2' : Aside0 (whole_Cross.f 4 c d a b = some (-(-1))))
    (b1 : (a == -9223372036854775808) = false) (b2 : (c == -9223372036854775808) = false) (H3 : Aside0 (whole_Cross.f 4 (wrap64 (-a)) b (wrap64 (-c)) d = some (-(-1)))) :
    Calls Try.prog 4 #[.int .i64 a, .int .i64 b, .agg #[.int .i64 c, .int .i64 d]] w fun e w' => e = .returned (.bool true) ∧ Below w.heap.size w w' := by
  go_enter Try.func4, Try.ntmps4
  go_wp2_with fail
  refine (evenhandedlaw1_awake.calls 30 true _ HA.out).mono ?_
  rintro e w1 ⟨rfl, hb1⟩
  have k0 : w1.cell? ⟨w.heap.size, 0, none⟩ = some (.int .i64 c) := (hb1.cell (p := ⟨w.heap.size, 0, none⟩) (by simp)).trans (by go_simp)
  have k1 : w1.cell? ⟨w.heap.size, 1, none⟩ = some (.int .i64 d) := (hb1.cell (p := ⟨w.heap.size, 1, none⟩) (by simp)).trans (by go_simp)
  have kb : Below w.heap.size w w1 := ((Below.refl _ _).alloc (Nat.le_refl _) _).trans (hb1.mono (by simp))
  have kz : w.heap.size < w1.heap.size := by have := hb1.size; simp at this; omega
  clear hb1
  go_wp2_with fail
  go_region_held3 (fun w' => w'.cell? ⟨w.heap.size, 0, none⟩ = some (.int .i64 c) ∧ w'.cell? ⟨w.heap.size, 1, none⟩ = some (.int .i64 d) ∧ Below w.heap.size w w' ∧ w.heap.size < w'.heap.size)
    (first
      | exact ⟨k0, k1, kb.drew, kz⟩
      | go_keep
      | (go_split_ands
         refine ⟨?_, ?_, ?_, ?_⟩
         · (rw [hb2.cell (p := ⟨w.heap.size, 0, none⟩) (by assumption)]; assumption)
         · (rw [hb2.cell (p := ⟨w.heap.size, 1, none⟩) (by assumption)]; assumption)
         · (refine Below.trans (by assumption) (hb2.mono (by omega)))
         · (have := hb2.size; omega)))
    (first | (go_at_call 13; (with_reducible refine (whole_Cross.calls 4 a b c d _ _ H1'.out).mono ?_); rintro e w2 ⟨rfl, hb2⟩) | (go_at_call 13; (with_reducible refine (whole_Cross.calls 4 c d a b _ _ H2'.out).mono ?_); rintro e w2 ⟨rfl, hb2⟩))
  all_goals
    obtain ⟨q0, q1, qb, qz⟩ := ‹_ ∧ _ ∧ Below w.heap.size w _ ∧ w.heap.size < _›
    clear k0 k1 kb kz hb2
    go_wp2_with fail
    refine (whole_Cross.calls 4 _ b _ d _ _ H3.out).mono ?_
    rintro e w5 ⟨rfl, hb5⟩
    go_wp2
    go_ret
    exact ⟨rfl, qb.trans (hb5.mono (by omega))⟩
set_option maxHeartbeats 4000000 in
set_option maxRecDepth 100000 in
theorem walk3z (a b c d : Int) (w : World) (HA : Aside0 (evenhandedlaw1_awake.f 30 = some true)) (H1' : Aside0 (whole_Cross.f 4 a b c d = some 0)) (H2' : Aside0 (whole_Cross.f 4 c d a b = some (-0)))
    (b1 : (a == -9223372036854775808) = false) (b2 : (c == -9223372036854775808) = false) (H3 : Aside0 (whole_Cross.f 4 (wrap64 (-a)) b (wrap64 (-c)) d = some (-0))) :
    Calls Try.prog 4 #[.int .i64 a, .int .i64 b, .agg #[.int .i64 c, .int .i64 d]] w fun e w' => e = .returned (.bool true) ∧ Below w.heap.size w w' := by
  go_enter Try.func4, Try.ntmps4
  go_wp2_with fail
  refine (evenhandedlaw1_awake.calls 30 true _ HA.out).mono ?_
  rintro e w1 ⟨rfl, hb1⟩
  have k0 : w1.cell? ⟨w.heap.size, 0, none⟩ = some (.int .i64 c) := (hb1.cell (p := ⟨w.heap.size, 0, none⟩) (by simp)).trans (by go_simp)
  have k1 : w1.cell? ⟨w.heap.size, 1, none⟩ = some (.int .i64 d) := (hb1.cell (p := ⟨w.heap.size, 1, none⟩) (by simp)).trans (by go_simp)
  have kb : Below w.heap.size w w1 := ((Below.refl _ _).alloc (Nat.le_refl _) _).trans (hb1.mono (by simp))
  have kz : w.heap.size < w1.heap.size := by have := hb1.size; simp at this; omega
  clear hb1
  go_wp2_with fail
  go_region_held3 (fun w' => w'.cell? ⟨w.heap.size, 0, none⟩ = some (.int .i64 c) ∧ w'.cell? ⟨w.heap.size, 1, none⟩ = some (.int .i64 d) ∧ Below w.heap.size w w' ∧ w.heap.size < w'.heap.size)
    (first
      | exact ⟨k0, k1, kb.drew, kz⟩
      | go_keep
      | (go_split_ands
         refine ⟨?_, ?_, ?_, ?_⟩
         · (rw [hb2.cell (p := ⟨w.heap.size, 0, none⟩) (by assumption)]; assumption)
         · (rw [hb2.cell (p := ⟨w.heap.size, 1, none⟩) (by assumption)]; assumption)
         · (refine Below.trans (by assumption) (hb2.mono (by omega)))
         · (have := hb2.size; omega)))
    (first | (go_at_call 13; (with_reducible refine (whole_Cross.calls 4 a b c d _ _ H1'.out).mono ?_); rintro e w2 ⟨rfl, hb2⟩) | (go_at_call 13; (with_reducible refine (whole_Cross.calls 4 c d a b _ _ H2'.out).mono ?_); rintro e w2 ⟨rfl, hb2⟩))
  all_goals
    obtain ⟨q0, q1, qb, qz⟩ := ‹_ ∧ _ ∧ Below w.heap.size w _ ∧ w.heap.size < _›
    clear k0 k1 kb kz hb2
    go_wp2_with fail
    refine (whole_Cross.calls 4 _ b _ d _ _ H3.out).mono ?_
    rintro e w5 ⟨rfl, hb5⟩
    go_wp2
    go_ret
    exact ⟨rfl, qb.trans (hb5.mono (by omega))⟩
set_option maxHeartbeats 4000000 in
set_option maxRecDepth 100000 in
theorem walk3p (a b c d : Int) (w : World) (HA : Aside0 (evenhandedlaw1_awake.f 30 = some true)) (H1' : Aside0 (whole_Cross.f 4 a b c d = some 1)) (H2' : Aside0 (whole_Cross.f 4 c d a b = some (-1)))
    (b1 : (a == -9223372036854775808) = false) (b2 : (c == -9223372036854775808) = false) (H3 : Aside0 (whole_Cross.f 4 (wrap64 (-a)) b (wrap64 (-c)) d = some (-1))) :
    Calls Try.prog 4 #[.int .i64 a, .int .i64 b, .agg #[.int .i64 c, .int .i64 d]] w fun e w' => e = .returned (.bool true) ∧ Below w.heap.size w w' := by
  go_enter Try.func4, Try.ntmps4
  go_wp2_with fail
  refine (evenhandedlaw1_awake.calls 30 true _ HA.out).mono ?_
  rintro e w1 ⟨rfl, hb1⟩
  have k0 : w1.cell? ⟨w.heap.size, 0, none⟩ = some (.int .i64 c) := (hb1.cell (p := ⟨w.heap.size, 0, none⟩) (by simp)).trans (by go_simp)
  have k1 : w1.cell? ⟨w.heap.size, 1, none⟩ = some (.int .i64 d) := (hb1.cell (p := ⟨w.heap.size, 1, none⟩) (by simp)).trans (by go_simp)
  have kb : Below w.heap.size w w1 := ((Below.refl _ _).alloc (Nat.le_refl _) _).trans (hb1.mono (by simp))
  have kz : w.heap.size < w1.heap.size := by have := hb1.size; simp at this; omega
  clear hb1
  go_wp2_with fail
  go_region_held3 (fun w' => w'.cell? ⟨w.heap.size, 0, none⟩ = some (.int .i64 c) ∧ w'.cell? ⟨w.heap.size, 1, none⟩ = some (.int .i64 d) ∧ Below w.heap.size w w' ∧ w.heap.size < w'.heap.size)
    (first
      | exact ⟨k0, k1, kb.drew, kz⟩
      | go_keep
      | (go_split_ands
         refine ⟨?_, ?_, ?_, ?_⟩
         · (rw [hb2.cell (p := ⟨w.heap.size, 0, none⟩) (by assumption)]; assumption)
         · (rw [hb2.cell (p := ⟨w.heap.size, 1, none⟩) (by assumption)]; assumption)
         · (refine Below.trans (by assumption) (hb2.mono (by omega)))
         · (have := hb2.size; omega)))
    (first | (go_at_call 13; (with_reducible refine (whole_Cross.calls 4 a b c d _ _ H1'.out).mono ?_); rintro e w2 ⟨rfl, hb2⟩) | (go_at_call 13; (with_reducible refine (whole_Cross.calls 4 c d a b _ _ H2'.out).mono ?_); rintro e w2 ⟨rfl, hb2⟩))
  all_goals
    obtain ⟨q0, q1, qb, qz⟩ := ‹_ ∧ _ ∧ Below w.heap.size w _ ∧ w.heap.size < _›
    clear k0 k1 kb kz hb2
    go_wp2_with fail
    refine (whole_Cross.calls 4 _ b _ d _ _ H3.out).mono ?_
    rintro e w5 ⟨rfl, hb5⟩
    go_wp2
    go_ret
    exact ⟨rfl, qb.trans (hb5.mono (by omega))⟩
theorem walk (a b c d : Int) (w : World) (w0 : (Lit.int .i64 a).wf = true) (w1 : (Lit.int .i64 b).wf = true) (w2 : (Lit.int .i64 c).wf = true) (w3 : (Lit.int .i64 d).wf = true) :
    Calls Try.prog 4 #[.int .i64 a, .int .i64 b, .agg #[.int .i64 c, .int .i64 d]] w fun e w' => e = .returned (.bool true) ∧ Below w.heap.size w w' := by
  have ha := is64 w0; have hb := is64 w1; have hc := is64 w2; have hd := is64 w3
  have HA := Aside0.mk (awake_yes 30 (by omega))
  have H1 : Aside0 (whole_Cross.f 4 a b c d = some (cmp3 (a * b) (c * d))) := ⟨Cross_at ha hb hc hd 0⟩
  have H2 : Aside0 (whole_Cross.f 4 c d a b = some (-cmp3 (a * b) (c * d))) := ⟨by rw [Cross_at hc hd ha hb 0, cmp3_swap]⟩
  have H3 : a ≠ -9223372036854775808 → c ≠ -9223372036854775808 → Aside0 (whole_Cross.f 4 (wrap64 (-a)) b (wrap64 (-c)) d = some (-cmp3 (a * b) (c * d))) := fun h1 h2 => ⟨by
    rw [wr (x := -a) (by omega) (by omega), wr (x := -c) (by omega) (by omega), Cross_at (k := 0) (by unfold I; omega) hb (by unfold I; omega) hd, Int.neg_mul, Int.neg_mul, cmp3_neg]⟩
  by_cases h1 : a = -9223372036854775808
  · rcases cmp3_range (a * b) (c * d) with hx | hx | hx <;> rw [hx] at H1 H2
    · exact walk1m a b c d w HA H1 H2 (beq_iff_eq.2 h1)
    · exact walk1z a b c d w HA H1 H2 (beq_iff_eq.2 h1)
    · exact walk1p a b c d w HA H1 H2 (beq_iff_eq.2 h1)
  · by_cases h2 : c = -9223372036854775808
    · rcases cmp3_range (a * b) (c * d) with hx | hx | hx <;> rw [hx] at H1 H2
      · exact walk2m a b c d w HA H1 H2 (beq_eq_false_iff_ne.2 h1) (beq_iff_eq.2 h2)
      · exact walk2z a b c d w HA H1 H2 (beq_eq_false_iff_ne.2 h1) (beq_iff_eq.2 h2)
      · exact walk2p a b c d w HA H1 H2 (beq_eq_false_iff_ne.2 h1) (beq_iff_eq.2 h2)
    · have H3' := H3 h1 h2
      rcases cmp3_range (a * b) (c * d) with hx | hx | hx <;> rw [hx] at H1 H2 H3'
      · exact walk3m a b c d w HA H1 H2 (beq_eq_false_iff_ne.2 h1) (beq_eq_false_iff_ne.2 h2) H3'
      · exact walk3z a b c d w HA H1 H2 (beq_eq_false_iff_ne.2 h1) (beq_eq_false_iff_ne.2 h2) H3'
      · exact walk3p a b c d w HA H1 H2 (beq_eq_false_iff_ne.2 h1) (beq_eq_false_iff_ne.2 h2) H3'
end Go.Proofs.Ytlljmbocnchdaaa.OwnCross
