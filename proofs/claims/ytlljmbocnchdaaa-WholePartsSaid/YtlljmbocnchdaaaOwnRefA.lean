/- Contracts of the reference's functions of chapter 1, walked by hand: magnitude, Mul, Add, Gcd, product, Cross. No condition but that the numbers are of 64 bits. -/
import Derived.Test.YtlljmbocnchdaaaPlain
import Derived.Shelf.Bits.Mul64
import Derived.Test.YtlljmbocnchdaaaPWholeLawsx3
import Derived.Deep.RegionWith
import Derived.Deep.RegionHeld3
import Derived.StillTactics
import Derived.Outline
set_option linter.unusedVariables false
set_option linter.unusedSimpArgs false
namespace Go.Proofs.Ytlljmbocnchdaaa.OwnRef
open Go.RowKit Go.Proofs.Ytlljmbocnchdaaa.PWholeLaws Go.Proofs.YtlljmbocnchdaaaW.PrintWords Go.Proofs.YtlljmbocnchdaaaW.PrintLast Go.Proofs.YtlljmbocnchdaaaW.PrintMore WhPlain
theorem wr {x : Int} (h1 : -9223372036854775808 ≤ x) (h2 : x < 9223372036854775808) : wrap64 x = x := by
  unfold wrap64; omega
theorem wu {x : Int} (h1 : 0 ≤ x) (h2 : x < 18446744073709551616) : IntKind.u64.wrap x = x := by
  rw [IntKind.wrap_u64]; omega
theorem td {a b : Int} (h : 0 ≤ a) : Int.tdiv a b = a / b := Int.tdiv_eq_ediv_of_nonneg h
theorem tm {a b : Int} (h : 0 ≤ a) : Int.tmod a b = a % b := Int.tmod_eq_emod_of_nonneg h
theorem is64 {x : Int} (h : (Lit.int .i64 x).wf = true) : -9223372036854775808 ≤ x ∧ x < 9223372036854775808 := by
  have h1 : IntKind.i64.min = -9223372036854775808 := by decide
  have h2 : IntKind.i64.max = 9223372036854775807 := by decide
  simp only [Lit.wf, h1, h2, Bool.and_eq_true, decide_eq_true_eq] at h; omega
def I (x : Int) : Prop := -9223372036854775808 ≤ x ∧ x < 9223372036854775808
theorem I.abs {x : Int} (h : I x) : (x.natAbs : Int) ≤ 9223372036854775808 := by unfold I at h; omega
theorem size_at {a : Int} (h : I a) : whole_size.f a = some (a.natAbs : Int) := by
  unfold I at h; unfold whole_size.f; split
  · rw [IntKind.wrap_u64, IntKind.wrap_u64]; exact congrArg some (by omega)
  · rw [IntKind.wrap_u64]; exact congrArg some (by omega)
theorem mul64_at (x y : Nat) (hx : x < 18446744073709551616) (hy : y < 18446744073709551616) :
    bits_Mul64.f x y = some (((x * y / 18446744073709551616 : Nat) : Int), ((x * y % 18446744073709551616 : Nat) : Int)) := by
  obtain ⟨bd, bt, bw, hhi⟩ := Go.Lib.mul64_hi x y hx hy
  have ba := Go.Lib.half_mul_le (a := x / 4294967296) (b := y / 4294967296) (by omega) (by omega)
  have bb := Go.Lib.half_mul_le (a := x / 4294967296) (b := y % 4294967296) (by omega) (by omega)
  have bc := Go.Lib.half_mul_le (a := x % 4294967296) (b := y / 4294967296) (by omega) (by omega)
  have ba' : x / 4294967296 * (y / 4294967296) < 18446744073709551616 := by omega
  have bb' : x / 4294967296 * (y % 4294967296) < 18446744073709551616 := by omega
  have bc' : x % 4294967296 * (y / 4294967296) < 18446744073709551616 := by omega
  have bh1 : x / 4294967296 * (y / 4294967296) + (x / 4294967296 * (y % 4294967296) + x % 4294967296 * (y % 4294967296) / 4294967296) / 4294967296 < 18446744073709551616 := by omega
  have bh : x / 4294967296 * (y / 4294967296) + (x / 4294967296 * (y % 4294967296) + x % 4294967296 * (y % 4294967296) / 4294967296) / 4294967296 + ((x / 4294967296 * (y % 4294967296) + x % 4294967296 * (y % 4294967296) / 4294967296) % 4294967296 + x % 4294967296 * (y / 4294967296)) / 4294967296 < 18446744073709551616 := by omega
  unfold bits_Mul64.f
  simp only [Mul64.maskN x hx, Mul64.maskN y hy, Mul64.divN, Mul64.mulN, Mul64.addN, Mul64.wrapN _ bd, Mul64.wrapN _ bb', Mul64.wrapN _ bt, Mul64.maskN _ bt, Mul64.wrapN _ bc', Mul64.wrapN _ bw, Mul64.wrapN _ ba', Mul64.wrapN _ bh1, Mul64.wrapN _ bh, Mul64.wrapM (x * y)]
  rw [hhi]
theorem signed_at (n : Int) (h0 : 0 ≤ n) (hn : n < 18446744073709551616) (b : Bool) (k : Nat) : whole_signed.f (k + 1) n b = some (fit (if b = true then -n else n)) := by
  unfold whole_signed.f
  cases b with
  | true =>
    rw [if_pos rfl, if_pos rfl]; simp only [whole_signed.j0]
    by_cases h : n ≤ 9223372036854775808
    · rw [decide_eq_true h, if_pos rfl, fit_yes (by omega) (by omega)]
      have : wrap64 (IntKind.u64.wrap (-n)) = -n := by rw [IntKind.wrap_u64]; unfold wrap64; omega
      rw [this]
    · rw [decide_eq_false h, if_neg (by decide), if_pos trivial, fit_no (by omega)]
  | false =>
    rw [if_neg (by decide), if_neg (by decide)]; simp only [whole_signed.j0]
    rw [if_neg (by decide), if_neg (by decide)]
    by_cases h : n < 9223372036854775808
    · rw [if_pos h, fit_yes (by omega) h, wr (by omega) h]
    · rw [if_neg h, fit_no (by omega)]
theorem Mul_at {a b : Int} (ha : I a) (hb : I b) (k : Nat) : whole_Mul.f (k + 1) a b = some (fit (a * b)) := by
  have h1 := ha.abs; have h2 := hb.abs
  unfold whole_Mul.f
  rw [size_at ha, size_at hb]; simp only [Option.bind_some]
  rw [mul64_at _ _ (by omega) (by omega)]; simp only [Option.bind_some]
  rw [mul_parts a b]
  by_cases h : a.natAbs * b.natAbs < 18446744073709551616
  · rw [if_pos (by omega), signed_at _ (by omega) (by omega)]; simp only [Option.bind_some]
    rw [Nat.mod_eq_of_lt h]
  · rw [if_neg (by omega), fit_no]
    split <;> omega
theorem gcd_loop (n : Nat) : ∀ (m k : Nat), n < k → whole_Gcd.l0 k m n = some (if (Nat.gcd m n : Int) > 9223372036854775807 then 0 else wrap64 (Nat.gcd m n : Int)) := by
  induction n using Nat.strongRecOn with
  | _ n ih =>
    intro m k hk
    obtain ⟨k, rfl⟩ : ∃ j, k = j + 1 := ⟨k - 1, by omega⟩
    rw [whole_Gcd.l0]
    by_cases h : n = 0
    · subst h; rw [if_pos Int.natCast_zero, Nat.gcd_zero_right]; split <;> rfl
    · rw [if_neg (by omega), show Int.tmod (m : Int) (n : Int) = ((m % n : Nat) : Int) from rfl, ih (m % n) (Nat.mod_lt _ (by omega)) n k (by have := Nat.mod_lt m (show n > 0 by omega); omega), gcd_step m n]
theorem Gcd_at {a b : Int} (ha : I a) (hb : I b) (k : Nat) (hk : 9223372036854775808 < k) : whole_Gcd.f k a b = some (G a b) := by
  have h1 := ha.abs; have h2 := hb.abs
  unfold whole_Gcd.f
  rw [size_at ha, size_at hb]; simp only [Option.bind_some]
  rw [gcd_loop _ _ _ (by omega)]
  unfold G Int.gcd
  split
  · rfl
  · rw [wr (by omega) (by omega)]
theorem parted_at {a b : Int} (ha : I a) (hb : I b) (h0 : b ≠ 0) : whole_parted.f a b = some (((a.natAbs / b.natAbs : Nat) : Int), ((Int.tmod (a.natAbs : Int) (b.natAbs : Int)) != 0), (decide (a < 0) != decide (b < 0))) := by
  have h1 := ha.abs; have h2 := hb.abs
  unfold whole_parted.f
  rw [size_at ha, size_at hb]; simp only [Option.bind_some]
  rw [if_neg (by omega)]
  have : IntKind.u64.wrap (Int.tdiv (a.natAbs : Int) (b.natAbs : Int)) = ((a.natAbs / b.natAbs : Nat) : Int) := by
    have h3 : a.natAbs / b.natAbs ≤ a.natAbs := Nat.div_le_self _ _
    rw [show Int.tdiv (a.natAbs : Int) (b.natAbs : Int) = ((a.natAbs / b.natAbs : Nat) : Int) from rfl, wu (Int.natCast_nonneg _) (Int.lt_of_le_of_lt (Int.ofNat_le.2 h3) (by omega))]
  rw [this]
theorem cmpI_at (x y : Int) : cmp_Compare_int.f x y = some (cmp3 x y) := by
  unfold cmp_Compare_int.f cmp_isNaN_int.f cmp3
  simp only [Option.bind_some, bne_self_eq_false]
  rw [if_neg (by decide), if_neg (by decide)]; split
  · rfl
  · by_cases h : x > y
    · rw [if_pos h, if_pos h]
    · rw [if_neg h, if_neg h]
theorem cmpL_at (x y : Int) : cmp_Compare_int64.f x y = some (cmp3 x y) := by
  unfold cmp_Compare_int64.f cmp_isNaN_int64.f cmp3
  simp only [Option.bind_some, bne_self_eq_false]
  rw [if_neg (by decide), if_neg (by decide)]; split
  · rfl
  · by_cases h : x > y
    · rw [if_pos h, if_pos h]
    · rw [if_neg h, if_neg h]
theorem cmpU_at (x y : Int) : cmp_Compare_uint64.f x y = some (cmp3 x y) := by
  unfold cmp_Compare_uint64.f cmp_isNaN_uint64.f cmp3
  simp only [Option.bind_some, bne_self_eq_false]
  rw [if_neg (by decide), if_neg (by decide)]; split
  · rfl
  · by_cases h : x > y
    · rw [if_pos h, if_pos h]
    · rw [if_neg h, if_neg h]
theorem or2_at (x y : Int) (k : Nat) : cmp_Or_int.f (k + 3) [x, y] = some (if x = 0 then y else x) := by
  unfold cmp_Or_int.f
  simp only [cmp_Or_int.l0, List.length_cons, List.length_nil]
  have h0 : rd [x, y] 0 = x := rfl
  have h1 : rd [x, y] 1 = y := rfl
  have w1 : wrap64 (0 + 1) = 1 := by unfold wrap64; omega
  have w2 : wrap64 (1 + 1) = 2 := by unfold wrap64; omega
  rw [if_pos (by decide), if_pos (by decide), if_pos (by decide), h0]
  by_cases hx : x = 0
  · rw [if_pos hx, if_pos hx, w1, if_pos (by decide), if_pos (by decide), if_pos (by decide), h1]
    by_cases hy : y = 0
    · rw [if_pos hy, w2, if_neg (by decide), hy]
    · rw [if_neg hy]
  · rw [if_neg hx, if_neg hx]
theorem sign_at (a b : Int) : whole_sign.f a b = some (sg (a * b)) := by
  unfold whole_sign.f
  rw [cmpL_at, cmpL_at]; simp only [Option.bind_some]
  rw [cmp3_sg, cmp3_sg, sg_mul, wr]
  · have := sg_range (a * b); omega
  · have := sg_range (a * b); omega
theorem Cross_at {a b c d : Int} (ha : I a) (hb : I b) (hc : I c) (hd : I d) (k : Nat) : whole_Cross.f (k + 4) a b c d = some (cmp3 (a * b) (c * d)) := by
  unfold whole_Cross.f
  rw [sign_at, sign_at]; simp only [Option.bind_some]
  by_cases hs : sg (a * b) = sg (c * d)
  · rw [if_pos hs]
    by_cases h0 : sg (a * b) = 0
    · rw [beq_iff_eq.2 h0]; simp only [whole_Cross.j0, if_true]
      have z1 : a * b = 0 := sg_zero h0
      have z2 : c * d = 0 := sg_zero (hs ▸ h0)
      rw [cmpI_at, Option.bind_some, z1, z2, cmp3_eq rfl, cmp3_eq rfl]
    · rw [beq_eq_false_iff_ne.2 h0]; simp only [whole_Cross.j0]
      have h1 := ha.abs; have h2 := hb.abs; have h3 := hc.abs; have h4 := hd.abs
      rw [if_neg (by decide), size_at ha, size_at hb, size_at hc, size_at hd]; simp only [Option.bind_some]
      rw [mul64_at _ _ (by omega) (by omega), mul64_at _ _ (by omega) (by omega)]; simp only [Option.bind_some]
      rw [cmpU_at, cmpU_at]; simp only [Option.bind_some]
      rw [or2_at, Option.bind_some, cmp3_lex, ← Int.natAbs_mul, ← Int.natAbs_mul, cmp3_signs hs h0, wr]
      · have := cmp3_range (a * b) (c * d); omega
      · have := cmp3_range (a * b) (c * d); omega
  · rw [if_neg hs]; simp only [whole_Cross.j0, if_true]
    rw [cmpI_at, Option.bind_some, cmp3_sgs hs]
theorem G_small {a b : Int} (ha : I a) (hb : I b) (h1 : 1 ≤ a) : G a b = (Int.gcd a b : Int) ∧ 1 ≤ (Int.gcd a b : Int) ∧ (Int.gcd a b : Int) ≤ a := by
  have hg : Int.gcd a b ≤ a.natAbs := Nat.gcd_le_left _ (by omega)
  have hp : 0 < Int.gcd a b := Nat.gcd_pos_of_pos_left _ (by omega)
  unfold I at ha
  refine ⟨?_, by omega, by omega⟩
  unfold G; rw [if_neg (by omega)]
theorem Lcm_at {a b : Int} (ha : I a) (hb : I b) (h1 : 1 ≤ a) (h2 : 1 ≤ b) (k : Nat) (hk : 9223372036854775808 < k) : whole_Lcm.f (k + 1) a b = some (fit (a / (Int.gcd a b : Int) * b)) := by
  have hg := G_small ha hb h1
  unfold whole_Lcm.f
  rw [if_neg (by omega), decide_eq_false (by omega)]; simp only [whole_Lcm.j0]
  rw [if_neg (by decide), Gcd_at ha hb k hk, Option.bind_some, hg.1, if_neg (by omega), td (by omega)]
  have hd : 0 ≤ a / (Int.gcd a b : Int) ∧ a / (Int.gcd a b : Int) ≤ a := ⟨Int.ediv_nonneg (by omega) (by omega), Int.ediv_le_self _ (by omega)⟩
  have hI : I (a / (Int.gcd a b : Int)) := by unfold I at ha ⊢; omega
  obtain ⟨k, rfl⟩ : ∃ m, k = m + 1 := ⟨k - 1, by omega⟩
  rw [wr (by unfold I at hI; omega) (by unfold I at hI; omega), Mul_at hI hb]; rfl
theorem Lcm_no {a b : Int} (h : ¬ (1 ≤ a ∧ 1 ≤ b)) (k : Nat) : whole_Lcm.f (k + 1) a b = some (0, 2) := by
  unfold whole_Lcm.f
  by_cases h1 : a < 1
  · rw [if_pos h1]; simp only [whole_Lcm.j0, if_true]
  · rw [if_neg h1, decide_eq_true (by omega)]; simp only [whole_Lcm.j0, if_true]
theorem Floor_at {a b : Int} (ha : I a) (hb : I b) (h0 : b ≠ 0) (k : Nat) : whole_Floor.f (k + 1) a b = some (fit (down a b)) := by
  have h1 := ha.abs; have h2 := hb.abs
  have h3 : a.natAbs / b.natAbs ≤ a.natAbs := Nat.div_le_self _ _
  unfold whole_Floor.f
  rw [if_neg h0, parted_at ha hb h0]; simp only [Option.bind_some]
  have hdp := tdiv_parts a b; have hz := tmod_zero a b
  have hmm : Int.tmod (a.natAbs : Int) (b.natAbs : Int) = ((a.natAbs % b.natAbs : Nat) : Int) := rfl
  have hgen : ∀ (n : Int) (s : Bool), 0 ≤ n → n < 18446744073709551616 → ((whole_signed.f (k + 1) n s).bind fun bt => some (bt.1, bt.2)) = some (fit (if s = true then -n else n)) := by
    intro n s hn0 hn; rw [signed_at n hn0 hn]; rfl
  unfold down
  rw [hdp, hmm]
  generalize a.natAbs / b.natAbs = q at *
  generalize a.natAbs % b.natAbs = r at *
  by_cases hr : r = 0
  · rw [if_neg (show ¬ (Int.tmod a b ≠ 0 ∧ _) from fun h => h.1 (hz.2 hr)), hr]
    rw [if_neg (show ¬ ((((0 : Nat) : Int) != 0) = true) by decide)]
    by_cases hs : (decide (a < 0) != decide (b < 0)) = true
    · rw [if_pos hs, if_pos hs, hgen _ _ (by omega) (by omega)]
      by_cases hn : (q : Int) > 0
      · rw [decide_eq_true hn, if_pos rfl]
      · rw [decide_eq_false hn, if_neg (by decide)]
        exact congrArg (fun x => some (fit x)) (by omega)
    · rw [if_neg hs, if_neg hs, hgen _ _ (by omega) (by omega), if_neg (by decide)]
  · have hr' : ((r : Int) != 0) = true := by rw [bne_iff_ne]; omega
    rw [hr', if_pos rfl]
    have hne : Int.tmod a b ≠ 0 := fun h => hr (hz.1 h)
    by_cases hs : (decide (a < 0) != decide (b < 0)) = true
    · have hs' : (a < 0) ≠ (b < 0) := by
        intro he; rw [bne_iff_ne] at hs; exact hs (decide_eq_decide.2 (iff_of_eq he))
      rw [if_pos hs, if_pos hs, if_pos ⟨hne, hs'⟩, wu (by omega) (by omega), decide_eq_true (by omega), hgen _ _ (by omega) (by omega), if_pos rfl]
      exact congrArg (fun x => some (fit x)) (by omega)
    · have hs' : ¬ ((a < 0) ≠ (b < 0)) := by
        intro he; apply he
        have : decide (a < 0) = decide (b < 0) := by simpa using hs
        exact propext (decide_eq_decide.1 this)
      rw [if_neg hs, if_neg hs, if_neg (fun h => hs' h.2), hgen _ _ (by omega) (by omega), if_neg (by decide)]
theorem Floor_no {a : Int} (k : Nat) : whole_Floor.f k a 0 = some (0, 2) := by unfold whole_Floor.f; rw [if_pos rfl]
theorem awake_yes (k : Nat) (hk : 30 ≤ k) : evenhandedlaw1_awake.f k = some true :=
  at_rounds (evenhandedlaw1_awake.mono) hk (by decide +kernel)

theorem Add_at {a b : Int} (ha : I a) (hb : I b) : whole_Add.f a b = some (fit (a + b)) := by
  unfold I at ha hb
  unfold whole_Add.f
  by_cases h : -9223372036854775808 ≤ a + b ∧ a + b < 9223372036854775808
  · rw [fit_yes h.1 h.2, wr h.1 h.2]
    rw [if_pos (by rw [beq_iff_eq]; exact decide_eq_decide.2 (by omega))]
  · rw [fit_no h, if_neg]
    rw [beq_iff_eq, decide_eq_decide]
    unfold wrap64; omega

theorem bcell {W w1 : World} (hb : Below W.heap.size W w1) : (∀ b o, b < W.heap.size → w1.cell? ⟨b, o, none⟩ = W.cell? ⟨b, o, none⟩) ∧ (∀ b o, b < W.heap.size → w1.frozen? ⟨b, o, none⟩ = W.frozen? ⟨b, o, none⟩) :=
  ⟨fun b o h => hb.cell (p := ⟨b, o, none⟩) h, fun b o h => hb.frozen (p := ⟨b, o, none⟩) h⟩
theorem ret_int {k : IntKind} {a b : Int} (h : a = b) : Ending.returned (.int k a) = .returned (.int k b) := by rw [h]
theorem magnitude_at (a : Int) (w : World) (ha : I a) : Calls Try.prog 29 #[.int .i64 a] w fun e w' => e = .returned (.int .u64 (a.natAbs : Int)) ∧ Drawn0 w w' := by
  have h1 : a < 0 → IntKind.u64.wrap (IntKind.u64.wrap (wrap64 (-(wrap64 (a + 1)))) + 1) = (a.natAbs : Int) := fun h => by
    unfold I at ha
    rw [wr (x := a + 1) (by omega) (by omega), wr (x := -(a + 1)) (by omega) (by omega), wu (x := -(a + 1)) (by omega) (by omega), wu (by omega) (by omega)]; omega
  have h2 : ¬ a < 0 → IntKind.u64.wrap a = (a.natAbs : Int) := fun h => by unfold I at ha; rw [wu (by omega) (by omega)]; omega
  by_cases h : a < 0
  · have H := Aside0.mk (h1 h)
    have hb : decide (a < 0) = true := decide_eq_true h
    clear h1 h2 h
    go_enter Try.func29, Try.ntmps29
    go_wp2
    go_ret
    exact ⟨ret_int H.out, Drawn0.refl w⟩
  · have H := Aside0.mk (h2 h)
    have hb : decide (a < 0) = false := decide_eq_false h
    clear h1 h2 h
    go_enter Try.func29, Try.ntmps29
    go_wp2
    go_ret
    exact ⟨ret_int H.out, Drawn0.refl w⟩
theorem ret_ib {k : IntKind} {a b : Int} {c d : Bool} (h : a = b) (h' : c = d) : Ending.returned (.tuple #[.int k a, .bool c]) = .returned (.tuple #[.int k b, .bool d]) := by rw [h, h']
set_option maxHeartbeats 1000000 in
set_option maxRecDepth 100000 in
theorem refMul_over (a b : Int) (x y : Nat) (hi lo : Int) (s1 s2 : Bool) (w : World) (ma : ∀ w, Aside0 (Calls Try.prog 29 #[.int .i64 a] w fun e w' => e = .returned (.int .u64 (x : Int)) ∧ Drawn0 w w')) (mb : ∀ w, Aside0 (Calls Try.prog 29 #[.int .i64 b] w fun e w' => e = .returned (.int .u64 (y : Int)) ∧ Drawn0 w w'))
    (hm : Aside0 (bits_Mul64.f x y = some (hi, lo))) (h1 : decide (a < 0) = s1) (h2 : decide (b < 0) = s2)
    (hc : (hi != 0) = true ∨ ((hi != 0) = false ∧ (s1 != s2) = false ∧ decide (9223372036854775807 < lo) = true) ∨ ((hi != 0) = false ∧ (s1 != s2) = true ∧ decide (9223372036854775808 < lo) = true)) :
    Calls Try.prog 17 #[.int .i64 a, .int .i64 b] w fun e w' => e = .returned (.tuple #[.int .i64 0, .bool false]) ∧ Drawn0 w w' := by
  rcases hc with hc | ⟨hc, hn, hl⟩ | ⟨hc, hn, hl⟩ <;> cases s1 <;> cases s2 <;> (try (exact absurd hn (by decide)))
  all_goals
    (try clear hn)
    go_enter Try.func17, Try.ntmps17
    go_wp2_with (first
      | (go_at_call 29; (with_reducible refine (ma _).out.mono ?_); rintro e wa ⟨rfl, ⟨na, rfl⟩⟩)
      | (go_at_call 29; (with_reducible refine (mb _).out.mono ?_); rintro e wb ⟨rfl, ⟨nb, rfl⟩⟩)
      | (go_at_call 25; (with_reducible refine (bits_Mul64.calls _ _ hi lo _ hm.out).mono ?_); rintro e wc ⟨rfl, ⟨nc, rfl⟩⟩))
    go_ret2
    exact ⟨rfl, ⟨⟨_, rfl⟩⟩⟩
set_option maxHeartbeats 1000000 in
set_option maxRecDepth 100000 in
theorem refMul_fits (a b : Int) (x y : Nat) (hi lo : Int) (s1 s2 : Bool) (w : World) (ma : ∀ w, Aside0 (Calls Try.prog 29 #[.int .i64 a] w fun e w' => e = .returned (.int .u64 (x : Int)) ∧ Drawn0 w w')) (mb : ∀ w, Aside0 (Calls Try.prog 29 #[.int .i64 b] w fun e w' => e = .returned (.int .u64 (y : Int)) ∧ Drawn0 w w'))
    (hm : Aside0 (bits_Mul64.f x y = some (hi, lo))) (h1 : decide (a < 0) = s1) (h2 : decide (b < 0) = s2)
    (hc : (hi != 0) = false ∧ ((s1 != s2) = false ∧ decide (9223372036854775807 < lo) = false ∨ (s1 != s2) = true ∧ decide (9223372036854775808 < lo) = false)) :
    Calls Try.prog 17 #[.int .i64 a, .int .i64 b] w fun e w' => e = .returned (.tuple #[.int .i64 (if (s1 != s2) = true then wrap64 (IntKind.u64.wrap (-lo)) else wrap64 lo), .bool true]) ∧ Drawn0 w w' := by
  rcases hc with ⟨hc, ⟨hn, hl⟩ | ⟨hn, hl⟩⟩ <;> cases s1 <;> cases s2 <;> (try (exact absurd hn (by decide)))
  all_goals
    (try clear hn)
    go_enter Try.func17, Try.ntmps17
    go_wp2_with (first
      | (go_at_call 29; (with_reducible refine (ma _).out.mono ?_); rintro e wa ⟨rfl, ⟨na, rfl⟩⟩)
      | (go_at_call 29; (with_reducible refine (mb _).out.mono ?_); rintro e wb ⟨rfl, ⟨nb, rfl⟩⟩)
      | (go_at_call 25; (with_reducible refine (bits_Mul64.calls _ _ hi lo _ hm.out).mono ?_); rintro e wc ⟨rfl, ⟨nc, rfl⟩⟩))
    go_ret2
    exact ⟨rfl, ⟨⟨_, rfl⟩⟩⟩
theorem refMul_at {a b : Int} (ha : I a) (hb : I b) (w : World) : Calls Try.prog 17 #[.int .i64 a, .int .i64 b] w fun e w' => e = .returned (.tuple #[.int .i64 (fit (a * b)).1, .bool (decide ((fit (a * b)).2 = 0))]) ∧ Drawn0 w w' := by
  have h1 := ha.abs; have h2 := hb.abs
  have hm := mul64_at a.natAbs b.natAbs (by omega) (by omega)
  have hp := mul_parts a b
  have MA := fun w => Aside0.mk (magnitude_at a w ha)
  have MB := fun w => Aside0.mk (magnitude_at b w hb)
  generalize hP : a.natAbs * b.natAbs = p at *
  by_cases hz : p / 18446744073709551616 = 0
  · have hi0 : (((p / 18446744073709551616 : Nat) : Int) != 0) = false := by rw [bne_eq_false_iff_eq]; omega
    have hlo : ((p % 18446744073709551616 : Nat) : Int) = (p : Int) := by omega
    by_cases hs : (decide (a < 0) != decide (b < 0)) = true
    · by_cases hl : 9223372036854775808 < (p : Int)
      · rw [hp, if_pos hs, fit_no (by omega)]
        exact refMul_over a b _ _ _ _ _ _ w MA MB ⟨hm⟩ rfl rfl (.inr (.inr ⟨hi0, hs, by rw [hlo]; exact decide_eq_true hl⟩))
      · rw [hp, if_pos hs, fit_yes (by omega) (by omega)]
        refine (refMul_fits a b _ _ _ _ _ _ w MA MB ⟨hm⟩ rfl rfl ⟨hi0, .inr ⟨hs, by rw [hlo]; exact decide_eq_false hl⟩⟩).mono fun e w' h => ⟨h.1.trans ?_, h.2⟩
        refine ret_ib ?_ rfl
        rw [if_pos hs, hlo, IntKind.wrap_u64]; unfold wrap64; omega
    · have hs' : (decide (a < 0) != decide (b < 0)) = false := by simpa using hs
      by_cases hl : 9223372036854775807 < (p : Int)
      · rw [hp, if_neg hs, fit_no (by omega)]
        exact refMul_over a b _ _ _ _ _ _ w MA MB ⟨hm⟩ rfl rfl (.inr (.inl ⟨hi0, hs', by rw [hlo]; exact decide_eq_true hl⟩))
      · rw [hp, if_neg hs, fit_yes (by omega) (by omega)]
        refine (refMul_fits a b _ _ _ _ _ _ w MA MB ⟨hm⟩ rfl rfl ⟨hi0, .inl ⟨hs', by rw [hlo]; exact decide_eq_false hl⟩⟩).mono fun e w' h => ⟨h.1.trans ?_, h.2⟩
        refine ret_ib ?_ rfl
        rw [if_neg hs, hlo, OwnRef.wr (by omega) (by omega)]
  · have hi0 : (((p / 18446744073709551616 : Nat) : Int) != 0) = true := by rw [bne_iff_ne]; omega
    rw [hp, fit_no (by split <;> omega)]
    exact refMul_over a b _ _ _ _ _ _ w MA MB ⟨hm⟩ rfl rfl (.inl hi0)
set_option maxHeartbeats 1000000 in
set_option maxRecDepth 100000 in
theorem refAdd_core (a b : Int) (s1 s2 s3 : Bool) (w : World) (a1 : decide (0 ≤ a) = !s1) (a2 : decide (a < 0) = s1) (b1 : decide (0 ≤ b) = !s2) (b2 : decide (b < 0) = s2) (c1 : decide (wrap64 (a + b) < 0) = s3) (c2 : decide (0 ≤ wrap64 (a + b)) = !s3) :
    Calls Try.prog 15 #[.int .i64 a, .int .i64 b] w fun e w' => e = .returned (.tuple #[.int .i64 (if (s1 == s2 && s1 != s3) = true then 0 else wrap64 (a + b)), .bool (!(s1 == s2 && s1 != s3))]) ∧ Drawn0 w w' := by
  cases s1 <;> cases s2 <;> cases s3 <;> simp only [Bool.not_true, Bool.not_false] at a1 b1 c2
  all_goals
    go_enter Try.func15, Try.ntmps15
    go_wp2
    go_ret2
    exact ⟨rfl, Drawn0.refl w⟩
theorem refAdd_at {a b : Int} (ha : I a) (hb : I b) (w : World) : Calls Try.prog 15 #[.int .i64 a, .int .i64 b] w fun e w' => e = .returned (.tuple #[.int .i64 (fit (a + b)).1, .bool (decide ((fit (a + b)).2 = 0))]) ∧ Drawn0 w w' := by
  have nn : ∀ x : Int, decide (0 ≤ x) = !decide (x < 0) := fun x => by
    by_cases h : x < 0
    · rw [decide_eq_true h, decide_eq_false (by omega)]; rfl
    · rw [decide_eq_false h, decide_eq_true (by omega)]; rfl
  refine (refAdd_core a b _ _ _ w (nn a) rfl (nn b) rfl rfl (nn _)).mono fun e w' h => ⟨h.1.trans ?_, h.2⟩
  unfold I at ha hb
  have hov : (decide (a < 0) == decide (b < 0) && decide (a < 0) != decide (wrap64 (a + b) < 0)) = true ↔ ¬ (-9223372036854775808 ≤ a + b ∧ a + b < 9223372036854775808) := by
    rw [Bool.and_eq_true, beq_iff_eq, bne_iff_ne, decide_eq_decide, ne_eq, decide_eq_decide]
    unfold wrap64; omega
  by_cases h : -9223372036854775808 ≤ a + b ∧ a + b < 9223372036854775808
  · have hf : (decide (a < 0) == decide (b < 0) && decide (a < 0) != decide (wrap64 (a + b) < 0)) = false := by
      rw [← Bool.not_eq_true, hov]; exact fun x => x h
    rw [hf, fit_yes h.1 h.2]
    exact ret_ib (OwnRef.wr h.1 h.2) rfl
  · rw [hov.2 h, fit_no h]; exact ret_ib rfl rfl
set_option maxHeartbeats 1000000 in
set_option maxRecDepth 100000 in
theorem product_zero (a b : Int) (w : World) (h : (a == 0) = true ∨ ((a == 0) = false ∧ (b == 0) = true)) :
    Calls Try.prog 30 #[.int .i64 a, .int .i64 b] w fun e w' => e = .returned (.agg #[.int .i64 0, .int .u64 0, .int .u64 0]) ∧ Below w.heap.size w w' := by
  rcases h with h | ⟨h, h'⟩
  all_goals
    go_enter Try.func30, Try.ntmps30
    go_wp2
    exact bodyPost_ret (v := .agg #[.int .i64 0, .int .u64 0, .int .u64 0]) (by simp [results, Try.results30, go_sem]) rfl ⟨rfl, (Below.refl _ _).alloc (Nat.le_refl _) _⟩
set_option maxHeartbeats 1000000 in
set_option maxRecDepth 100000 in
theorem product_core (a b : Int) (x y : Nat) (hi lo : Int) (s1 s2 : Bool) (w : World) (ma : ∀ w, Aside0 (Calls Try.prog 29 #[.int .i64 a] w fun e w' => e = .returned (.int .u64 (x : Int)) ∧ Drawn0 w w')) (mb : ∀ w, Aside0 (Calls Try.prog 29 #[.int .i64 b] w fun e w' => e = .returned (.int .u64 (y : Int)) ∧ Drawn0 w w'))
    (hm : Aside0 (bits_Mul64.f x y = some (hi, lo))) (h1 : decide (a < 0) = s1) (h2 : decide (b < 0) = s2) (h3 : (a == 0) = false) (h4 : (b == 0) = false) :
    Calls Try.prog 30 #[.int .i64 a, .int .i64 b] w fun e w' => e = .returned (.agg #[.int .i64 (if (s1 != s2) = true then -1 else 1), .int .u64 hi, .int .u64 lo]) ∧ Below w.heap.size w w' := by
  cases s1 <;> cases s2
  all_goals
    go_enter Try.func30, Try.ntmps30
    go_wp2_with (first
      | (go_at_call 29; (with_reducible refine (ma _).out.mono ?_); rintro e wa ⟨rfl, ⟨na, rfl⟩⟩)
      | (go_at_call 29; (with_reducible refine (mb _).out.mono ?_); rintro e wb ⟨rfl, ⟨nb, rfl⟩⟩)
      | (go_at_call 25; (with_reducible refine (bits_Mul64.calls _ _ hi lo _ hm.out).mono ?_); rintro e wc ⟨rfl, ⟨nc, rfl⟩⟩))
    exact bodyPost_ret (by simp [results, Try.results30, go_sem] <;> rfl) rfl ⟨rfl, by repeat (first | exact Below.refl _ _ | apply pw_below_drewN | apply Below.drew | refine Below.setCell ?_ (by simp) _ | refine Below.alloc ?_ (by simp) _)⟩
theorem prod_sg {a b : Int} (ha : a ≠ 0) (hb : b ≠ 0) : (if (decide (a < 0) != decide (b < 0)) = true then (-1 : Int) else 1) = sg (a * b) := by
  rw [← sg_mul]
  by_cases h1 : a < 0 <;> by_cases h2 : b < 0
  · rw [decide_eq_true h1, decide_eq_true h2, sg_lt h1, sg_lt h2]; rfl
  · rw [decide_eq_true h1, decide_eq_false h2, sg_lt h1, sg_gt (by omega)]; rfl
  · rw [decide_eq_false h1, decide_eq_true h2, sg_gt (by omega), sg_lt h2]; rfl
  · rw [decide_eq_false h1, decide_eq_false h2, sg_gt (by omega), sg_gt (by omega)]; rfl
theorem product_at {a b : Int} (ha : I a) (hb : I b) (w : World) :
    Calls Try.prog 30 #[.int .i64 a, .int .i64 b] w fun e w' => e = .returned (.agg #[.int .i64 (sg (a * b)), .int .u64 (((a * b).natAbs / 18446744073709551616 : Nat) : Int), .int .u64 (((a * b).natAbs % 18446744073709551616 : Nat) : Int)]) ∧ Below w.heap.size w w' := by
  have h1 := ha.abs; have h2 := hb.abs
  have hm := mul64_at a.natAbs b.natAbs (by omega) (by omega)
  by_cases h0 : a = 0 ∨ b = 0
  · have hz : a * b = 0 := by rcases h0 with h | h <;> rw [h] <;> simp
    rw [hz]
    refine product_zero a b w ?_
    by_cases h : a = 0
    · exact .inl (beq_iff_eq.2 h)
    · exact .inr ⟨beq_eq_false_iff_ne.2 h, beq_iff_eq.2 (h0.resolve_left h)⟩
  · have ha0 : a ≠ 0 := fun h => h0 (.inl h)
    have hb0 : b ≠ 0 := fun h => h0 (.inr h)
    rw [Int.natAbs_mul, ← prod_sg ha0 hb0]
    exact product_core a b _ _ _ _ _ _ w (fun w => ⟨magnitude_at a w ha⟩) (fun w => ⟨magnitude_at b w hb⟩) ⟨hm⟩ rfl rfl (beq_eq_false_iff_ne.2 ha0) (beq_eq_false_iff_ne.2 hb0)
end Go.Proofs.Ytlljmbocnchdaaa.OwnRef
