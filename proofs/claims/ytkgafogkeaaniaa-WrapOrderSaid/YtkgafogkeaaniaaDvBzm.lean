/- math/bits.Div64, every high part. No condition but Go's own. -/
import Derived.Test.YtkgafogkeaaniaaDvAzm
import Derived.Test.YtkgafogkeaaniaaDvPzm
import Derived.Laws.MathBits
import Derived.Laws.Bits64b
import Derived.Deep.QuietTactic
import Derived.BigQuiet
import Derived.StillTactics
import Derived.Deep.Cut
import Derived.Deep.DeepCutAuto
import Derived.Deep.CutBlock
set_option linter.unusedVariables false
set_option linter.unusedSimpArgs false
namespace Go.Proofs.Ytkgafogkeaaniaa.DvB
open Go.RowKit Go.Proofs.Ytkgafogkeaaniaa.Kit Go.Proofs.Ytkgafogkeaaniaa.DvA DvPlain
theorem or_add (a b s : Nat) (hb : b < 2 ^ s) (h : a * 2 ^ s + b < 2 ^ 64) : bits .or .u64 ((a * 2 ^ s : Nat) : Int) (b : Int) = ((a * 2 ^ s + b : Nat) : Int) := by
  rw [bits_or_u64_nat _ _ (by omega) (by omega), Nat.mul_comm a, Nat.two_pow_add_eq_or_of_lt hb]
theorem still_tr {w w1 w2 : World} (h : Still w w1) (k : Still w1 w2) : Still w w2 := by
  obtain ⟨n, rfl⟩ := h
  obtain ⟨m, rfl⟩ := k
  exact ⟨n + m, by first | rfl | (simp [World.drewN, Nat.add_assoc]; done) | (simp [World.drewN]; omega)⟩
set_option maxHeartbeats 8000000 in
set_option maxRecDepth 100000 in
theorem Div_at (hi lo y : Nat) (w : World) (h1 : hi < y) (h2 : y < 2 ^ 64) (h3 : lo < 2 ^ 64) (h0 : 0 < hi) :
    Calls Try.prog 62 #[.int .u64 hi, .int .u64 lo, .int .u64 y] w fun e w' => e = .returned (.tuple #[.int .u64 (((hi * 2 ^ 64 + lo) / y : Nat) : Int), .int .u64 (((hi * 2 ^ 64 + lo) % y : Nat) : Int)]) ∧ Still w w' := by
  have t1 : ¬ (y : Int) ≤ (hi : Int) := by omega
  have t2 : ((y : Int) == 0) = false := by simp; omega
  have t3 : ((hi : Int) == 0) = false := by simp; omega
  have t4 : ¬ (y : Int) = 0 := by omega
  have t5 : ¬ (hi : Int) = 0 := by omega
  go_enter Try.func62, Try.ntmps62
  go_wp2_with fail
  refine (Lead_at y h2 _).mono ?_
  rintro e w1 ⟨rfl, rfl⟩
  obtain ⟨b1, b2, b3⟩ := bit_at y h2
  obtain ⟨s, hs⟩ : ∃ s, s = 64 - Lib.bitLen y := ⟨_, rfl⟩
  have hs64 : s ≤ 64 := by omega
  have hsl : (s : Int) ≤ 64 := by omega
  have e8 : IntKind.u64.wrap (64 - (Lib.bitLen y : Int)) = (s : Int) := by rw [IntKind.wrap_u64]; omega
  have e8b : IntKind.u64.wrap (64 - (s : Int)) = ((64 - s : Nat) : Int) := by rw [IntKind.wrap_u64]; omega
  have hm : min s 64 = s := by omega
  have hm2 : min (64 - s) 64 = 64 - s := by omega
  obtain ⟨Y, hY⟩ : ∃ Y, Y = y * 2 ^ s := ⟨_, rfl⟩
  have hpw : 2 ^ Lib.bitLen y * 2 ^ s = 18446744073709551616 := by rw [← Nat.pow_add, show Lib.bitLen y + s = 64 by omega]
  have hY1 : Y < 18446744073709551616 := by
    have := Nat.mul_lt_mul_of_pos_right b1 (Nat.two_pow_pos s)
    omega
  have hY2 : 9223372036854775808 ≤ Y := by
    have := Nat.mul_le_mul_right (2 ^ s) (b2 (by omega))
    rw [hpw, Nat.mul_assoc] at this
    omega
  have cst : ∀ a : Nat, (a : Int) * 2 ^ s = ((a * 2 ^ s : Nat) : Int) := fun a => by simp
  have eY : IntKind.u64.wrap ((y : Int) * 2 ^ s) = (Y : Int) := by rw [IntKind.wrap_u64, cst, ← hY]; omega
  obtain ⟨U, hU⟩ : ∃ U, U = hi * 2 ^ s + lo / 2 ^ (64 - s) := ⟨_, rfl⟩
  have hUY : U < Y := by rw [hU, hY]; exact shifted_lt hi lo y s hs64 (by omega) h1
  have eH : IntKind.u64.wrap ((hi : Int) * 2 ^ s) = ((hi * 2 ^ s : Nat) : Int) := by
    rw [IntKind.wrap_u64, cst]
    have := Nat.mul_le_mul_right (2 ^ s) (Nat.le_of_lt h1)
    omega
  have eU : bits .or .u64 ((hi : Int) * 2 ^ s) ((lo : Int) / 2 ^ (64 - s)) = (U : Int) := by
    rw [cst]
    have := or_add hi (lo / 2 ^ (64 - s)) s (low_lt lo s hs64 (by omega)) (by omega)
    rw [hU, ← this]
    simp
  obtain ⟨L, hL⟩ : ∃ L, L = lo * 2 ^ s % 18446744073709551616 := ⟨_, rfl⟩
  have eL : IntKind.u64.wrap ((lo : Int) * 2 ^ s) = (L : Int) := by rw [IntKind.wrap_u64, cst, hL]; omega
  have hL1 : L < 18446744073709551616 := by omega
  obtain ⟨y1, hy1⟩ : ∃ y1, y1 = Y / 4294967296 := ⟨_, rfl⟩
  obtain ⟨y0, hy0⟩ : ∃ y0, y0 = Y % 4294967296 := ⟨_, rfl⟩
  obtain ⟨L1, hL1'⟩ : ∃ L1, L1 = L / 4294967296 := ⟨_, rfl⟩
  obtain ⟨L0, hL0'⟩ : ∃ L0, L0 = L % 4294967296 := ⟨_, rfl⟩
  have eY1 : (Y : Int) / 4294967296 = (y1 : Int) := by omega
  have eY0 : bits .and .u64 (Y : Int) 4294967295 = (y0 : Int) := by rw [and_low32 _ (by omega) (by omega)]; omega
  have eL1 : (L : Int) / 4294967296 = (L1 : Int) := by omega
  have eL0 : bits .and .u64 (L : Int) 4294967295 = (L0 : Int) := by rw [and_low32 _ (by omega) (by omega)]; omega
  have hYY : Y = y1 * 4294967296 + y0 := by omega
  have hLL : L = L1 * 4294967296 + L0 := by omega
  have hy1p : 2147483648 ≤ y1 := by omega
  have hy1l : y1 < 4294967296 := by omega
  have hy0l : y0 < 4294967296 := by omega
  have hL1l : L1 < 4294967296 := by omega
  have hL0l : L0 < 4294967296 := by omega
  have hUY2 : U < y1 * 4294967296 + y0 := by omega
  have hy1n : ¬ (y1 : Int) = 0 := by omega
  have Hq0 := Hs.start (u := U) (y0 := y0) (show 0 < y1 by omega) hL1l
  have hq0l := Hq0.le (by omega)
  have eq0 : IntKind.u64.wrap ((U : Int) / (y1 : Int)) = ((U / y1 : Nat) : Int) := by
    have h := hq0l.1
    rw [IntKind.wrap_u64, ← Int.natCast_ediv]
    generalize U / y1 = Q at *
    omega
  have er0 : IntKind.u64.wrap ((U : Int) - IntKind.u64.wrap (((U / y1 : Nat) : Int) * (y1 : Int))) = ((U % y1 : Nat) : Int) := by
    have h := Hq0.eq
    rw [IntKind.wrap_u64, IntKind.wrap_u64]
    have h' : ((U / y1 : Nat) : Int) * (y1 : Int) = ((U / y1 * y1 : Nat) : Int) := by simp
    rw [h']
    generalize U / y1 * y1 = P at *
    omega
  obtain ⟨q0, hq0⟩ : ∃ q0, q0 = U / y1 := ⟨_, rfl⟩
  obtain ⟨r0, hr0⟩ : ∃ r0, r0 = U % y1 := ⟨_, rfl⟩
  rw [← hq0] at eq0 er0
  rw [← hr0] at er0
  rw [← hq0, ← hr0] at Hq0
  have hr0l : r0 < 4294967296 := by have := Nat.mod_lt U (show y1 > 0 by omega); omega
  have HQ0 := Side.mk Hq0
  have HS := Side.mk hs
  have HY := Side.mk hY
  have HU := Side.mk hU
  have HL := Side.mk hL
  have HYY := Side.mk hYY
  have HLL := Side.mk hLL
  clear hs hY hU hL b1 b2 b3 hpw cst hy1 hy0 hL1' hL0' hq0 hr0 Hq0 hq0l hYY hLL
  have Q1eq : ∃ Q1, Q1 = (U * 4294967296 + L1) / (y1 * 4294967296 + y0) := ⟨_, rfl⟩
  obtain ⟨Q1, hQ1⟩ := Q1eq
  go_upto_block 0 with (fail)
  clear e8 e8b eY eH eU eL eY1 eY0 eL1 eL0 eq0 er0
  have HQ1 := Side.mk hQ1
  clear hQ1
  go_cut [15] (fun v we => v = .int .u64 (Q1 : Int) ∧ Still w1 we)
  case first =>
    go_wp2_with fail
    go_loopw [15, 16] (fun v v' wr => ∃ q r : Nat, v = .int .u64 (q : Int) ∧ v' = .int .u64 (r : Int) ∧ r < 4294967296 ∧ q ≤ U ∧ Side (Hs U L1 y1 y0 q r) ∧ Side (Still w1 wr)) (fun v _ _ => (intOf v).toNat)
    case atStart => exact ⟨q0, r0, rfl, rfl, hr0l, (HQ0.out.le (by omega)).1, HQ0, ⟨Still.refl _⟩⟩
    case round =>
      obtain ⟨q, r, rfl, rfl, hr, hqu, HH, HW⟩ := hrel
      obtain ⟨wz, hwz⟩ : ∃ wz : World, wz = wr := ⟨_, rfl⟩
      rw [← hwz] at HW ⊢
      clear hwz
      have hq9 : (q : Int) ≤ 18446744073709551615 := by omega
      have hq0' : (0 : Int) ≤ q := by omega
      have hr0' : (0 : Int) ≤ r := by omega
      have hri : (r : Int) < 4294967296 := by omega
      have hb1 : (0 : Int) ≤ 4294967296 * (r : Int) := by omega
      have hb2 : 4294967296 * (r : Int) ≤ 18446744073709551615 := by omega
      have hb3 : (0 : Int) ≤ 4294967296 * (r : Int) + L1 := by omega
      have hb4 : 4294967296 * (r : Int) + L1 ≤ 18446744073709551615 := by omega
      have hs1 : (0 : Int) ≤ (r : Int) + y1 := by omega
      have hs2 : (r : Int) + y1 ≤ 18446744073709551615 := by omega
      by_cases hmore : 4294967296 ≤ q ∨ 4294967296 * r + L1 < q * y0
      · have hq := HH.out.more hUY2 hL1l hmore
        have HH2 := Side.mk (HH.out.step hq)
        have hq1 : 1 ≤ q := by have := Nat.pos_of_ne_zero (show q ≠ 0 by rintro rfl; exact absurd hq (Nat.not_lt_zero _)); omega
        have hq1i : (0 : Int) ≤ (q : Int) - 1 := by omega
        have hq1j : (q : Int) - 1 ≤ 18446744073709551615 := by omega
        have HE : Side ((q : Int) - 1 = ((q - 1 : Nat) : Int)) := ⟨by omega⟩
        have HQU : Side (q - 1 ≤ U) := ⟨by omega⟩
        clear hq
        by_cases hbr : r + y1 < 4294967296
        · have hbri : ¬ (4294967296 : Int) ≤ (r : Int) + y1 := by omega
          by_cases hqb : 4294967296 ≤ q
          · have hqbi : (4294967296 : Int) ≤ q := by omega
            clear hmore
            go_wp2
            go_roundw
            case rel => exact ⟨q - 1, r + y1, congrArg _ HE.out, by simp, hbr, HQU.out, HH2, ⟨(by first | exact HW.out | exact still_tr HW.out ⟨_, rfl⟩)⟩⟩
            case measure => have := HE.out; simp [intOf]; omega
          · have hqbi : ¬ (4294967296 : Int) ≤ q := by omega
            have hT0 : (0 : Int) ≤ (q : Int) * (y0 : Int) := Int.mul_nonneg (by omega) (by omega)
            have hT1 : (q : Int) * (y0 : Int) ≤ 18446744073709551615 := by
              have := Nat.mul_le_mul (show q ≤ 4294967295 by omega) (show y0 ≤ 4294967295 by omega)
              have e : ((q * y0 : Nat) : Int) = (q : Int) * y0 := by simp
              omega
            have hT2 : 4294967296 * (r : Int) + L1 < (q : Int) * (y0 : Int) := by
              have e : ((q * y0 : Nat) : Int) = (q : Int) * y0 := by simp
              rcases hmore with h | h
              · omega
              · omega
            clear hmore
            go_wp2
            go_roundw
            case rel => exact ⟨q - 1, r + y1, congrArg _ HE.out, by simp, hbr, HQU.out, HH2, ⟨(by first | exact HW.out | exact still_tr HW.out ⟨_, rfl⟩)⟩⟩
            case measure => have := HE.out; simp [intOf]; omega
        · have hbri : (4294967296 : Int) ≤ (r : Int) + y1 := by omega
          have HF : Side (q - 1 = Q1) := ⟨by rw [HQ1.out]; exact HH2.out.brk hUY2 (by omega) hy0l (by omega)⟩
          by_cases hqb : 4294967296 ≤ q
          · have hqbi : (4294967296 : Int) ≤ q := by omega
            clear hmore
            go_wp2
            go_meet
            case rel => exact ⟨congrArg _ (HE.out.trans (by rw [HF.out])), (by first | exact HW.out | exact still_tr HW.out ⟨_, rfl⟩)⟩
          · have hqbi : ¬ (4294967296 : Int) ≤ q := by omega
            have hT0 : (0 : Int) ≤ (q : Int) * (y0 : Int) := Int.mul_nonneg (by omega) (by omega)
            have hT1 : (q : Int) * (y0 : Int) ≤ 18446744073709551615 := by
              have := Nat.mul_le_mul (show q ≤ 4294967295 by omega) (show y0 ≤ 4294967295 by omega)
              have e : ((q * y0 : Nat) : Int) = (q : Int) * y0 := by simp
              omega
            have hT2 : 4294967296 * (r : Int) + L1 < (q : Int) * (y0 : Int) := by
              have e : ((q * y0 : Nat) : Int) = (q : Int) * y0 := by simp
              rcases hmore with h | h
              · omega
              · omega
            clear hmore
            go_wp2
            go_meet
            case rel => exact ⟨congrArg _ (HE.out.trans (by rw [HF.out])), (by first | exact HW.out | exact still_tr HW.out ⟨_, rfl⟩)⟩
      · have hqb : q < 4294967296 := by omega
        have hqbi : ¬ (4294967296 : Int) ≤ q := by omega
        have hT0 : (0 : Int) ≤ (q : Int) * (y0 : Int) := Int.mul_nonneg (by omega) (by omega)
        have hT1 : (q : Int) * (y0 : Int) ≤ 18446744073709551615 := by
          have := Nat.mul_le_mul (show q ≤ 4294967295 by omega) (show y0 ≤ 4294967295 by omega)
          have e : ((q * y0 : Nat) : Int) = (q : Int) * y0 := by simp
          omega
        have hT2 : ¬ 4294967296 * (r : Int) + L1 < (q : Int) * (y0 : Int) := by
          have e : ((q * y0 : Nat) : Int) = (q : Int) * y0 := by simp
          omega
        have HF : Side (q = Q1) := ⟨by rw [HQ1.out]; exact HH.out.fin (by omega) (by omega)⟩
        clear hmore
        go_wp2
        go_meet
        case rel => exact ⟨congrArg _ (by rw [← HF.out]), (by first | exact HW.out | exact still_tr HW.out ⟨_, rfl⟩)⟩
  case rest =>
  obtain ⟨rfl, hw1⟩ := hcut
  obtain ⟨w2, hw2⟩ : ∃ w2 : World, w2 = wc := ⟨_, rfl⟩
  rw [← hw2] at hw1 ⊢
  have HW1 := Side.mk hw1
  clear hw2 hw1
  have hyp : 0 < y1 * 4294967296 + y0 := by omega
  obtain ⟨R1, hR1⟩ : ∃ R1, R1 = (U * 4294967296 + L1) % (y1 * 4294967296 + y0) := ⟨_, rfl⟩
  have hRY2 : R1 < y1 * 4294967296 + y0 := by rw [hR1]; exact Nat.mod_lt _ hyp
  have hQR : Q1 * (y1 * 4294967296 + y0) + R1 = U * 4294967296 + L1 := by rw [hR1, HQ1.out, Nat.mul_comm]; exact Nat.div_add_mod _ _
  have hQ1l : Q1 < 4294967296 := by
    rw [HQ1.out, Nat.div_lt_iff_lt_mul hyp]
    omega
  have eR1 : IntKind.u64.wrap (IntKind.u64.wrap (IntKind.u64.wrap ((U : Int) * 4294967296) + (L1 : Int)) - IntKind.u64.wrap ((Q1 : Int) * (Y : Int))) = (R1 : Int) := by
    have e : (Q1 : Int) * (Y : Int) = ((Q1 * (y1 * 4294967296 + y0) : Nat) : Int) := by rw [HYY.out]; simp
    rw [e, IntKind.wrap_u64, IntKind.wrap_u64, IntKind.wrap_u64, IntKind.wrap_u64]
    generalize Q1 * (y1 * 4294967296 + y0) = P at *
    omega
  have HR1 := Side.mk hR1
  have HQR := Side.mk hQR
  clear hR1 hQR
  have hy1n : ¬ (y1 : Int) = 0 := by omega
  have Hq0 := Hs.start (u := R1) (y0 := y0) (show 0 < y1 by omega) hL0l
  have hq0l := Hq0.le (by omega)
  have eq0 : IntKind.u64.wrap ((R1 : Int) / (y1 : Int)) = ((R1 / y1 : Nat) : Int) := by
    have h := hq0l.1
    rw [IntKind.wrap_u64, ← Int.natCast_ediv]
    generalize R1 / y1 = Q at *
    omega
  have er0 : IntKind.u64.wrap ((R1 : Int) - IntKind.u64.wrap (((R1 / y1 : Nat) : Int) * (y1 : Int))) = ((R1 % y1 : Nat) : Int) := by
    have h := Hq0.eq
    rw [IntKind.wrap_u64, IntKind.wrap_u64]
    have h' : ((R1 / y1 : Nat) : Int) * (y1 : Int) = ((R1 / y1 * y1 : Nat) : Int) := by simp
    rw [h']
    generalize R1 / y1 * y1 = P at *
    omega
  obtain ⟨q1, hq0⟩ : ∃ q1, q1 = R1 / y1 := ⟨_, rfl⟩
  obtain ⟨r1, hr0⟩ : ∃ r1, r1 = R1 % y1 := ⟨_, rfl⟩
  rw [← hq0] at eq0 er0
  rw [← hr0] at er0
  rw [← hq0, ← hr0] at Hq0
  have hr1l : r1 < 4294967296 := by have := Nat.mod_lt R1 (show y1 > 0 by omega); omega
  have HQ3 := Side.mk Hq0
  clear hq0 hr0 Hq0 hq0l
  have Q2eq : ∃ Q2, Q2 = (R1 * 4294967296 + L0) / (y1 * 4294967296 + y0) := ⟨_, rfl⟩
  obtain ⟨Q2, hQ2⟩ := Q2eq
  have HQ2 := Side.mk hQ2
  clear hQ2
  go_upto_block 2 with (fail)
  clear eq0 er0 eR1
  go_cut [18] (fun v we => v = .int .u64 (Q2 : Int) ∧ Still w2 we)
  case first =>
    go_wp2_with fail
    go_loopw [18, 16] (fun v v' wr => ∃ q r : Nat, v = .int .u64 (q : Int) ∧ v' = .int .u64 (r : Int) ∧ r < 4294967296 ∧ q ≤ R1 ∧ Side (Hs R1 L0 y1 y0 q r) ∧ Side (Still w2 wr)) (fun v _ _ => (intOf v).toNat)
    case atStart => exact ⟨q1, r1, rfl, rfl, hr1l, (HQ3.out.le (by omega)).1, HQ3, ⟨Still.refl _⟩⟩
    case round =>
      obtain ⟨q, r, rfl, rfl, hr, hqu, HH, HW⟩ := hrel
      obtain ⟨wz, hwz⟩ : ∃ wz : World, wz = wr := ⟨_, rfl⟩
      rw [← hwz] at HW ⊢
      clear hwz
      have hq9 : (q : Int) ≤ 18446744073709551615 := by omega
      have hq0' : (0 : Int) ≤ q := by omega
      have hr0' : (0 : Int) ≤ r := by omega
      have hri : (r : Int) < 4294967296 := by omega
      have hb1 : (0 : Int) ≤ 4294967296 * (r : Int) := by omega
      have hb2 : 4294967296 * (r : Int) ≤ 18446744073709551615 := by omega
      have hb3 : (0 : Int) ≤ 4294967296 * (r : Int) + L0 := by omega
      have hb4 : 4294967296 * (r : Int) + L0 ≤ 18446744073709551615 := by omega
      have hs1 : (0 : Int) ≤ (r : Int) + y1 := by omega
      have hs2 : (r : Int) + y1 ≤ 18446744073709551615 := by omega
      by_cases hmore : 4294967296 ≤ q ∨ 4294967296 * r + L0 < q * y0
      · have hq := HH.out.more hRY2 hL0l hmore
        have HH2 := Side.mk (HH.out.step hq)
        have hq1 : 1 ≤ q := by have := Nat.pos_of_ne_zero (show q ≠ 0 by rintro rfl; exact absurd hq (Nat.not_lt_zero _)); omega
        have hq1i : (0 : Int) ≤ (q : Int) - 1 := by omega
        have hq1j : (q : Int) - 1 ≤ 18446744073709551615 := by omega
        have HE : Side ((q : Int) - 1 = ((q - 1 : Nat) : Int)) := ⟨by omega⟩
        have HQU : Side (q - 1 ≤ R1) := ⟨by omega⟩
        clear hq
        by_cases hbr : r + y1 < 4294967296
        · have hbri : ¬ (4294967296 : Int) ≤ (r : Int) + y1 := by omega
          by_cases hqb : 4294967296 ≤ q
          · have hqbi : (4294967296 : Int) ≤ q := by omega
            clear hmore
            go_wp2
            go_roundw
            case rel => exact ⟨q - 1, r + y1, congrArg _ HE.out, by simp, hbr, HQU.out, HH2, ⟨(by first | exact HW.out | exact still_tr HW.out ⟨_, rfl⟩)⟩⟩
            case measure => have := HE.out; simp [intOf]; omega
          · have hqbi : ¬ (4294967296 : Int) ≤ q := by omega
            have hT0 : (0 : Int) ≤ (q : Int) * (y0 : Int) := Int.mul_nonneg (by omega) (by omega)
            have hT1 : (q : Int) * (y0 : Int) ≤ 18446744073709551615 := by
              have := Nat.mul_le_mul (show q ≤ 4294967295 by omega) (show y0 ≤ 4294967295 by omega)
              have e : ((q * y0 : Nat) : Int) = (q : Int) * y0 := by simp
              omega
            have hT2 : 4294967296 * (r : Int) + L0 < (q : Int) * (y0 : Int) := by
              have e : ((q * y0 : Nat) : Int) = (q : Int) * y0 := by simp
              rcases hmore with h | h
              · omega
              · omega
            clear hmore
            go_wp2
            go_roundw
            case rel => exact ⟨q - 1, r + y1, congrArg _ HE.out, by simp, hbr, HQU.out, HH2, ⟨(by first | exact HW.out | exact still_tr HW.out ⟨_, rfl⟩)⟩⟩
            case measure => have := HE.out; simp [intOf]; omega
        · have hbri : (4294967296 : Int) ≤ (r : Int) + y1 := by omega
          have HF : Side (q - 1 = Q2) := ⟨by rw [HQ2.out]; exact HH2.out.brk hRY2 (by omega) hy0l (by omega)⟩
          by_cases hqb : 4294967296 ≤ q
          · have hqbi : (4294967296 : Int) ≤ q := by omega
            clear hmore
            go_wp2
            go_meet
            case rel => exact ⟨congrArg _ (HE.out.trans (by rw [HF.out])), (by first | exact HW.out | exact still_tr HW.out ⟨_, rfl⟩)⟩
          · have hqbi : ¬ (4294967296 : Int) ≤ q := by omega
            have hT0 : (0 : Int) ≤ (q : Int) * (y0 : Int) := Int.mul_nonneg (by omega) (by omega)
            have hT1 : (q : Int) * (y0 : Int) ≤ 18446744073709551615 := by
              have := Nat.mul_le_mul (show q ≤ 4294967295 by omega) (show y0 ≤ 4294967295 by omega)
              have e : ((q * y0 : Nat) : Int) = (q : Int) * y0 := by simp
              omega
            have hT2 : 4294967296 * (r : Int) + L0 < (q : Int) * (y0 : Int) := by
              have e : ((q * y0 : Nat) : Int) = (q : Int) * y0 := by simp
              rcases hmore with h | h
              · omega
              · omega
            clear hmore
            go_wp2
            go_meet
            case rel => exact ⟨congrArg _ (HE.out.trans (by rw [HF.out])), (by first | exact HW.out | exact still_tr HW.out ⟨_, rfl⟩)⟩
      · have hqb : q < 4294967296 := by omega
        have hqbi : ¬ (4294967296 : Int) ≤ q := by omega
        have hT0 : (0 : Int) ≤ (q : Int) * (y0 : Int) := Int.mul_nonneg (by omega) (by omega)
        have hT1 : (q : Int) * (y0 : Int) ≤ 18446744073709551615 := by
          have := Nat.mul_le_mul (show q ≤ 4294967295 by omega) (show y0 ≤ 4294967295 by omega)
          have e : ((q * y0 : Nat) : Int) = (q : Int) * y0 := by simp
          omega
        have hT2 : ¬ 4294967296 * (r : Int) + L0 < (q : Int) * (y0 : Int) := by
          have e : ((q * y0 : Nat) : Int) = (q : Int) * y0 := by simp
          omega
        have HF : Side (q = Q2) := ⟨by rw [HQ2.out]; exact HH.out.fin (by omega) (by omega)⟩
        clear hmore
        go_wp2
        go_meet
        case rel => exact ⟨congrArg _ (by rw [← HF.out]), (by first | exact HW.out | exact still_tr HW.out ⟨_, rfl⟩)⟩
  case rest =>
  obtain ⟨rfl, hw3⟩ := hcut
  have hQ2l : Q2 < 4294967296 := by
    rw [HQ2.out, Nat.div_lt_iff_lt_mul hyp]
    omega
  obtain ⟨R2, hR2⟩ : ∃ R2, R2 = (R1 * 4294967296 + L0) % (y1 * 4294967296 + y0) := ⟨_, rfl⟩
  have hQR2 : Q2 * (y1 * 4294967296 + y0) + R2 = R1 * 4294967296 + L0 := by rw [hR2, HQ2.out, Nat.mul_comm]; exact Nat.div_add_mod _ _
  have hR2l : R2 < y1 * 4294967296 + y0 := by rw [hR2]; exact Nat.mod_lt _ hyp
  have eR2 : IntKind.u64.wrap (IntKind.u64.wrap (IntKind.u64.wrap ((R1 : Int) * 4294967296) + (L0 : Int)) - IntKind.u64.wrap ((Q2 : Int) * (Y : Int))) = (R2 : Int) := by
    have e : (Q2 : Int) * (Y : Int) = ((Q2 * (y1 * 4294967296 + y0) : Nat) : Int) := by rw [HYY.out]; simp
    rw [e, IntKind.wrap_u64, IntKind.wrap_u64, IntKind.wrap_u64, IntKind.wrap_u64]
    generalize Q2 * (y1 * 4294967296 + y0) = P at *
    omega
  have HW := whole hi lo y s U L1 L0 Y hs64 (by omega) HY.out HU.out (by rw [← HL.out]; exact HLL.out.symm) hL0l
  rw [HYY.out, ← HQ1.out, ← HR1.out, ← HQ2.out, ← hR2] at HW
  have HRES := Side.mk HW
  have hz1 : (0 : Int) ≤ (Q1 : Int) * 4294967296 := by omega
  have hz2 : (Q1 : Int) * 4294967296 ≤ 18446744073709551615 := by omega
  have hz3 : (0 : Int) ≤ (Q1 : Int) * 4294967296 + Q2 := by omega
  have hz4 : (Q1 : Int) * 4294967296 + Q2 ≤ 18446744073709551615 := by omega
  have HST : Side (Still w1 wc) := ⟨by first | exact still_tr HW1.out hw3⟩
  clear HW hR2 hQR2
  go_wp2
  go_ret2
  refine ⟨?_, HST.out⟩
  rw [show (2 : Nat) ^ 64 = 18446744073709551616 by decide, HRES.out.1, HRES.out.2]
  simp
/-- All of it: Go's own condition alone. -/
theorem Div64_at (hi lo y : Nat) (w : World) (h1 : hi < y) (h2 : y < 2 ^ 64) (h3 : lo < 2 ^ 64) :
    Calls Try.prog 62 #[.int .u64 hi, .int .u64 lo, .int .u64 y] w fun e w' => e = .returned (.tuple #[.int .u64 (((hi * 2 ^ 64 + lo) / y : Nat) : Int), .int .u64 (((hi * 2 ^ 64 + lo) % y : Nat) : Int)]) ∧ Still w w' := by
  rcases Nat.eq_zero_or_pos hi with rfl | h0
  · have t1 : ((y : Int) == 0) = false := by simp; omega
    have t2 : ¬ (y : Int) = 0 := by omega
    have t3 : ¬ (y : Int) ≤ 0 := by omega
    have q1 : (lo : Int) / (y : Int) ≤ 18446744073709551615 := by
      have := Nat.div_le_self lo y
      rw [← Int.natCast_ediv]
      omega
    have q0 : (0 : Int) ≤ (lo : Int) / (y : Int) := Int.ediv_nonneg (by omega) (by omega)
    have r0 : (0 : Int) ≤ (lo : Int) % (y : Int) := Int.emod_nonneg _ t2
    have r1 : (lo : Int) % (y : Int) < (y : Int) := Int.emod_lt_of_pos _ (by omega)
    go_enter Try.func62, Try.ntmps62
    go_wp2_with fail
    go_quiet (fail)
    go_wp2
    go_ret2
    exact ⟨by simp, nq, rfl⟩
  · exact Div_at hi lo y w h1 h2 h3 h0
end Go.Proofs.Ytkgafogkeaaniaa.DvB
