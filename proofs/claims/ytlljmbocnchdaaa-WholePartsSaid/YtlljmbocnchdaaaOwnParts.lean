/- The law evenhandedlaw1.WholeParts: what divides both, what both divide, quotients rounded down and up, or why there are none: a walk of the law's own code. No condition. -/
import Derived.Test.YtlljmbocnchdaaaOwnRefC
import Derived.Outline
import Derived.Deep.Cut
import Derived.Deep.DeepCutAuto
import Derived.Deep.CutBlock
set_option linter.unusedVariables false
set_option linter.unusedSimpArgs false
namespace Go.Proofs.Ytlljmbocnchdaaa.OwnParts
open Go.RowKit Go.Proofs.Ytlljmbocnchdaaa.PWholeLaws Go.Proofs.YtlljmbocnchdaaaW.PrintWords Go.Proofs.YtlljmbocnchdaaaW.PrintLast Go.Proofs.YtlljmbocnchdaaaW.PrintMore WhPlain Go.Proofs.Ytlljmbocnchdaaa.OwnRef
theorem Ceil_at {a b : Int} (ha : I a) (hb : I b) (h0 : b ≠ 0) (k : Nat) : whole_Ceil.f (k + 1) a b = some (fit (upp a b)) := by
  have h1 := ha.abs; have h2 := hb.abs
  have h3 : a.natAbs / b.natAbs ≤ a.natAbs := Nat.div_le_self _ _
  unfold whole_Ceil.f
  rw [if_neg h0, parted_at ha hb h0]; simp only [Option.bind_some]
  have hdp := tdiv_parts a b; have hz := tmod_zero a b
  have hmm : Int.tmod (a.natAbs : Int) (b.natAbs : Int) = ((a.natAbs % b.natAbs : Nat) : Int) := rfl
  have hgen : ∀ (n : Int) (s : Bool), 0 ≤ n → n < 18446744073709551616 → ((whole_signed.f (k + 1) n s).bind fun bt => some (bt.1, bt.2)) = some (fit (if s = true then -n else n)) := by
    intro n s hn0 hn; rw [signed_at n hn0 hn]; rfl
  unfold upp
  rw [hdp, hmm]
  generalize a.natAbs / b.natAbs = q at *
  generalize a.natAbs % b.natAbs = r at *
  by_cases hr : r = 0
  · rw [if_neg (show ¬ (Int.tmod a b ≠ 0 ∧ _) from fun h => h.1 (hz.2 hr)), hr]
    rw [if_neg (show ¬ ((((0 : Nat) : Int) != 0) = true) by decide)]
    by_cases hs : (decide (a < 0) != decide (b < 0)) = true
    · rw [if_pos hs, if_pos hs, hgen _ _ (by omega) (by omega)]
      by_cases hn : (q : Int) > 0
      · rw [decide_eq_true hn, if_pos rfl]
      · rw [decide_eq_false hn, if_neg (by decide)]
        exact congrArg (fun x => some (fit x)) (by omega)
    · rw [if_neg hs, if_neg hs, hgen _ _ (by omega) (by omega), if_neg (by decide)]
  · have hr' : ((r : Int) != 0) = true := by rw [bne_iff_ne]; omega
    rw [hr', if_pos rfl]
    have hne : Int.tmod a b ≠ 0 := fun h => hr (hz.1 h)
    by_cases hs : (decide (a < 0) != decide (b < 0)) = true
    · have hs' : (a < 0) ≠ (b < 0) := by
        intro he; rw [bne_iff_ne] at hs; exact hs (decide_eq_decide.2 (iff_of_eq he))
      rw [if_pos hs, if_pos hs, if_neg (fun h => hs' h.2), hgen _ _ (by omega) (by omega)]
      by_cases hn : (q : Int) > 0
      · rw [decide_eq_true hn, if_pos rfl]
      · rw [decide_eq_false hn, if_neg (by decide)]
        exact congrArg (fun x => some (fit x)) (by omega)
    · have hs' : (a < 0) = (b < 0) := by
        have : decide (a < 0) = decide (b < 0) := by simpa using hs
        exact propext (decide_eq_decide.1 this)
      rw [if_neg hs, if_neg hs, if_pos ⟨hne, hs'⟩, wu (by omega) (by omega), hgen _ _ (by omega) (by omega), if_neg (by decide)]

theorem rounds_fit {a b : Int} (ha : I a) (hb : I b) (h0 : b ≠ 0) (hx : ¬ (a = -9223372036854775808 ∧ b = -1)) : I (down a b) ∧ I (upp a b) := by
  have hdp := tdiv_parts a b; have hz := tmod_zero a b
  have h1 := ha.abs; have h2 := hb.abs
  have hda := Nat.div_add_mod a.natAbs b.natAbs
  unfold I at *
  by_cases hb1 : b.natAbs = 1
  · rw [hb1, Nat.mod_one] at hz
    have hr : Int.tmod a b = 0 := hz.2 rfl
    rw [hb1, Nat.div_one] at hdp
    unfold down upp
    rw [if_neg (fun h => h.1 hr), if_neg (fun h => h.1 hr), hdp]
    by_cases hb2 : b = 1
    · subst hb2
      by_cases ha2 : a < 0
      · rw [decide_eq_true ha2]; simp; omega
      · rw [decide_eq_false ha2]; simp; omega
    · have hb3 : b = -1 := by omega
      subst hb3
      by_cases ha2 : a < 0
      · rw [decide_eq_true ha2]; simp; omega
      · rw [decide_eq_false ha2]; simp; omega
  · have hq : a.natAbs / b.natAbs * 2 ≤ a.natAbs := by
      have : a.natAbs / b.natAbs * 2 ≤ a.natAbs / b.natAbs * b.natAbs := Nat.mul_le_mul_left _ (by omega)
      have := Nat.div_mul_le_self a.natAbs b.natAbs
      omega
    generalize a.natAbs / b.natAbs = q at *
    have hd : -4611686018427387904 ≤ Int.tdiv a b ∧ Int.tdiv a b ≤ 4611686018427387904 := by rw [hdp]; split <;> omega
    unfold down upp
    constructor <;> split <;> omega

set_option maxHeartbeats 4000000 in
set_option maxRecDepth 100000 in
theorem core (a b g m er x f y h : Int) (m' : Int) (ok s : Bool) (K : Nat) (w : World) (HA : Aside0 (evenhandedlaw1_awake.f 30 = some true)) (HG : Aside0 (whole_Gcd.f K a b = some g)) (HL : Aside0 (whole_Lcm.f K a b = some (m, er)))
    (P1 : Aside0 ((a != -9223372036854775808) = false ∨ ((a != -9223372036854775808) = true ∧ (b != -9223372036854775808) = false) ∨ ((a != -9223372036854775808) = true ∧ (b != -9223372036854775808) = true ∧ ∀ w, Aside0 (Calls Try.prog 19 #[.int .i64 a, .int .i64 b] w fun e w' => e = .returned (.int .i64 g) ∧ Below w.heap.size w w'))))
    (P2 : Aside0 (decide (g < 0) = false ∧ (decide (0 < g) = false ∨ (decide (0 < g) = true ∧ ¬ g = 0 ∧ (Int.tmod a g != 0) = false ∧ (Int.tmod b g != 0) = false))))
    (P3 : Aside0 ((decide (a < 1) = true ∧ (er != 2) = false ∧ (m != 0) = false) ∨ (decide (a < 1) = false ∧ decide (b < 1) = true ∧ (er != 2) = false ∧ (m != 0) = false)
      ∨ (decide (a < 1) = false ∧ decide (b < 1) = false ∧ ¬ g = 0 ∧ (∀ w, Aside0 (Calls Try.prog 17 #[.int .i64 (wrap64 (Int.tdiv a g)), .int .i64 b] w fun e w' => e = .returned (.tuple #[.int .i64 m', .bool ok]) ∧ Drawn0 w w')) ∧ (m != m') = false ∧ ((ok = true ∧ (er == 0) = true) ∨ (ok = false ∧ (er == 0) = false ∧ (er != 14) = false)))))
    (HF : Aside0 (whole_Floor.f 1 a b = some (x, f))) (HC : Aside0 (whole_Ceil.f 1 a b = some (y, h)))
    (P4 : Aside0 (((b == 0) = true ∧ (f == 2) = true ∧ (h == 2) = true ∧ (x == 0) = true ∧ (y == 0) = true)
      ∨ ((b == 0) = false ∧ (a == -9223372036854775808) = true ∧ (b == -1) = true ∧ (f == 14) = true ∧ (h == 14) = true ∧ (x == 0) = true ∧ (y == 0) = true)
      ∨ ((b == 0) = false ∧ ¬ b = 0 ∧ ((a == -9223372036854775808) = false ∨ ((a == -9223372036854775808) = true ∧ (b == -1) = false)) ∧ (f == 0) = true ∧ (h == 0) = true ∧
          (((Int.tmod a b != 0) = false ∧ (x == wrap64 (Int.tdiv a b)) = true ∧ (y == wrap64 (Int.tdiv a b)) = true)
           ∨ ((Int.tmod a b != 0) = true ∧ decide (Int.tmod a b < 0) = !s ∧ decide (b < 0) = s ∧ (x == wrap64 (wrap64 (Int.tdiv a b) - 1)) = true ∧ (y == wrap64 (Int.tdiv a b)) = true)
           ∨ ((Int.tmod a b != 0) = true ∧ decide (Int.tmod a b < 0) = s ∧ decide (b < 0) = s ∧ (x == wrap64 (Int.tdiv a b)) = true ∧ (y == wrap64 (wrap64 (Int.tdiv a b) + 1)) = true))))) :
    Calls Try.prog 6 #[.int .i64 a, .int .i64 b] w fun e w' => e = .returned (.bool true) ∧ Below w.heap.size w w' := by
  have HB := Aside0.mk (Below.refl w.heap.size w)
  go_enter Try.func6, Try.ntmps6
  go_upto_region 4 with (first
    | (go_at_call 10; (with_reducible refine (evenhandedlaw1_awake.calls 30 true _ HA.out).mono ?_); rintro e w1 ⟨rfl, hb1⟩)
    | (go_at_call 11; (with_reducible refine (whole_Gcd.calls K a b _ _ HG.out).mono ?_); rintro e w2 ⟨rfl, ⟨n2, rfl⟩⟩))
  go_cut [35] (fun v wc => v = .bool false ∧ Aside0 (Below w.heap.size w wc))
  case first =>
    have kb := pw_below_drewN hb1 n2
    rcases P1.out with h | ⟨h, h2⟩ | ⟨h, h2, H⟩
    all_goals
      go_wp2_with (((with_reducible refine (H _).out.mono ?_); rintro e w3 ⟨rfl, hb3⟩))
      go_meet
      case rel => exact ⟨by first | rfl | simp, ⟨by first | exact below_then kb kb.size hb3 | exact kb⟩⟩
  case rest =>
    obtain ⟨rfl, HB1⟩ := hcut
    clear HB
    go_upto_region 6 with (fail)
    go_cut [53] (fun v wc => v = .bool false ∧ Aside0 (Below w.heap.size w wc))
    case first =>
      obtain ⟨g0, h | ⟨h, hg, h1, h2⟩⟩ := P2.out
      all_goals
        go_wp2
        go_meet
        case rel => exact ⟨by first | rfl | simp, HB1⟩
    case rest =>
      obtain ⟨rfl, HB2⟩ := hcut
      clear HB1
      go_upto_block 0 with ((go_at_call 12; (with_reducible refine (whole_Lcm.calls K a b _ _ _ HL.out).mono ?_); rintro e w4 ⟨rfl, ⟨n4, rfl⟩⟩))
      go_cut [] (fun wc => Aside0 (Below w.heap.size w wc))
      case first =>
        have kb := pw_below_drewN HB2.out n4
        rcases P3.out with ⟨q1, q2, q3⟩ | ⟨q1, q2, q3, q4⟩ | ⟨q1, q2, q3, H, q5, ⟨rfl, q6⟩ | ⟨rfl, q6, q7⟩⟩
        all_goals
          go_wp2_with (((with_reducible refine (H _).out.mono ?_); rintro e w5 ⟨rfl, ⟨n5, rfl⟩⟩))
          go_meet
          case rel => exact ⟨by repeat (first | exact HB2.out | exact kb | apply pw_below_drewN)⟩
      case rest =>
        have HB3 := hcut
        clear HB2
        rcases P4.out with ⟨q1, q2, q3, q4, q5⟩ | ⟨q1, q2, q3, q4, q5, q6, q7⟩ | ⟨q1, q2, ⟨q3⟩ | ⟨q3, q4⟩, q5, q6, ⟨q7, q8, q9⟩ | ⟨q7, q8, q9, q10, q11⟩ | ⟨q7, q8, q9, q10, q11⟩⟩ <;> cases s
        all_goals
          go_wp2_with (first
            | (go_at_call 20; (with_reducible refine (whole_Floor.calls 1 a b _ _ _ HF.out).mono ?_); rintro e w6 ⟨rfl, ⟨n6, rfl⟩⟩)
            | (go_at_call 21; (with_reducible refine (whole_Ceil.calls 1 a b _ _ _ HC.out).mono ?_); rintro e w7 ⟨rfl, ⟨n7, rfl⟩⟩))
          go_ret
          exact ⟨rfl, by repeat (first | exact HB3.out | apply pw_below_drewN)⟩
theorem P4_at {a b : Int} (ha : I a) (hb : I b) : ∃ (x f y h : Int) (s : Bool), Aside0 (whole_Floor.f 1 a b = some (x, f)) ∧ Aside0 (whole_Ceil.f 1 a b = some (y, h)) ∧
    Aside0 (((b == 0) = true ∧ (f == 2) = true ∧ (h == 2) = true ∧ (x == 0) = true ∧ (y == 0) = true)
      ∨ ((b == 0) = false ∧ (a == -9223372036854775808) = true ∧ (b == -1) = true ∧ (f == 14) = true ∧ (h == 14) = true ∧ (x == 0) = true ∧ (y == 0) = true)
      ∨ ((b == 0) = false ∧ ¬ b = 0 ∧ ((a == -9223372036854775808) = false ∨ ((a == -9223372036854775808) = true ∧ (b == -1) = false)) ∧ (f == 0) = true ∧ (h == 0) = true ∧
          (((Int.tmod a b != 0) = false ∧ (x == wrap64 (Int.tdiv a b)) = true ∧ (y == wrap64 (Int.tdiv a b)) = true)
           ∨ ((Int.tmod a b != 0) = true ∧ decide (Int.tmod a b < 0) = !s ∧ decide (b < 0) = s ∧ (x == wrap64 (wrap64 (Int.tdiv a b) - 1)) = true ∧ (y == wrap64 (Int.tdiv a b)) = true)
           ∨ ((Int.tmod a b != 0) = true ∧ decide (Int.tmod a b < 0) = s ∧ decide (b < 0) = s ∧ (x == wrap64 (Int.tdiv a b)) = true ∧ (y == wrap64 (wrap64 (Int.tdiv a b) + 1)) = true)))) := by
  by_cases h0 : b = 0
  · subst h0
    refine ⟨0, 2, 0, 2, true, ⟨Floor_no 1⟩, ⟨by unfold whole_Ceil.f; rw [if_pos rfl]⟩, ⟨.inl (by decide)⟩⟩
  · by_cases h1 : a = -9223372036854775808 ∧ b = -1
    · obtain ⟨rfl, rfl⟩ := h1
      refine ⟨0, 14, 0, 14, true, ⟨?_⟩, ⟨?_⟩, ⟨.inr (.inl (by decide))⟩⟩
      · rw [Floor_at ha hb h0 0]; decide +kernel
      · rw [Ceil_at ha hb h0 0]; decide +kernel
    · have hf := rounds_fit ha hb h0 h1
      refine ⟨down a b, 0, upp a b, 0, decide (b < 0), ⟨by rw [Floor_at ha hb h0 0, fit_yes hf.1.1 hf.1.2]⟩, ⟨by rw [Ceil_at ha hb h0 0, fit_yes hf.2.1 hf.2.2]⟩, ⟨.inr (.inr ⟨beq_eq_false_iff_ne.2 h0, h0, ?_, by decide, by decide, ?_⟩)⟩⟩
      · by_cases h2 : a = -9223372036854775808
        · exact .inr ⟨beq_iff_eq.2 h2, beq_eq_false_iff_ne.2 fun h => h1 ⟨h2, h⟩⟩
        · exact .inl (beq_eq_false_iff_ne.2 h2)
      · have hs := tmod_sign a b
        unfold I down upp at hf
        unfold down upp
        by_cases hr : Int.tmod a b = 0
        · rw [if_neg (fun h => h.1 hr), if_neg (fun h => h.1 hr)] at hf ⊢
          rw [OwnRef.wr (x := Int.tdiv a b) (by omega) (by omega)]
          exact .inl ⟨bne_eq_false_iff_eq.2 hr, beq_self_eq_true _, beq_self_eq_true _⟩
        · by_cases hsg : (a < 0) = (b < 0)
          · rw [if_neg (fun h => h.2 hsg), if_pos ⟨hr, hsg⟩] at hf ⊢
            rw [OwnRef.wr (x := Int.tdiv a b) (by omega) (by omega), OwnRef.wr (x := Int.tdiv a b + 1) (by omega) (by omega)]
            refine .inr (.inr ⟨bne_iff_ne.2 hr, ?_, rfl, beq_self_eq_true _, beq_self_eq_true _⟩)
            rw [decide_eq_decide]; rw [eq_iff_iff] at hsg; omega
          · rw [if_pos ⟨hr, hsg⟩, if_neg (fun h => hsg h.2)] at hf ⊢
            rw [OwnRef.wr (x := Int.tdiv a b) (by omega) (by omega), OwnRef.wr (x := Int.tdiv a b - 1) (by omega) (by omega)]
            refine .inr (.inl ⟨bne_iff_ne.2 hr, ?_, rfl, beq_self_eq_true _, beq_self_eq_true _⟩)
            rw [eq_iff_iff] at hsg
            by_cases hb2 : b < 0
            · rw [decide_eq_true hb2, decide_eq_false (by omega)]; rfl
            · rw [decide_eq_false hb2, decide_eq_true (by omega)]; rfl
theorem walk (a b : Int) (w : World) (w0 : (Lit.int .i64 a).wf = true) (w1 : (Lit.int .i64 b).wf = true) :
    Calls Try.prog 6 #[.int .i64 a, .int .i64 b] w fun e w' => e = .returned (.bool true) ∧ Below w.heap.size w w' := by
  have ha : I a := is64 w0
  have hb : I b := is64 w1
  obtain ⟨x, f, y, h, s, HF, HC, P4⟩ := P4_at ha hb
  have h1 := ha.abs; have h2 := hb.abs
  have hgd : (Int.gcd a b : Int) ≤ 9223372036854775808 := by
    by_cases h : a = 0
    · rw [h, Int.gcd_zero_left]; exact h2
    · have : Int.gcd a b ≤ a.natAbs := Nat.gcd_le_left _ (by omega)
      omega
  have P1 : Aside0 ((a != -9223372036854775808) = false ∨ ((a != -9223372036854775808) = true ∧ (b != -9223372036854775808) = false) ∨ ((a != -9223372036854775808) = true ∧ (b != -9223372036854775808) = true ∧ ∀ w, Aside0 (Calls Try.prog 19 #[.int .i64 a, .int .i64 b] w fun e w' => e = .returned (.int .i64 (G a b)) ∧ Below w.heap.size w w'))) := ⟨by
    by_cases ha' : a = -9223372036854775808
    · exact .inl (bne_eq_false_iff_eq.2 ha')
    · by_cases hb' : b = -9223372036854775808
      · exact .inr (.inl ⟨bne_iff_ne.2 ha', bne_eq_false_iff_eq.2 hb'⟩)
      · refine .inr (.inr ⟨bne_iff_ne.2 ha', bne_iff_ne.2 hb', fun w => ⟨?_⟩⟩)
        have hG : G a b = (Int.gcd a b : Int) := by
          unfold G; rw [if_neg]
          have h3 : (a.natAbs : Int) ≤ 9223372036854775807 := by unfold I at ha; omega
          have h4 : (b.natAbs : Int) ≤ 9223372036854775807 := by unfold I at hb; omega
          by_cases h : a = 0
          · rw [h, Int.gcd_zero_left]; omega
          · have : Int.gcd a b ≤ a.natAbs := Nat.gcd_le_left _ (by omega)
            omega
        rw [hG]; exact refGcd_at a b ha hb ha' hb' w⟩
  have hG0 : 0 ≤ G a b := by unfold G; split <;> omega
  have hGd : 0 < G a b → G a b = (Int.gcd a b : Int) := fun h => by
    unfold G at h ⊢
    split at h
    · omega
    · rename_i hn; rw [if_neg hn]
  have P2 : Aside0 (decide (G a b < 0) = false ∧ (decide (0 < G a b) = false ∨ (decide (0 < G a b) = true ∧ ¬ G a b = 0 ∧ (Int.tmod a (G a b) != 0) = false ∧ (Int.tmod b (G a b) != 0) = false))) := ⟨by
    refine ⟨decide_eq_false (by omega), ?_⟩
    by_cases hp : 0 < G a b
    · refine .inr ⟨decide_eq_true hp, by omega, ?_, ?_⟩
      · rw [bne_eq_false_iff_eq, hGd hp]; exact Int.tmod_eq_zero_of_dvd (Int.gcd_dvd_left a b)
      · rw [bne_eq_false_iff_eq, hGd hp]; exact Int.tmod_eq_zero_of_dvd (Int.gcd_dvd_right a b)
    · exact .inl (decide_eq_false hp)⟩
  obtain ⟨K, hK⟩ : ∃ K : Nat, K = 9223372036854775900 := ⟨_, rfl⟩
  have HA : Aside0 (evenhandedlaw1_awake.f 30 = some true) := ⟨awake_yes 30 (by omega)⟩
  have HG : Aside0 (whole_Gcd.f (K + 1) a b = some (G a b)) := ⟨Gcd_at ha hb (K + 1) (by omega)⟩
  by_cases h11 : 1 ≤ a ∧ 1 ≤ b
  · have hg := G_small ha hb h11.1
    have hd : 0 ≤ a / (Int.gcd a b : Int) ∧ a / (Int.gcd a b : Int) ≤ a := ⟨Int.ediv_nonneg (by omega) (by omega), Int.ediv_le_self _ (by omega)⟩
    have hI : I (a / (Int.gcd a b : Int)) := by unfold I at ha ⊢; omega
    have hq : wrap64 (Int.tdiv a (G a b)) = a / (Int.gcd a b : Int) := by
      rw [hg.1, td (a := a) (by omega), OwnRef.wr hI.1 hI.2]
    refine core a b (G a b) (fit (a / (Int.gcd a b : Int) * b)).1 (fit (a / (Int.gcd a b : Int) * b)).2 x f y h (fit (a / (Int.gcd a b : Int) * b)).1 (decide ((fit (a / (Int.gcd a b : Int) * b)).2 = 0)) s (K + 1) w HA HG ⟨Lcm_at ha hb h11.1 h11.2 K (by omega)⟩ P1 P2 ⟨?_⟩ HF HC P4
    refine .inr (.inr ⟨decide_eq_false (by omega), decide_eq_false (by omega), (fun hz => by rw [hz] at hg; omega), fun w => ⟨by rw [hq]; exact refMul_at hI hb w⟩, bne_eq_false_iff_eq.2 rfl, ?_⟩)
    rcases (fit_two (a / (Int.gcd a b : Int) * b)).1 with h3 | h3
    · exact .inl ⟨decide_eq_true h3, beq_iff_eq.2 h3⟩
    · exact .inr ⟨decide_eq_false (by rw [h3]; decide), beq_eq_false_iff_ne.2 (by rw [h3]; decide), bne_eq_false_iff_eq.2 h3⟩
  · refine core a b _ 0 2 x f y h 0 true s (K + 1) w HA HG ⟨Lcm_no h11 K⟩ P1 P2 ⟨?_⟩ HF HC P4
    by_cases h12 : a < 1
    · exact .inl ⟨decide_eq_true h12, by decide, by decide⟩
    · exact .inr (.inl ⟨decide_eq_false h12, decide_eq_true (by omega), by decide, by decide⟩)
end Go.Proofs.Ytlljmbocnchdaaa.OwnParts
