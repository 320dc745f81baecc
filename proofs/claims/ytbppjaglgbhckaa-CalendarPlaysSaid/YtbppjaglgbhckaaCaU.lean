/- Package calendar: CalendarDrops. No condition. -/
import Derived.Test.YtbppjaglgbhckaaCaT
set_option linter.unusedVariables false
set_option linter.unusedSimpArgs false
namespace Go.Proofs.Ytbppjaglgbhckaa.CaU
open Go.RowKit Go.Proofs.Ytbppjaglgbhckaa.Kit Go.Proofs.Ytbppjaglgbhckaa.Kit2 Go.Proofs.Ytbppjaglgbhckaa.Kit4 Go.Proofs.Ytbppjaglgbhckaa.CaA Go.Proofs.Ytbppjaglgbhckaa.CaB Go.Proofs.Ytbppjaglgbhckaa.CaC Go.Proofs.Ytbppjaglgbhckaa.CaD Go.Proofs.Ytbppjaglgbhckaa.CaF Go.Proofs.Ytbppjaglgbhckaa.CaG Go.Proofs.Ytbppjaglgbhckaa.CaH Go.Proofs.Ytbppjaglgbhckaa.CaI Go.Proofs.Ytbppjaglgbhckaa.CaJ Go.Proofs.Ytbppjaglgbhckaa.CaK Go.Proofs.Ytbppjaglgbhckaa.CaL Go.Proofs.Ytbppjaglgbhckaa.CaM Go.Proofs.Ytbppjaglgbhckaa.CaN Go.Proofs.Ytbppjaglgbhckaa.CaO Go.Proofs.Ytbppjaglgbhckaa.CaP Go.Proofs.Ytbppjaglgbhckaa.CaQ Go.Proofs.Ytbppjaglgbhckaa.CaR Go.Proofs.Ytbppjaglgbhckaa.CaT
open Go.Proofs.YtbppjaglgbhckaaW.PrintLast
set_option maxHeartbeats 16000000 in
set_option maxRecDepth 100000 in
theorem walk (a : Option Addr) (len cap : Nat) (V : Nat → Nat → Value) (id : Int) (w : World) (hrow : InRow UK w a len V) (hlen : len ≤ maxLen) (hid : (Lit.int .u8 id).wf = true) :
    Calls Try.prog 6 #[.slice a len cap, .int .u8 id] w fun r w' => r = .returned (.bool true) ∧ Below w.heap.size w w' := by
  have HROW := Side.mk hrow
  have hl : (len : Int) ≤ 9223372036854775807 := by unfold maxLen at hlen; omega
  obtain ⟨hid0, hid1⟩ := isu8 hid
  clear hrow hlen hid
  by_cases hbig : 100 < len
  · have hb3 : (100 : Int) < len := by omega
    clear hbig
    go_enter Try.func6, Try.ntmps6
    go_wp2_with fail
    refine (awake_at _).mono ?_
    rintro e w1 ⟨rfl, hb⟩
    have HB := Side.mk hb
    clear hb
    go_wp2
    go_ret
    exact ⟨rfl, HB.out⟩
  have hb3 : ¬ (100 : Int) < len := by omega
  have hb4 : (len : Int) ≤ 100 := by omega
  go_enter Try.func6, Try.ntmps6
  go_wp2_with fail
  refine (awake_at _).mono ?_
  rintro e wa ⟨rfl, hb⟩
  have HB := Side.mk hb
  clear hb
  go_wp2_with fail
  refine (New_at _).mono ?_
  rintro e w1 ⟨rfl, rfl⟩
  go_wp2_with fail
  refine (New_at _).mono ?_
  rintro e w1 ⟨rfl, rfl⟩
  have T0 := Side.mk (Two.start HB.out)
  rw [show (wa.alloc (.cells #[.slice none 0 0] 42)).heap.size = wa.heap.size + 1 by simp]
  obtain ⟨ga, hga⟩ : ∃ ga, ga = wa.heap.size := ⟨_, rfl⟩
  obtain ⟨gb, hgb⟩ : ∃ gb, gb = wa.heap.size + 1 := ⟨_, rfl⟩
  rw [← hgb, ← hga] at T0 ⊢
  clear hga hgb HB
  generalize (wa.alloc (.cells #[.slice none 0 0] 42)).alloc _ = w1 at *
  go_wp2_with fail
  go_loopw [7, 8] (fun v7 v8 wr => ∃ i : Nat, v8 = .int .i64 (i : Int) ∧ i ≤ len ∧ v7 = .int .i64 ((i : Int) - (putsN (pr V) id i).length) ∧ Side (Two w wr ga gb (puts (pr V) i) (putsN (pr V) id i))) (fun _ v8 _ => (len - intOf v8).toNat)
  case atStart => exact ⟨0, rfl, Nat.zero_le _, rfl, T0⟩
  case round =>
    clear T0
    obtain ⟨i, rfl, hi, rfl, HT⟩ := hrel
    have hi0 : (0 : Int) ≤ i := by omega
    have hnl := putsN_le (pr V) id i
    have hn1 : ((putsN (pr V) id i).length : Int) ≤ i := by omega
    have hi9 : (i : Int) ≤ 100 := by omega
    obtain ⟨wo, hwo⟩ : ∃ wo : World, wo = wr := ⟨_, rfl⟩
    rw [← hwo] at HT ⊢
    clear hwo hnl
    by_cases hin : i < len
    · have hii : (i : Int) < len := by omega
      obtain ⟨g, off, rfl, hgl, c0, c1, x0, x1, y0, y1⟩ := row_pr HROW.out HT.out.below i hin
      obtain ⟨p, hp⟩ : ∃ p, p = pr V i := ⟨_, rfl⟩
      rw [← hp] at c0 c1 x0 x1 y0 y1
      have HP := Side.mk hp
      obtain ⟨px, py⟩ := p
      simp only at x0 x1 y0 y1
      have c0 : wo.cell? ⟨g, off + i * 2, none⟩ = some (.int .u8 px) := c0
      have c1 : wo.cell? ⟨g, off + i * 2 + 1, none⟩ = some (.int .u8 py) := c1
      clear hp
      have HWX : Side (IntKind.i64.wrap px = px) := ⟨by rw [IntKind.wrap_i64]; omega⟩
      have HWY : Side (IntKind.i64.wrap py = py) := ⟨by rw [IntKind.wrap_i64]; omega⟩
      have CP := Side.mk (Put_two (HT.out.below' (below_drew (Below.refl _ _))) (by rw [puts_len]; omega) px py)
      go_upto_region 12 with (fail)
      refine start_ (n := 14) (S := fun w' => True) (ds := []) #[false, false, false, false, false, false, false, false, false, false, false, false, false, false] (by kernel_rfl) rfl rfl trivial (fun _ => ?_)
      refine inv_at (B := [0, 0, 0, 6, 14, 30, 62, 0, 0, 384, 896, 1920, 3968, 8191]) [0, 1, 2, 3, 4, 5, 6, 7, 8, 9, 10, 11, 12, 13] (fun a0_ b a w' => a = putSel a0_ b [(0, 31, .pointer (some ⟨ga, 0, none⟩)), (1, 32, .slice (some ⟨g, off, none⟩) len cap), (2, 33, .int .i64 i), (3, 34, .pointer (some ⟨g, off + i * 2, none⟩)), (4, 35, .pointer (some ⟨g, off + i * 2, none⟩)), (5, 36, .int .u8 px), (6, 37, .int .i64 px), (7, 38, .slice (some ⟨g, off, none⟩) len cap), (8, 39, .int .i64 i), (9, 40, .pointer (some ⟨g, off + i * 2, none⟩)), (10, 41, .pointer (some ⟨g, off + i * 2 + 1, none⟩)), (11, 42, .int .u8 py), (12, 43, .int .i64 py), (13, 44, .tuple #[])] ∧ One wo.drew (fun w' => Two w w' ga gb (putL (puts (pr V) i) (px, py)) (putsN (pr V) id i) ∧ Fr F0 wo.drew w') 13 b w') rfl (by kernel_rfl) (by kernel_rfl) (by kernel_rfl) ?_ ?_ ?_
      · exact ⟨by simp only [putSel, Bool.false_eq_true, if_false], One.start⟩
      · refine steps_cons (by rintro b a w' ⟨ha, HI⟩ hb hon hoff; refine ⟨_, rfl, fun K hK => ?_⟩; have e5 := poff ha (t := 5) rfl rfl; obtain rfl := HI.n (hoff 13 rfl); exact value_ (v := .pointer (some ⟨ga, 0, none⟩)) (by rfl) rfl (by clear HI ha; go_simp) (hK.out _ _ ⟨upk ha 0 hb rfl rfl, HI.low (by decide)⟩)) ?_
        refine steps_cons (by rintro b a w' ⟨ha, HI⟩ hb hon hoff; refine ⟨_, rfl, fun K hK => ?_⟩; have e0 := poff ha (t := 0) rfl rfl; obtain rfl := HI.n (hoff 13 rfl); exact value_ (v := .slice (some ⟨g, off, none⟩) len cap) (by rfl) rfl (by clear HI ha; go_simp) (hK.out _ _ ⟨upk ha 1 hb rfl rfl, HI.low (by decide)⟩)) ?_
        refine steps_cons (by rintro b a w' ⟨ha, HI⟩ hb hon hoff; refine ⟨_, rfl, fun K hK => ?_⟩; have e8 := poff ha (t := 8) rfl rfl; obtain rfl := HI.n (hoff 13 rfl); exact value_ (v := .int .i64 i) (by rfl) rfl (by clear HI ha; go_simp) (hK.out _ _ ⟨upk ha 2 hb rfl rfl, HI.low (by decide)⟩)) ?_
        refine steps_cons (by rintro b a w' ⟨ha, HI⟩ hb hon hoff; refine ⟨_, rfl, fun K hK => ?_⟩; have e32 := pon ha 1 (hon 1 rfl) rfl rfl rfl; have e33 := pon ha 2 (hon 2 rfl) rfl rfl rfl; obtain rfl := HI.n (hoff 13 rfl); exact value_ (v := .pointer (some ⟨g, off + i * 2, none⟩)) (by rfl) rfl (by clear HI ha; go_simp) (hK.out _ _ ⟨upk ha 3 hb rfl rfl, HI.low (by decide)⟩)) ?_
        refine steps_cons (by rintro b a w' ⟨ha, HI⟩ hb hon hoff; refine ⟨_, rfl, fun K hK => ?_⟩; have e34 := pon ha 3 (hon 3 rfl) rfl rfl rfl; obtain rfl := HI.n (hoff 13 rfl); exact value_ (v := .pointer (some ⟨g, off + i * 2, none⟩)) (by rfl) rfl (by clear HI ha; go_simp) (hK.out _ _ ⟨upk ha 4 hb rfl rfl, HI.low (by decide)⟩)) ?_
        refine steps_cons (by rintro b a w' ⟨ha, HI⟩ hb hon hoff; refine ⟨_, rfl, fun K hK => ?_⟩; have e35 := pon ha 4 (hon 4 rfl) rfl rfl rfl; obtain rfl := HI.n (hoff 13 rfl); exact value_ (v := .int .u8 px) (by rfl) rfl (by clear HI ha; go_simp) (hK.out _ _ ⟨upk ha 5 hb rfl rfl, HI.low (by decide)⟩)) ?_
        refine steps_cons (by rintro b a w' ⟨ha, HI⟩ hb hon hoff; refine ⟨_, rfl, fun K hK => ?_⟩; have e36 := pon ha 5 (hon 5 rfl) rfl rfl rfl; obtain rfl := HI.n (hoff 13 rfl); exact value_ (v := .int .i64 px) (by rfl) rfl (by clear HI ha; go_simp; exact HWX.out) (hK.out _ _ ⟨upk ha 6 hb rfl rfl, HI.low (by decide)⟩)) ?_
        refine steps_cons (by rintro b a w' ⟨ha, HI⟩ hb hon hoff; refine ⟨_, rfl, fun K hK => ?_⟩; have e0 := poff ha (t := 0) rfl rfl; obtain rfl := HI.n (hoff 13 rfl); exact value_ (v := .slice (some ⟨g, off, none⟩) len cap) (by rfl) rfl (by clear HI ha; go_simp) (hK.out _ _ ⟨upk ha 7 hb rfl rfl, HI.low (by decide)⟩)) ?_
        refine steps_cons (by rintro b a w' ⟨ha, HI⟩ hb hon hoff; refine ⟨_, rfl, fun K hK => ?_⟩; have e8 := poff ha (t := 8) rfl rfl; obtain rfl := HI.n (hoff 13 rfl); exact value_ (v := .int .i64 i) (by rfl) rfl (by clear HI ha; go_simp) (hK.out _ _ ⟨upk ha 8 hb rfl rfl, HI.low (by decide)⟩)) ?_
        refine steps_cons (by rintro b a w' ⟨ha, HI⟩ hb hon hoff; refine ⟨_, rfl, fun K hK => ?_⟩; have e38 := pon ha 7 (hon 7 rfl) rfl rfl rfl; have e39 := pon ha 8 (hon 8 rfl) rfl rfl rfl; obtain rfl := HI.n (hoff 13 rfl); exact value_ (v := .pointer (some ⟨g, off + i * 2, none⟩)) (by rfl) rfl (by clear HI ha; go_simp) (hK.out _ _ ⟨upk ha 9 hb rfl rfl, HI.low (by decide)⟩)) ?_
        refine steps_cons (by rintro b a w' ⟨ha, HI⟩ hb hon hoff; refine ⟨_, rfl, fun K hK => ?_⟩; have e40 := pon ha 9 (hon 9 rfl) rfl rfl rfl; obtain rfl := HI.n (hoff 13 rfl); exact value_ (v := .pointer (some ⟨g, off + i * 2 + 1, none⟩)) (by rfl) rfl (by clear HI ha; go_simp) (hK.out _ _ ⟨upk ha 10 hb rfl rfl, HI.low (by decide)⟩)) ?_
        refine steps_cons (by rintro b a w' ⟨ha, HI⟩ hb hon hoff; refine ⟨_, rfl, fun K hK => ?_⟩; have e41 := pon ha 10 (hon 10 rfl) rfl rfl rfl; obtain rfl := HI.n (hoff 13 rfl); exact value_ (v := .int .u8 py) (by rfl) rfl (by clear HI ha; go_simp) (hK.out _ _ ⟨upk ha 11 hb rfl rfl, HI.low (by decide)⟩)) ?_
        refine steps_cons (by rintro b a w' ⟨ha, HI⟩ hb hon hoff; refine ⟨_, rfl, fun K hK => ?_⟩; have e42 := pon ha 11 (hon 11 rfl) rfl rfl rfl; obtain rfl := HI.n (hoff 13 rfl); exact value_ (v := .int .i64 py) (by rfl) rfl (by clear HI ha; go_simp; exact HWY.out) (hK.out _ _ ⟨upk ha 12 hb rfl rfl, HI.low (by decide)⟩)) ?_
        refine steps_cons (by rintro b a w' ⟨ha, HI⟩ hb hon hoff; refine ⟨_, rfl, fun K hK => ?_⟩; have e31 := pon ha 0 (hon 0 rfl) rfl rfl rfl; have e37 := pon ha 6 (hon 6 rfl) rfl rfl rfl; have e43 := pon ha 12 (hon 12 rfl) rfl rfl rfl; obtain rfl := HI.n hb; refine goes_ Try.func9 (by kernel_rfl) rfl #[.pointer (some ⟨ga, 0, none⟩), .int .i64 px, .int .i64 py] (by rfl) rfl rfl (by simp [Act.eval, e31, e37, e43]) (CP.out.mono ?_); rintro e_ w'' ⟨rfl, hp_⟩; exact ⟨_, rfl, hK.out _ _ ⟨upk ha 13 hb rfl rfl, One.set hp_⟩⟩) ?_
        exact steps_nil
      · rintro b a w' hall ⟨ha, HI⟩
        have hb0_ := hall 0 rfl; have hb1_ := hall 1 rfl; have hb2_ := hall 2 rfl; have hb3_ := hall 3 rfl; have hb4_ := hall 4 rfl; have hb5_ := hall 5 rfl; have hb6_ := hall 6 rfl; have hb7_ := hall 7 rfl
        have hb8_ := hall 8 rfl; have hb9_ := hall 9 rfl; have hb10_ := hall 10 rfl; have hb11_ := hall 11 rfl; have hb12_ := hall 12 rfl; have hb13_ := hall 13 rfl
        subst ha
        simp only [putSel, hb0_, hb1_, hb2_, hb3_, hb4_, hb5_, hb6_, hb7_, hb8_, hb9_, hb10_, hb11_, hb12_, hb13_, if_true, Act.put, List.setIfInBounds_toArray, List.set_cons_zero, List.set_cons_succ]
        have HF := Side.mk (HI.y hb13_)
        clear hall HI hb0_ hb1_ hb2_ hb3_ hb4_ hb5_ hb6_ hb7_ hb8_ hb9_ hb10_ hb11_ hb12_ hb13_
        refine ‹∀ (a' : Act) (w' : World), Code.wp Try.prog _ _ a' w' → _› _ _ ?_
        obtain ⟨w2, hw2⟩ : ∃ w2 : World, w2 = w' := ⟨_, rfl⟩
        rw [← hw2] at HF ⊢
        clear hw2 CP
        have HT2 : Side (Two w w2 ga gb (puts (pr V) (i + 1)) (putsN (pr V) id i)) := ⟨by
          have := HF.out.1
          rw [HP.out] at this
          exact this⟩
        clear HF HT c0 c1
        obtain ⟨g', off', he, hgl2, c0, c1, -⟩ := row_pr HROW.out HT2.out.below i hin
        obtain ⟨rfl, rfl⟩ : g = g' ∧ off = off' := by simpa using he
        rw [← HP.out] at c0 c1
        have c0 : w2.cell? ⟨g, off + i * 2, none⟩ = some (.int .u8 px) := c0
        have c1 : w2.cell? ⟨g, off + i * 2 + 1, none⟩ = some (.int .u8 py) := c1
        clear he
        by_cases hpi : py = id
        · have HN : Side (putsN (pr V) id (i + 1) = putsN (pr V) id i) := ⟨by
            have : (pr V i).2 = id := by rw [← HP.out]; exact hpi
            conv => lhs; unfold putsN
            rw [if_pos this]⟩
          subst hpi
          go_wp2
          go_roundw
          case rel => exact ⟨i + 1, by simp, by omega, by rw [HN.out]; simp; omega, ⟨by rw [HN.out]; exact HT2.out.below' (by (repeat (with_reducible first | exact Below.refl _ _ | apply below_drewN | apply below_drew | apply below_alloc)))⟩⟩
          case measure => simp [intOf]; omega
        · have HN : Side (putsN (pr V) id (i + 1) = putL (putsN (pr V) id i) (px, py)) := ⟨by
            have : ¬ (pr V i).2 = id := by rw [← HP.out]; exact hpi
            conv => lhs; unfold putsN
            rw [if_neg this, ← HP.out]⟩
          have CP := Side.mk (Put_two (HT2.out.swap.below' (below_drew (Below.refl _ _))) (by omega) px py)
          go_upto_region 15 with (fail)
          refine start_ (n := 14) (S := fun w' => True) (ds := []) #[false, false, false, false, false, false, false, false, false, false, false, false, false, false] (by kernel_rfl) rfl rfl trivial (fun _ => ?_)
          refine inv_at (B := [0, 0, 0, 6, 14, 30, 62, 0, 0, 384, 896, 1920, 3968, 8191]) [0, 1, 2, 3, 4, 5, 6, 7, 8, 9, 10, 11, 12, 13] (fun a0_ b a w' => a = putSel a0_ b [(0, 54, .pointer (some ⟨gb, 0, none⟩)), (1, 55, .slice (some ⟨g, off, none⟩) len cap), (2, 56, .int .i64 i), (3, 57, .pointer (some ⟨g, off + i * 2, none⟩)), (4, 58, .pointer (some ⟨g, off + i * 2, none⟩)), (5, 59, .int .u8 px), (6, 60, .int .i64 px), (7, 61, .slice (some ⟨g, off, none⟩) len cap), (8, 62, .int .i64 i), (9, 63, .pointer (some ⟨g, off + i * 2, none⟩)), (10, 64, .pointer (some ⟨g, off + i * 2 + 1, none⟩)), (11, 65, .int .u8 py), (12, 66, .int .i64 py), (13, 67, .tuple #[])] ∧ One w2.drew (fun w' => Two w w' gb ga (putL (putsN (pr V) id i) (px, py)) (puts (pr V) (i + 1)) ∧ Fr F0 w2.drew w') 13 b w') rfl (by kernel_rfl) (by kernel_rfl) (by kernel_rfl) ?_ ?_ ?_
          · exact ⟨by simp only [putSel, Bool.false_eq_true, if_false], One.start⟩
          · refine steps_cons (by rintro b a w' ⟨ha, HI⟩ hb hon hoff; refine ⟨_, rfl, fun K hK => ?_⟩; have e6 := poff ha (t := 6) rfl rfl; obtain rfl := HI.n (hoff 13 rfl); exact value_ (v := .pointer (some ⟨gb, 0, none⟩)) (by rfl) rfl (by clear HI ha; go_simp) (hK.out _ _ ⟨upk ha 0 hb rfl rfl, HI.low (by decide)⟩)) ?_
            refine steps_cons (by rintro b a w' ⟨ha, HI⟩ hb hon hoff; refine ⟨_, rfl, fun K hK => ?_⟩; have e0 := poff ha (t := 0) rfl rfl; obtain rfl := HI.n (hoff 13 rfl); exact value_ (v := .slice (some ⟨g, off, none⟩) len cap) (by rfl) rfl (by clear HI ha; go_simp) (hK.out _ _ ⟨upk ha 1 hb rfl rfl, HI.low (by decide)⟩)) ?_
            refine steps_cons (by rintro b a w' ⟨ha, HI⟩ hb hon hoff; refine ⟨_, rfl, fun K hK => ?_⟩; have e8 := poff ha (t := 8) rfl rfl; obtain rfl := HI.n (hoff 13 rfl); exact value_ (v := .int .i64 i) (by rfl) rfl (by clear HI ha; go_simp) (hK.out _ _ ⟨upk ha 2 hb rfl rfl, HI.low (by decide)⟩)) ?_
            refine steps_cons (by rintro b a w' ⟨ha, HI⟩ hb hon hoff; refine ⟨_, rfl, fun K hK => ?_⟩; have e55 := pon ha 1 (hon 1 rfl) rfl rfl rfl; have e56 := pon ha 2 (hon 2 rfl) rfl rfl rfl; obtain rfl := HI.n (hoff 13 rfl); exact value_ (v := .pointer (some ⟨g, off + i * 2, none⟩)) (by rfl) rfl (by clear HI ha; go_simp) (hK.out _ _ ⟨upk ha 3 hb rfl rfl, HI.low (by decide)⟩)) ?_
            refine steps_cons (by rintro b a w' ⟨ha, HI⟩ hb hon hoff; refine ⟨_, rfl, fun K hK => ?_⟩; have e57 := pon ha 3 (hon 3 rfl) rfl rfl rfl; obtain rfl := HI.n (hoff 13 rfl); exact value_ (v := .pointer (some ⟨g, off + i * 2, none⟩)) (by rfl) rfl (by clear HI ha; go_simp) (hK.out _ _ ⟨upk ha 4 hb rfl rfl, HI.low (by decide)⟩)) ?_
            refine steps_cons (by rintro b a w' ⟨ha, HI⟩ hb hon hoff; refine ⟨_, rfl, fun K hK => ?_⟩; have e58 := pon ha 4 (hon 4 rfl) rfl rfl rfl; obtain rfl := HI.n (hoff 13 rfl); exact value_ (v := .int .u8 px) (by rfl) rfl (by clear HI ha; go_simp) (hK.out _ _ ⟨upk ha 5 hb rfl rfl, HI.low (by decide)⟩)) ?_
            refine steps_cons (by rintro b a w' ⟨ha, HI⟩ hb hon hoff; refine ⟨_, rfl, fun K hK => ?_⟩; have e59 := pon ha 5 (hon 5 rfl) rfl rfl rfl; obtain rfl := HI.n (hoff 13 rfl); exact value_ (v := .int .i64 px) (by rfl) rfl (by clear HI ha; go_simp; exact HWX.out) (hK.out _ _ ⟨upk ha 6 hb rfl rfl, HI.low (by decide)⟩)) ?_
            refine steps_cons (by rintro b a w' ⟨ha, HI⟩ hb hon hoff; refine ⟨_, rfl, fun K hK => ?_⟩; have e0 := poff ha (t := 0) rfl rfl; obtain rfl := HI.n (hoff 13 rfl); exact value_ (v := .slice (some ⟨g, off, none⟩) len cap) (by rfl) rfl (by clear HI ha; go_simp) (hK.out _ _ ⟨upk ha 7 hb rfl rfl, HI.low (by decide)⟩)) ?_
            refine steps_cons (by rintro b a w' ⟨ha, HI⟩ hb hon hoff; refine ⟨_, rfl, fun K hK => ?_⟩; have e8 := poff ha (t := 8) rfl rfl; obtain rfl := HI.n (hoff 13 rfl); exact value_ (v := .int .i64 i) (by rfl) rfl (by clear HI ha; go_simp) (hK.out _ _ ⟨upk ha 8 hb rfl rfl, HI.low (by decide)⟩)) ?_
            refine steps_cons (by rintro b a w' ⟨ha, HI⟩ hb hon hoff; refine ⟨_, rfl, fun K hK => ?_⟩; have e61 := pon ha 7 (hon 7 rfl) rfl rfl rfl; have e62 := pon ha 8 (hon 8 rfl) rfl rfl rfl; obtain rfl := HI.n (hoff 13 rfl); exact value_ (v := .pointer (some ⟨g, off + i * 2, none⟩)) (by rfl) rfl (by clear HI ha; go_simp) (hK.out _ _ ⟨upk ha 9 hb rfl rfl, HI.low (by decide)⟩)) ?_
            refine steps_cons (by rintro b a w' ⟨ha, HI⟩ hb hon hoff; refine ⟨_, rfl, fun K hK => ?_⟩; have e63 := pon ha 9 (hon 9 rfl) rfl rfl rfl; obtain rfl := HI.n (hoff 13 rfl); exact value_ (v := .pointer (some ⟨g, off + i * 2 + 1, none⟩)) (by rfl) rfl (by clear HI ha; go_simp) (hK.out _ _ ⟨upk ha 10 hb rfl rfl, HI.low (by decide)⟩)) ?_
            refine steps_cons (by rintro b a w' ⟨ha, HI⟩ hb hon hoff; refine ⟨_, rfl, fun K hK => ?_⟩; have e64 := pon ha 10 (hon 10 rfl) rfl rfl rfl; obtain rfl := HI.n (hoff 13 rfl); exact value_ (v := .int .u8 py) (by rfl) rfl (by clear HI ha; go_simp) (hK.out _ _ ⟨upk ha 11 hb rfl rfl, HI.low (by decide)⟩)) ?_
            refine steps_cons (by rintro b a w' ⟨ha, HI⟩ hb hon hoff; refine ⟨_, rfl, fun K hK => ?_⟩; have e65 := pon ha 11 (hon 11 rfl) rfl rfl rfl; obtain rfl := HI.n (hoff 13 rfl); exact value_ (v := .int .i64 py) (by rfl) rfl (by clear HI ha; go_simp; exact HWY.out) (hK.out _ _ ⟨upk ha 12 hb rfl rfl, HI.low (by decide)⟩)) ?_
            refine steps_cons (by rintro b a w' ⟨ha, HI⟩ hb hon hoff; refine ⟨_, rfl, fun K hK => ?_⟩; have e54 := pon ha 0 (hon 0 rfl) rfl rfl rfl; have e60 := pon ha 6 (hon 6 rfl) rfl rfl rfl; have e66 := pon ha 12 (hon 12 rfl) rfl rfl rfl; obtain rfl := HI.n hb; refine goes_ Try.func9 (by kernel_rfl) rfl #[.pointer (some ⟨gb, 0, none⟩), .int .i64 px, .int .i64 py] (by rfl) rfl rfl (by simp [Act.eval, e54, e60, e66]) (CP.out.mono ?_); rintro e_ w'' ⟨rfl, hp_⟩; exact ⟨_, rfl, hK.out _ _ ⟨upk ha 13 hb rfl rfl, One.set hp_⟩⟩) ?_
            exact steps_nil
          · rintro b a w' hall ⟨ha, HI⟩
            have hb0_ := hall 0 rfl; have hb1_ := hall 1 rfl; have hb2_ := hall 2 rfl; have hb3_ := hall 3 rfl; have hb4_ := hall 4 rfl; have hb5_ := hall 5 rfl; have hb6_ := hall 6 rfl; have hb7_ := hall 7 rfl
            have hb8_ := hall 8 rfl; have hb9_ := hall 9 rfl; have hb10_ := hall 10 rfl; have hb11_ := hall 11 rfl; have hb12_ := hall 12 rfl; have hb13_ := hall 13 rfl
            subst ha
            simp only [putSel, hb0_, hb1_, hb2_, hb3_, hb4_, hb5_, hb6_, hb7_, hb8_, hb9_, hb10_, hb11_, hb12_, hb13_, if_true, Act.put, List.setIfInBounds_toArray, List.set_cons_zero, List.set_cons_succ]
            have HF := Side.mk (HI.y hb13_)
            clear hall HI hb0_ hb1_ hb2_ hb3_ hb4_ hb5_ hb6_ hb7_ hb8_ hb9_ hb10_ hb11_ hb12_ hb13_
            refine ‹∀ (a' : Act) (w' : World), Code.wp Try.prog _ _ a' w' → _› _ _ ?_
            obtain ⟨w3, hw3⟩ : ∃ w3 : World, w3 = w' := ⟨_, rfl⟩
            rw [← hw3] at HF ⊢
            clear hw3 CP c0 c1
            have HT3 : Side (Two w w3 ga gb (puts (pr V) (i + 1)) (putsN (pr V) id (i + 1))) := ⟨by
              rw [HN.out]
              exact HF.out.1.swap⟩
            have HNL : Side ((putsN (pr V) id (i + 1)).length = (putsN (pr V) id i).length + 1) := ⟨by rw [HN.out, putL_len]⟩
            clear HF HT2 HN
            go_wp2
            go_roundw
            case rel => exact ⟨i + 1, by simp, by omega, by rw [HNL.out]; simp; omega, ⟨HT3.out.below' (by (repeat (with_reducible first | exact Below.refl _ _ | apply below_drewN | apply below_drew | apply below_alloc)))⟩⟩
            case measure => simp [intOf]; omega
    · have hii : ¬ (i : Int) < len := by omega
      obtain rfl : i = len := by omega
      have HLA : Side (left id (puts (pr V) i) = putsN (pr V) id i) := ⟨left_puts (pr V) id i⟩
      have HPL : Side ((puts (pr V) i).length = i) := ⟨puts_len _ _⟩
      have HDU : Side (∀ xs : List It, (∀ x ∈ xs, x ∈ puts (pr V) i) → CaQ.due 300 xs = xs.length) := ⟨fun xs hx => due_all 300 xs (fun x hm => by
        obtain ⟨j, hj, rfl⟩ := puts_mem (pr V) i x (hx x hm)
        obtain ⟨_, _, _, _, _, _, _, h1, _⟩ := row_pr HROW.out HT.out.below j hj
        omega)⟩
      have HMB : Side (∀ x ∈ putsN (pr V) id i, x ∈ puts (pr V) i) := ⟨fun x hx => by rw [← HLA.out] at hx; exact (List.mem_filter.1 hx).1⟩
      generalize puts (pr V) i = A at *
      generalize putsN (pr V) id i = Bs at *
      obtain ⟨m, hm⟩ : ∃ m, m = Bs.length := ⟨_, rfl⟩
      rw [← hm] at hn1 ⊢
      have HM := Side.mk hm
      clear hm
      have hmm : ((i : Int) - m) ≤ 100 := by omega
      have HLL : Side (left id Bs = Bs) := ⟨by rw [← HLA.out, left_left]⟩
      have HDB : Side (CaQ.due 300 Bs = m) := ⟨by rw [HDU.out Bs HMB.out, HM.out]⟩
      have HML : Side (Bs.length ≤ 100) := ⟨by have := HM.out; omega⟩
      clear HDU HMB
      go_wp2_with fail
      refine (Drop_two HT.out (by rw [HPL.out]; omega) id Bs HLA.out ((i : Int) - m) (by rw [HPL.out, HM.out])).mono ?_
      rintro e w2 ⟨rfl, t2, -⟩
      have T2 := Side.mk t2
      clear t2 HT HLA HPL
      go_wp2_with fail
      refine (Drop_two (T2.out.below' (by (repeat (with_reducible first | exact Below.refl _ _ | apply below_drewN | apply below_drew | apply below_alloc)))) (by have := HML.out; omega) id Bs HLL.out 0 (by omega)).mono ?_
      rintro e w3 ⟨rfl, t3, -⟩
      have T3 := Side.mk t3
      clear t3 T2 HLL
      go_wp2_with fail
      refine (Len_two (T3.out.below' (by (repeat (with_reducible first | exact Below.refl _ _ | apply below_drewN | apply below_drew | apply below_alloc)))) m HM.out.symm).mono ?_
      rintro e w4 ⟨rfl, hb⟩
      have T4 := Side.mk ((T3.out.below' (by (repeat (with_reducible first | exact Below.refl _ _ | apply below_drewN | apply below_drew | apply below_alloc)))).below' hb)
      clear hb T3
      go_wp2_with fail
      refine (Len_two (T4.out.below' (by (repeat (with_reducible first | exact Below.refl _ _ | apply below_drewN | apply below_drew | apply below_alloc)))).swap m HM.out.symm).mono ?_
      rintro e w5 ⟨rfl, hb⟩
      have T5 := Side.mk ((T4.out.below' (by (repeat (with_reducible first | exact Below.refl _ _ | apply below_drewN | apply below_drew | apply below_alloc)))).below' hb)
      clear hb T4
      go_wp2_with fail
      refine (Due_two (T5.out.below' (by (repeat (with_reducible first | exact Below.refl _ _ | apply below_drewN | apply below_drew | apply below_alloc)))) (by have := HML.out; omega) 300 m HDB.out).mono ?_
      rintro e w6 ⟨vx, rfl, hx, t6, -⟩
      have T6 := Side.mk t6
      have X6 := Side.mk hx
      obtain ⟨ax, cx, rfl⟩ := IRow.shape hx
      clear t6 T5 hx
      go_wp2_with fail
      refine (Due_two (T6.out.below' (by (repeat (with_reducible first | exact Below.refl _ _ | apply below_drewN | apply below_drew | apply below_alloc)))).swap (by have := HML.out; omega) 300 m HDB.out).mono ?_
      rintro e w7 ⟨vy, rfl, hy, t7, f7⟩
      have T7 := Side.mk t7.below
      have X7 := Side.mk (IRow.fr (IRow.below X6.out (by (repeat (with_reducible first | exact Below.refl _ _ | apply below_drewN | apply below_drew | apply below_alloc)))) f7)
      have Y7 := Side.mk hy
      obtain ⟨ay, cy, rfl⟩ := IRow.shape hy
      have HIL : Side ((ids (List.take m Bs)).length = m) := ⟨ids_len Bs m (by have := HM.out; omega)⟩
      obtain ⟨zs, hzs⟩ : ∃ zs, zs = ids (List.take m Bs) := ⟨_, rfl⟩
      rw [← hzs] at X7 Y7 HIL ⊢
      rw [HIL.out] at X7 Y7
      clear t7 f7 hy T6 X6 hzs HM HML HDB
      rw [HIL.out]
      go_wp2_with fail
      have hm9 : (m : Int) ≤ 100 := by omega
      go_loopw [11] (fun v11 wr => ∃ j : Nat, v11 = .int .i64 (j : Int) ∧ j ≤ m ∧ Side (Below w7.heap.size w7 wr)) (fun v11 _ => (m - intOf v11).toNat)
      case atStart => exact ⟨0, rfl, Nat.zero_le _, ⟨(by (repeat (with_reducible first | exact Below.refl _ _ | apply below_drewN | apply below_drew | apply below_alloc)))⟩⟩
      case round =>
        obtain ⟨j, rfl, hj, HB⟩ := hrel
        have hj0 : (0 : Int) ≤ j := by omega
        obtain ⟨wo, hwo⟩ : ∃ wo : World, wo = wr := ⟨_, rfl⟩
        rw [← hwo] at HB ⊢
        clear hwo
        by_cases hjm : j < m
        · have hjj : (j : Int) < m := by omega
          obtain ⟨z, hz⟩ : ∃ z, zs[j]? = some z := ⟨_, List.getElem?_eq_getElem (by have := HIL.out; omega)⟩
          obtain ⟨g1, rfl, c0⟩ : ∃ g1, ax = some ⟨g1, 0, none⟩ ∧ wo.cell? ⟨g1, j, none⟩ = some (.int .i64 z) := by
            rcases (IRow.below X7.out HB.out).read with ⟨_, h0⟩ | ⟨g, cp, hv, _, hg, _, _, hr⟩
            · rw [h0] at hz; simp at hz
            · simp at hv
              exact ⟨g, hv.1, hr j z hz⟩
          obtain ⟨g2, rfl, c1⟩ : ∃ g2, ay = some ⟨g2, 0, none⟩ ∧ wo.cell? ⟨g2, j, none⟩ = some (.int .i64 z) := by
            rcases (IRow.below Y7.out HB.out).read with ⟨_, h0⟩ | ⟨g, cp, hv, _, hg, _, _, hr⟩
            · rw [h0] at hz; simp at hz
            · simp at hv
              exact ⟨g, hv.1, hr j z hz⟩
          clear hz
          go_upto_region 24 with (fail)
          go_cut [111] (fun v we => v = .bool false ∧ Side (Below wo.heap.size wo we))
          case first =>
            go_quiet (fail)
            refine ‹∀ (a' : Act) (w' : World), Met _ a' w' → _› _ _ ?_
            go_meet
            case rel => exact ⟨by simp, ⟨below_drewN (Below.refl _ _) nq⟩⟩
          case rest =>
          obtain ⟨rfl, HC⟩ := hcut
          have HB2 := Side.mk (below_then HB.out HB.out.size HC.out)
          clear HC HB c0 c1
          go_step
          go_wp2
          go_roundw
          case rel => exact ⟨j + 1, by simp, by omega, HB2⟩
          case measure => simp [intOf]; omega
        · have hjj : ¬ (j : Int) < m := by omega
          have HF := Side.mk (T7.out.trans (HB.out.mono T7.out.size))
          go_wp2
          go_ret
          exact ⟨rfl, HF.out⟩
end Go.Proofs.Ytbppjaglgbhckaa.CaU
