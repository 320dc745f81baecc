/- Package calendar: CalendarTurns. No condition. -/
import Derived.Test.YtbppjaglgbhckaaCaV
set_option linter.unusedVariables false
set_option linter.unusedSimpArgs false
namespace Go.Proofs.Ytbppjaglgbhckaa.CaW
open Go.RowKit Go.Proofs.Ytbppjaglgbhckaa.Kit Go.Proofs.Ytbppjaglgbhckaa.Kit2 Go.Proofs.Ytbppjaglgbhckaa.Kit4 Go.Proofs.Ytbppjaglgbhckaa.CaA Go.Proofs.Ytbppjaglgbhckaa.CaB Go.Proofs.Ytbppjaglgbhckaa.CaC Go.Proofs.Ytbppjaglgbhckaa.CaD Go.Proofs.Ytbppjaglgbhckaa.CaF Go.Proofs.Ytbppjaglgbhckaa.CaG Go.Proofs.Ytbppjaglgbhckaa.CaH Go.Proofs.Ytbppjaglgbhckaa.CaI Go.Proofs.Ytbppjaglgbhckaa.CaJ Go.Proofs.Ytbppjaglgbhckaa.CaK Go.Proofs.Ytbppjaglgbhckaa.CaL Go.Proofs.Ytbppjaglgbhckaa.CaM Go.Proofs.Ytbppjaglgbhckaa.CaN Go.Proofs.Ytbppjaglgbhckaa.CaO Go.Proofs.Ytbppjaglgbhckaa.CaP Go.Proofs.Ytbppjaglgbhckaa.CaQ Go.Proofs.Ytbppjaglgbhckaa.CaR Go.Proofs.Ytbppjaglgbhckaa.CaT Go.Proofs.Ytbppjaglgbhckaa.CaV
open Go.Proofs.YtbppjaglgbhckaaW.PrintLast
set_option maxHeartbeats 16000000 in
set_option maxRecDepth 100000 in
theorem walk (a : Option Addr) (len cap : Nat) (V : Nat → Nat → Value) (w : World) (hrow : InRow UK w a len V) (hlen : len ≤ maxLen) :
    Calls Try.prog 3 #[.slice a len cap] w fun r w' => r = .returned (.bool true) ∧ Below w.heap.size w w' := by
  have HROW := Side.mk hrow
  have hl : (len : Int) ≤ 9223372036854775807 := by unfold maxLen at hlen; omega
  clear hrow hlen
  by_cases hbig : 100 < len
  · have hb3 : (100 : Int) < len := by omega
    clear hbig
    go_enter Try.func3, Try.ntmps3
    go_wp2_with fail
    refine (awake_at _).mono ?_
    rintro e w1 ⟨rfl, hb⟩
    have HB := Side.mk hb
    clear hb
    go_wp2
    go_ret
    exact ⟨rfl, HB.out⟩
  have hb3 : ¬ (100 : Int) < len := by omega
  have hb4 : (len : Int) ≤ 100 := by omega
  go_enter Try.func3, Try.ntmps3
  go_wp2_with fail
  refine (awake_at _).mono ?_
  rintro e wa ⟨rfl, hb⟩
  have HB := Side.mk hb
  clear hb
  go_wp2_with fail
  refine (New_at _).mono ?_
  rintro e w1 ⟨rfl, rfl⟩
  go_wp2_with fail
  refine (New_at _).mono ?_
  rintro e w1 ⟨rfl, rfl⟩
  have T0 := Side.mk (Two.start HB.out)
  rw [show (wa.alloc (.cells #[.slice none 0 0] 42)).heap.size = wa.heap.size + 1 by simp]
  obtain ⟨ga, hga⟩ : ∃ ga, ga = wa.heap.size := ⟨_, rfl⟩
  obtain ⟨gb, hgb⟩ : ∃ gb, gb = wa.heap.size + 1 := ⟨_, rfl⟩
  rw [← hgb, ← hga] at T0 ⊢
  clear hga hgb HB
  generalize (wa.alloc (.cells #[.slice none 0 0] 42)).alloc _ = w1 at *
  go_wp2_with fail
  go_loopw [5] (fun v5 wr => ∃ i : Nat, v5 = .int .i64 (i : Int) ∧ i ≤ len ∧ Side (Two w wr ga gb (puts (pr V) i) (puts (pr V) i))) (fun v5 _ => (len - intOf v5).toNat)
  case atStart => exact ⟨0, rfl, Nat.zero_le _, T0⟩
  case round =>
    clear T0
    obtain ⟨i, rfl, hi, HT⟩ := hrel
    have hi0 : (0 : Int) ≤ i := by omega
    have hi9 : (i : Int) ≤ 100 := by omega
    obtain ⟨wo, hwo⟩ : ∃ wo : World, wo = wr := ⟨_, rfl⟩
    rw [← hwo] at HT ⊢
    clear hwo
    by_cases hin : i < len
    · have hii : (i : Int) < len := by omega
      obtain ⟨g, off, rfl, hgl, c0, c1, x0, x1, y0, y1⟩ := row_pr HROW.out HT.out.below i hin
      obtain ⟨p, hp⟩ : ∃ p, p = pr V i := ⟨_, rfl⟩
      rw [← hp] at c0 c1 x0 x1 y0 y1
      have HP := Side.mk hp
      obtain ⟨px, py⟩ := p
      simp only at x0 x1 y0 y1
      have c0 : wo.cell? ⟨g, off + i * 2, none⟩ = some (.int .u8 px) := c0
      have c1 : wo.cell? ⟨g, off + i * 2 + 1, none⟩ = some (.int .u8 py) := c1
      clear hp
      have HWX : Side (IntKind.i64.wrap px = px) := ⟨by rw [IntKind.wrap_i64]; omega⟩
      have HWY : Side (IntKind.i64.wrap py = py) := ⟨by rw [IntKind.wrap_i64]; omega⟩
      have CP := Side.mk (Put_two (HT.out.below' (below_drew (Below.refl _ _))) (by rw [puts_len]; omega) px py)
      go_upto_region 11 with (fail)
      refine start_ (n := 14) (S := fun w' => True) (ds := []) #[false, false, false, false, false, false, false, false, false, false, false, false, false, false] (by kernel_rfl) rfl rfl trivial (fun _ => ?_)
      refine inv_at (B := [0, 0, 0, 6, 14, 30, 62, 0, 0, 384, 896, 1920, 3968, 8191]) [0, 1, 2, 3, 4, 5, 6, 7, 8, 9, 10, 11, 12, 13] (fun a0_ b a w' => a = putSel a0_ b [(0, 33, .pointer (some ⟨ga, 0, none⟩)), (1, 34, .slice (some ⟨g, off, none⟩) len cap), (2, 35, .int .i64 i), (3, 36, .pointer (some ⟨g, off + i * 2, none⟩)), (4, 37, .pointer (some ⟨g, off + i * 2, none⟩)), (5, 38, .int .u8 px), (6, 39, .int .i64 px), (7, 40, .slice (some ⟨g, off, none⟩) len cap), (8, 41, .int .i64 i), (9, 42, .pointer (some ⟨g, off + i * 2, none⟩)), (10, 43, .pointer (some ⟨g, off + i * 2 + 1, none⟩)), (11, 44, .int .u8 py), (12, 45, .int .i64 py), (13, 46, .tuple #[])] ∧ One wo.drew (fun w' => Two w w' ga gb (putL (puts (pr V) i) (px, py)) (puts (pr V) i) ∧ Fr F0 wo.drew w') 13 b w') rfl (by kernel_rfl) (by kernel_rfl) (by kernel_rfl) ?_ ?_ ?_
      · exact ⟨by simp only [putSel, Bool.false_eq_true, if_false], One.start⟩
      · refine steps_cons (by rintro b a w' ⟨ha, HI⟩ hb hon hoff; refine ⟨_, rfl, fun K hK => ?_⟩; have e3 := poff ha (t := 3) rfl rfl; obtain rfl := HI.n (hoff 13 rfl); exact value_ (v := .pointer (some ⟨ga, 0, none⟩)) (by rfl) rfl (by clear HI ha; go_simp) (hK.out _ _ ⟨upk ha 0 hb rfl rfl, HI.low (by decide)⟩)) ?_
        refine steps_cons (by rintro b a w' ⟨ha, HI⟩ hb hon hoff; refine ⟨_, rfl, fun K hK => ?_⟩; have e0 := poff ha (t := 0) rfl rfl; obtain rfl := HI.n (hoff 13 rfl); exact value_ (v := .slice (some ⟨g, off, none⟩) len cap) (by rfl) rfl (by clear HI ha; go_simp) (hK.out _ _ ⟨upk ha 1 hb rfl rfl, HI.low (by decide)⟩)) ?_
        refine steps_cons (by rintro b a w' ⟨ha, HI⟩ hb hon hoff; refine ⟨_, rfl, fun K hK => ?_⟩; have e5 := poff ha (t := 5) rfl rfl; obtain rfl := HI.n (hoff 13 rfl); exact value_ (v := .int .i64 i) (by rfl) rfl (by clear HI ha; go_simp) (hK.out _ _ ⟨upk ha 2 hb rfl rfl, HI.low (by decide)⟩)) ?_
        refine steps_cons (by rintro b a w' ⟨ha, HI⟩ hb hon hoff; refine ⟨_, rfl, fun K hK => ?_⟩; have e34 := pon ha 1 (hon 1 rfl) rfl rfl rfl; have e35 := pon ha 2 (hon 2 rfl) rfl rfl rfl; obtain rfl := HI.n (hoff 13 rfl); exact value_ (v := .pointer (some ⟨g, off + i * 2, none⟩)) (by rfl) rfl (by clear HI ha; go_simp) (hK.out _ _ ⟨upk ha 3 hb rfl rfl, HI.low (by decide)⟩)) ?_
        refine steps_cons (by rintro b a w' ⟨ha, HI⟩ hb hon hoff; refine ⟨_, rfl, fun K hK => ?_⟩; have e36 := pon ha 3 (hon 3 rfl) rfl rfl rfl; obtain rfl := HI.n (hoff 13 rfl); exact value_ (v := .pointer (some ⟨g, off + i * 2, none⟩)) (by rfl) rfl (by clear HI ha; go_simp) (hK.out _ _ ⟨upk ha 4 hb rfl rfl, HI.low (by decide)⟩)) ?_
        refine steps_cons (by rintro b a w' ⟨ha, HI⟩ hb hon hoff; refine ⟨_, rfl, fun K hK => ?_⟩; have e37 := pon ha 4 (hon 4 rfl) rfl rfl rfl; obtain rfl := HI.n (hoff 13 rfl); exact value_ (v := .int .u8 px) (by rfl) rfl (by clear HI ha; go_simp) (hK.out _ _ ⟨upk ha 5 hb rfl rfl, HI.low (by decide)⟩)) ?_
        refine steps_cons (by rintro b a w' ⟨ha, HI⟩ hb hon hoff; refine ⟨_, rfl, fun K hK => ?_⟩; have e38 := pon ha 5 (hon 5 rfl) rfl rfl rfl; obtain rfl := HI.n (hoff 13 rfl); exact value_ (v := .int .i64 px) (by rfl) rfl (by clear HI ha; go_simp; exact HWX.out) (hK.out _ _ ⟨upk ha 6 hb rfl rfl, HI.low (by decide)⟩)) ?_
        refine steps_cons (by rintro b a w' ⟨ha, HI⟩ hb hon hoff; refine ⟨_, rfl, fun K hK => ?_⟩; have e0 := poff ha (t := 0) rfl rfl; obtain rfl := HI.n (hoff 13 rfl); exact value_ (v := .slice (some ⟨g, off, none⟩) len cap) (by rfl) rfl (by clear HI ha; go_simp) (hK.out _ _ ⟨upk ha 7 hb rfl rfl, HI.low (by decide)⟩)) ?_
        refine steps_cons (by rintro b a w' ⟨ha, HI⟩ hb hon hoff; refine ⟨_, rfl, fun K hK => ?_⟩; have e5 := poff ha (t := 5) rfl rfl; obtain rfl := HI.n (hoff 13 rfl); exact value_ (v := .int .i64 i) (by rfl) rfl (by clear HI ha; go_simp) (hK.out _ _ ⟨upk ha 8 hb rfl rfl, HI.low (by decide)⟩)) ?_
        refine steps_cons (by rintro b a w' ⟨ha, HI⟩ hb hon hoff; refine ⟨_, rfl, fun K hK => ?_⟩; have e40 := pon ha 7 (hon 7 rfl) rfl rfl rfl; have e41 := pon ha 8 (hon 8 rfl) rfl rfl rfl; obtain rfl := HI.n (hoff 13 rfl); exact value_ (v := .pointer (some ⟨g, off + i * 2, none⟩)) (by rfl) rfl (by clear HI ha; go_simp) (hK.out _ _ ⟨upk ha 9 hb rfl rfl, HI.low (by decide)⟩)) ?_
        refine steps_cons (by rintro b a w' ⟨ha, HI⟩ hb hon hoff; refine ⟨_, rfl, fun K hK => ?_⟩; have e42 := pon ha 9 (hon 9 rfl) rfl rfl rfl; obtain rfl := HI.n (hoff 13 rfl); exact value_ (v := .pointer (some ⟨g, off + i * 2 + 1, none⟩)) (by rfl) rfl (by clear HI ha; go_simp) (hK.out _ _ ⟨upk ha 10 hb rfl rfl, HI.low (by decide)⟩)) ?_
        refine steps_cons (by rintro b a w' ⟨ha, HI⟩ hb hon hoff; refine ⟨_, rfl, fun K hK => ?_⟩; have e43 := pon ha 10 (hon 10 rfl) rfl rfl rfl; obtain rfl := HI.n (hoff 13 rfl); exact value_ (v := .int .u8 py) (by rfl) rfl (by clear HI ha; go_simp) (hK.out _ _ ⟨upk ha 11 hb rfl rfl, HI.low (by decide)⟩)) ?_
        refine steps_cons (by rintro b a w' ⟨ha, HI⟩ hb hon hoff; refine ⟨_, rfl, fun K hK => ?_⟩; have e44 := pon ha 11 (hon 11 rfl) rfl rfl rfl; obtain rfl := HI.n (hoff 13 rfl); exact value_ (v := .int .i64 py) (by rfl) rfl (by clear HI ha; go_simp; exact HWY.out) (hK.out _ _ ⟨upk ha 12 hb rfl rfl, HI.low (by decide)⟩)) ?_
        refine steps_cons (by rintro b a w' ⟨ha, HI⟩ hb hon hoff; refine ⟨_, rfl, fun K hK => ?_⟩; have e33 := pon ha 0 (hon 0 rfl) rfl rfl rfl; have e39 := pon ha 6 (hon 6 rfl) rfl rfl rfl; have e45 := pon ha 12 (hon 12 rfl) rfl rfl rfl; obtain rfl := HI.n hb; refine goes_ Try.func9 (by kernel_rfl) rfl #[.pointer (some ⟨ga, 0, none⟩), .int .i64 px, .int .i64 py] (by rfl) rfl rfl (by simp [Act.eval, e33, e39, e45]) (CP.out.mono ?_); rintro e_ w'' ⟨rfl, hp_⟩; exact ⟨_, rfl, hK.out _ _ ⟨upk ha 13 hb rfl rfl, One.set hp_⟩⟩) ?_
        exact steps_nil
      · rintro b a w' hall ⟨ha, HI⟩
        have hb0_ := hall 0 rfl; have hb1_ := hall 1 rfl; have hb2_ := hall 2 rfl; have hb3_ := hall 3 rfl; have hb4_ := hall 4 rfl; have hb5_ := hall 5 rfl; have hb6_ := hall 6 rfl; have hb7_ := hall 7 rfl
        have hb8_ := hall 8 rfl; have hb9_ := hall 9 rfl; have hb10_ := hall 10 rfl; have hb11_ := hall 11 rfl; have hb12_ := hall 12 rfl; have hb13_ := hall 13 rfl
        subst ha
        simp only [putSel, hb0_, hb1_, hb2_, hb3_, hb4_, hb5_, hb6_, hb7_, hb8_, hb9_, hb10_, hb11_, hb12_, hb13_, if_true, Act.put, List.setIfInBounds_toArray, List.set_cons_zero, List.set_cons_succ]
        have HF := Side.mk (HI.y hb13_)
        clear hall HI hb0_ hb1_ hb2_ hb3_ hb4_ hb5_ hb6_ hb7_ hb8_ hb9_ hb10_ hb11_ hb12_ hb13_
        refine ‹∀ (a' : Act) (w' : World), Code.wp Try.prog _ _ a' w' → _› _ _ ?_
        obtain ⟨w2, hw2⟩ : ∃ w2 : World, w2 = w' := ⟨_, rfl⟩
        rw [← hw2] at HF ⊢
        clear hw2 CP
        have HT2 : Side (Two w w2 ga gb (puts (pr V) (i + 1)) (puts (pr V) i)) := ⟨by
          have := HF.out.1
          rw [HP.out] at this
          exact this⟩
        clear HF HT c0 c1
        obtain ⟨g', off', he, hgl2, c0, c1, -⟩ := row_pr HROW.out HT2.out.below i hin
        obtain ⟨rfl, rfl⟩ : g = g' ∧ off = off' := by simpa using he
        rw [← HP.out] at c0 c1
        have c0 : w2.cell? ⟨g, off + i * 2, none⟩ = some (.int .u8 px) := c0
        have c1 : w2.cell? ⟨g, off + i * 2 + 1, none⟩ = some (.int .u8 py) := c1
        clear he
        have CP := Side.mk (Put_two (HT2.out.swap.below' (below_drew (Below.refl _ _))) (by rw [puts_len]; omega) px py)
        go_upto_region 12 with (fail)
        refine start_ (n := 14) (S := fun w' => True) (ds := []) #[false, false, false, false, false, false, false, false, false, false, false, false, false, false] (by kernel_rfl) rfl rfl trivial (fun _ => ?_)
        refine inv_at (B := [0, 0, 0, 6, 14, 30, 62, 0, 0, 384, 896, 1920, 3968, 8191]) [0, 1, 2, 3, 4, 5, 6, 7, 8, 9, 10, 11, 12, 13] (fun a0_ b a w' => a = putSel a0_ b [(0, 47, .pointer (some ⟨gb, 0, none⟩)), (1, 48, .slice (some ⟨g, off, none⟩) len cap), (2, 49, .int .i64 i), (3, 50, .pointer (some ⟨g, off + i * 2, none⟩)), (4, 51, .pointer (some ⟨g, off + i * 2, none⟩)), (5, 52, .int .u8 px), (6, 53, .int .i64 px), (7, 54, .slice (some ⟨g, off, none⟩) len cap), (8, 55, .int .i64 i), (9, 56, .pointer (some ⟨g, off + i * 2, none⟩)), (10, 57, .pointer (some ⟨g, off + i * 2 + 1, none⟩)), (11, 58, .int .u8 py), (12, 59, .int .i64 py), (13, 60, .tuple #[])] ∧ One w2.drew (fun w' => Two w w' gb ga (putL (puts (pr V) i) (px, py)) (puts (pr V) (i + 1)) ∧ Fr F0 w2.drew w') 13 b w') rfl (by kernel_rfl) (by kernel_rfl) (by kernel_rfl) ?_ ?_ ?_
        · exact ⟨by simp only [putSel, Bool.false_eq_true, if_false], One.start⟩
        · refine steps_cons (by rintro b a w' ⟨ha, HI⟩ hb hon hoff; refine ⟨_, rfl, fun K hK => ?_⟩; have e4 := poff ha (t := 4) rfl rfl; obtain rfl := HI.n (hoff 13 rfl); exact value_ (v := .pointer (some ⟨gb, 0, none⟩)) (by rfl) rfl (by clear HI ha; go_simp) (hK.out _ _ ⟨upk ha 0 hb rfl rfl, HI.low (by decide)⟩)) ?_
          refine steps_cons (by rintro b a w' ⟨ha, HI⟩ hb hon hoff; refine ⟨_, rfl, fun K hK => ?_⟩; have e0 := poff ha (t := 0) rfl rfl; obtain rfl := HI.n (hoff 13 rfl); exact value_ (v := .slice (some ⟨g, off, none⟩) len cap) (by rfl) rfl (by clear HI ha; go_simp) (hK.out _ _ ⟨upk ha 1 hb rfl rfl, HI.low (by decide)⟩)) ?_
          refine steps_cons (by rintro b a w' ⟨ha, HI⟩ hb hon hoff; refine ⟨_, rfl, fun K hK => ?_⟩; have e5 := poff ha (t := 5) rfl rfl; obtain rfl := HI.n (hoff 13 rfl); exact value_ (v := .int .i64 i) (by rfl) rfl (by clear HI ha; go_simp) (hK.out _ _ ⟨upk ha 2 hb rfl rfl, HI.low (by decide)⟩)) ?_
          refine steps_cons (by rintro b a w' ⟨ha, HI⟩ hb hon hoff; refine ⟨_, rfl, fun K hK => ?_⟩; have e48 := pon ha 1 (hon 1 rfl) rfl rfl rfl; have e49 := pon ha 2 (hon 2 rfl) rfl rfl rfl; obtain rfl := HI.n (hoff 13 rfl); exact value_ (v := .pointer (some ⟨g, off + i * 2, none⟩)) (by rfl) rfl (by clear HI ha; go_simp) (hK.out _ _ ⟨upk ha 3 hb rfl rfl, HI.low (by decide)⟩)) ?_
          refine steps_cons (by rintro b a w' ⟨ha, HI⟩ hb hon hoff; refine ⟨_, rfl, fun K hK => ?_⟩; have e50 := pon ha 3 (hon 3 rfl) rfl rfl rfl; obtain rfl := HI.n (hoff 13 rfl); exact value_ (v := .pointer (some ⟨g, off + i * 2, none⟩)) (by rfl) rfl (by clear HI ha; go_simp) (hK.out _ _ ⟨upk ha 4 hb rfl rfl, HI.low (by decide)⟩)) ?_
          refine steps_cons (by rintro b a w' ⟨ha, HI⟩ hb hon hoff; refine ⟨_, rfl, fun K hK => ?_⟩; have e51 := pon ha 4 (hon 4 rfl) rfl rfl rfl; obtain rfl := HI.n (hoff 13 rfl); exact value_ (v := .int .u8 px) (by rfl) rfl (by clear HI ha; go_simp) (hK.out _ _ ⟨upk ha 5 hb rfl rfl, HI.low (by decide)⟩)) ?_
          refine steps_cons (by rintro b a w' ⟨ha, HI⟩ hb hon hoff; refine ⟨_, rfl, fun K hK => ?_⟩; have e52 := pon ha 5 (hon 5 rfl) rfl rfl rfl; obtain rfl := HI.n (hoff 13 rfl); exact value_ (v := .int .i64 px) (by rfl) rfl (by clear HI ha; go_simp; exact HWX.out) (hK.out _ _ ⟨upk ha 6 hb rfl rfl, HI.low (by decide)⟩)) ?_
          refine steps_cons (by rintro b a w' ⟨ha, HI⟩ hb hon hoff; refine ⟨_, rfl, fun K hK => ?_⟩; have e0 := poff ha (t := 0) rfl rfl; obtain rfl := HI.n (hoff 13 rfl); exact value_ (v := .slice (some ⟨g, off, none⟩) len cap) (by rfl) rfl (by clear HI ha; go_simp) (hK.out _ _ ⟨upk ha 7 hb rfl rfl, HI.low (by decide)⟩)) ?_
          refine steps_cons (by rintro b a w' ⟨ha, HI⟩ hb hon hoff; refine ⟨_, rfl, fun K hK => ?_⟩; have e5 := poff ha (t := 5) rfl rfl; obtain rfl := HI.n (hoff 13 rfl); exact value_ (v := .int .i64 i) (by rfl) rfl (by clear HI ha; go_simp) (hK.out _ _ ⟨upk ha 8 hb rfl rfl, HI.low (by decide)⟩)) ?_
          refine steps_cons (by rintro b a w' ⟨ha, HI⟩ hb hon hoff; refine ⟨_, rfl, fun K hK => ?_⟩; have e54 := pon ha 7 (hon 7 rfl) rfl rfl rfl; have e55 := pon ha 8 (hon 8 rfl) rfl rfl rfl; obtain rfl := HI.n (hoff 13 rfl); exact value_ (v := .pointer (some ⟨g, off + i * 2, none⟩)) (by rfl) rfl (by clear HI ha; go_simp) (hK.out _ _ ⟨upk ha 9 hb rfl rfl, HI.low (by decide)⟩)) ?_
          refine steps_cons (by rintro b a w' ⟨ha, HI⟩ hb hon hoff; refine ⟨_, rfl, fun K hK => ?_⟩; have e56 := pon ha 9 (hon 9 rfl) rfl rfl rfl; obtain rfl := HI.n (hoff 13 rfl); exact value_ (v := .pointer (some ⟨g, off + i * 2 + 1, none⟩)) (by rfl) rfl (by clear HI ha; go_simp) (hK.out _ _ ⟨upk ha 10 hb rfl rfl, HI.low (by decide)⟩)) ?_
          refine steps_cons (by rintro b a w' ⟨ha, HI⟩ hb hon hoff; refine ⟨_, rfl, fun K hK => ?_⟩; have e57 := pon ha 10 (hon 10 rfl) rfl rfl rfl; obtain rfl := HI.n (hoff 13 rfl); exact value_ (v := .int .u8 py) (by rfl) rfl (by clear HI ha; go_simp) (hK.out _ _ ⟨upk ha 11 hb rfl rfl, HI.low (by decide)⟩)) ?_
          refine steps_cons (by rintro b a w' ⟨ha, HI⟩ hb hon hoff; refine ⟨_, rfl, fun K hK => ?_⟩; have e58 := pon ha 11 (hon 11 rfl) rfl rfl rfl; obtain rfl := HI.n (hoff 13 rfl); exact value_ (v := .int .i64 py) (by rfl) rfl (by clear HI ha; go_simp; exact HWY.out) (hK.out _ _ ⟨upk ha 12 hb rfl rfl, HI.low (by decide)⟩)) ?_
          refine steps_cons (by rintro b a w' ⟨ha, HI⟩ hb hon hoff; refine ⟨_, rfl, fun K hK => ?_⟩; have e47 := pon ha 0 (hon 0 rfl) rfl rfl rfl; have e53 := pon ha 6 (hon 6 rfl) rfl rfl rfl; have e59 := pon ha 12 (hon 12 rfl) rfl rfl rfl; obtain rfl := HI.n hb; refine goes_ Try.func9 (by kernel_rfl) rfl #[.pointer (some ⟨gb, 0, none⟩), .int .i64 px, .int .i64 py] (by rfl) rfl rfl (by simp [Act.eval, e47, e53, e59]) (CP.out.mono ?_); rintro e_ w'' ⟨rfl, hp_⟩; exact ⟨_, rfl, hK.out _ _ ⟨upk ha 13 hb rfl rfl, One.set hp_⟩⟩) ?_
          exact steps_nil
        · rintro b a w' hall ⟨ha, HI⟩
          have hb0_ := hall 0 rfl; have hb1_ := hall 1 rfl; have hb2_ := hall 2 rfl; have hb3_ := hall 3 rfl; have hb4_ := hall 4 rfl; have hb5_ := hall 5 rfl; have hb6_ := hall 6 rfl; have hb7_ := hall 7 rfl
          have hb8_ := hall 8 rfl; have hb9_ := hall 9 rfl; have hb10_ := hall 10 rfl; have hb11_ := hall 11 rfl; have hb12_ := hall 12 rfl; have hb13_ := hall 13 rfl
          subst ha
          simp only [putSel, hb0_, hb1_, hb2_, hb3_, hb4_, hb5_, hb6_, hb7_, hb8_, hb9_, hb10_, hb11_, hb12_, hb13_, if_true, Act.put, List.setIfInBounds_toArray, List.set_cons_zero, List.set_cons_succ]
          have HF := Side.mk (HI.y hb13_)
          clear hall HI hb0_ hb1_ hb2_ hb3_ hb4_ hb5_ hb6_ hb7_ hb8_ hb9_ hb10_ hb11_ hb12_ hb13_
          refine ‹∀ (a' : Act) (w' : World), Code.wp Try.prog _ _ a' w' → _› _ _ ?_
          obtain ⟨w3, hw3⟩ : ∃ w3 : World, w3 = w' := ⟨_, rfl⟩
          rw [← hw3] at HF ⊢
          clear hw3 CP c0 c1
          have HT3 : Side (Two w w3 ga gb (puts (pr V) (i + 1)) (puts (pr V) (i + 1))) := ⟨by
            have := HF.out.1
            rw [HP.out] at this
            exact this.swap⟩
          clear HF HT2
          go_wp2
          go_roundw
          case rel => exact ⟨i + 1, by simp, by omega, ⟨HT3.out.below' (by (repeat (with_reducible first | exact Below.refl _ _ | apply below_drewN | apply below_drew | apply below_alloc)))⟩⟩
          case measure => simp [intOf]; omega
    · have hii : ¬ (i : Int) < len := by omega
      obtain rfl : i = len := by omega
      have HS : Side (Srt (puts (pr V) i)) := ⟨puts_srt _ _⟩
      have HPL : Side ((puts (pr V) i).length = i) := ⟨puts_len _ _⟩
      have HMX : Side (∀ j, j < i → 0 ≤ (pr V j).1 ∧ (pr V j).1 ≤ 255 ∧ 0 ≤ (pr V j).2 ∧ (pr V j).2 ≤ 255) := ⟨fun j hj => by
        obtain ⟨_, _, _, _, _, _, h⟩ := row_pr HROW.out HT.out.below j hj
        exact h⟩
      have HM : Side (∀ x ∈ puts (pr V) i, ∃ j, j < i ∧ x = pr V j) := ⟨puts_mem (pr V) i⟩
      generalize puts (pr V) i = S at *
      go_wp2_with fail
      go_loopw [6, 7] (fun v6 v7 wr => ∃ t k : Nat, v7 = .int .i64 (t : Int) ∧ t ≤ 256 ∧ Side (Upto S t k) ∧ Side (IRow wr w.heap.size v6 (ids (S.take k))) ∧ Side (Two w wr ga gb (S.drop k) S)) (fun _ v7 _ => (256 - intOf v7).toNat)
      case atStart => exact ⟨0, 0, rfl, by omega, ⟨Upto.zero (fun y hy => by obtain ⟨j, hj, rfl⟩ := HM.out y hy; exact (HMX.out j hj).1)⟩, ⟨IRow.nil _ _⟩, ⟨HT.out.below' (by (repeat (with_reducible first | exact Below.refl _ _ | apply below_drewN | apply below_drew | apply below_alloc)))⟩⟩
      case round =>
        clear HT
        obtain ⟨t, k, rfl, ht, HU, HX, HT⟩ := hrel
        obtain ⟨wt, hwt⟩ : ∃ wt : World, wt = wr := ⟨_, rfl⟩
        rw [← hwt] at HX HT ⊢
        clear hwt
        have ht0 : (0 : Int) ≤ t := by omega
        have hkS : k ≤ i := by have := HU.out.1; have := HPL.out; omega
        obtain ⟨a6, c6, rfl⟩ := IRow.shape HX.out
        rw [ids_len S k (by have := HPL.out; omega)] at *
        by_cases htt : t < 256
        · have ht1 : (t : Int) < 256 := by omega
          go_wp2_with fail
          refine (Due_two (HT.out.below' (by (repeat (with_reducible first | exact Below.refl _ _ | apply below_drewN | apply below_drew | apply below_alloc)))) (by rw [List.length_drop]; have := HPL.out; omega) t _ rfl).mono ?_
          rintro e w2 ⟨vd, rfl, hd, t2, f2⟩
          have HX2 := Side.mk (IRow.fr (IRow.below HX.out (by (repeat (with_reducible first | exact Below.refl _ _ | apply below_drewN | apply below_drew | apply below_alloc)))) f2)
          have HD := Side.mk hd
          have HT2 := Side.mk t2
          have HU2 := Side.mk (Upto.next HS.out HU.out)
          have HAT := Side.mk (fun j z hj => HM.out _ (Upto.at HS.out HU.out j z hj))
          have HJ := Side.mk (ids_join S k (CaQ.due t (S.drop k)))
          rw [List.drop_drop] at HT2
          have hkm : (k + CaQ.due t (S.drop k)) ≤ i := by have := HU2.out.1; have := HPL.out; omega
          obtain ⟨m, hm⟩ : ∃ m, m = (ids ((S.drop k).take (CaQ.due t (S.drop k)))).length := ⟨_, rfl⟩
          obtain ⟨zs, hzs⟩ : ∃ zs, zs = ids ((S.drop k).take (CaQ.due t (S.drop k))) := ⟨_, rfl⟩
          rw [← hzs] at hm HD HAT HJ
          have hmi : m ≤ i := by
            have e := congrArg List.length HJ.out
            have e1 := ids_len S k (by have := HPL.out; omega)
            have e2 := ids_len S (k + CaQ.due t (S.drop k)) (by have := HPL.out; omega)
            rw [List.length_append] at e
            omega
          generalize k + CaQ.due t (S.drop k) = k2 at *
          have HMM := Side.mk hm
          obtain ⟨ad, cd, hvd⟩ := IRow.shape HD.out
          rw [← hm] at hvd
          subst hvd
          clear hd t2 f2 HX HT HU hzs hm
          have hm9 : (m : Int) ≤ 100 := by omega
          go_wp2_with fail
          go_loopw [9] (fun v9 wr => ∃ kk : Nat, v9 = .int .i64 (kk : Int) ∧ kk ≤ m ∧ Side (Below w2.heap.size w2 wr)) (fun v9 _ => (m - intOf v9).toNat)
          case atStart => exact ⟨0, rfl, Nat.zero_le _, ⟨(by (repeat (with_reducible first | exact Below.refl _ _ | apply below_drewN | apply below_drew | apply below_alloc)))⟩⟩
          case round =>
            obtain ⟨kk, rfl, hkk, HB⟩ := hrel
            have hkk0 : (0 : Int) ≤ kk := by omega
            obtain ⟨wd, hwd⟩ : ∃ wd : World, wd = wr := ⟨_, rfl⟩
            rw [← hwd] at HB ⊢
            clear hwd
            by_cases hkm2 : kk < m
            · have hkm3 : (kk : Int) < m := by omega
              obtain ⟨z, hz⟩ : ∃ z, zs[kk]? = some z := ⟨_, List.getElem?_eq_getElem (by have := HMM.out; omega)⟩
              have HSE : Side (seenP (pr V) (t, z) i = true) := ⟨by
                obtain ⟨j, hj, he⟩ := HAT.out kk z hz
                exact seenP_of (pr V) (t, z) i j hj he.symm⟩
              obtain ⟨gd, rfl, hgd, cd0⟩ : ∃ g1, ad = some ⟨g1, 0, none⟩ ∧ g1 < wd.heap.size ∧ wd.cell? ⟨g1, kk, none⟩ = some (.int .i64 z) := by
                rcases (IRow.below HD.out HB.out).read with ⟨_, h0⟩ | ⟨g, cp, hv, _, hg, _, _, hr⟩
                · rw [h0] at hz; simp at hz
                · simp at hv
                  exact ⟨g, hv.1, hg, hr kk z hz⟩
              have HT3 := Side.mk (HT2.out.below' HB.out)
              clear hz
              go_wp2_with fail
              go_loopw [10, 11] (fun v10 v11 wr => ∃ ii : Nat, v11 = .int .i64 (ii : Int) ∧ ii ≤ i ∧ v10 = .bool (seenP (pr V) (t, z) ii) ∧ Side (Below wd.heap.size wd wr)) (fun _ v11 _ => (i - intOf v11).toNat)
              case atStart => exact ⟨0, rfl, Nat.zero_le _, rfl, ⟨(by (repeat (with_reducible first | exact Below.refl _ _ | apply below_drewN | apply below_drew | apply below_alloc)))⟩⟩
              case round =>
                obtain ⟨ii, rfl, hii2, rfl, HB3⟩ := hrel
                have hi0' : (0 : Int) ≤ ii := by omega
                obtain ⟨wq, hwq⟩ : ∃ wq : World, wq = wr := ⟨_, rfl⟩
                rw [← hwq] at HB3 ⊢
                clear hwq
                by_cases hin2 : ii < i
                · have hin3 : (ii : Int) < i := by omega
                  obtain ⟨g, off, rfl, hgl, c0, c1, x0, x1, y0, y1⟩ := row_pr HROW.out (HT3.out.below' HB3.out).below ii hin2
                  have cd1 : wq.cell? ⟨gd, kk, none⟩ = some (.int .i64 z) := (HB3.out.cell (p := ⟨gd, kk, none⟩) hgd).trans cd0
                  have HSN : Side (seenP (pr V) (t, z) (ii + 1) = (seenP (pr V) (t, z) ii || ((pr V ii).1 == (t : Int) && (pr V ii).2 == z))) := ⟨rfl⟩
                  obtain ⟨p, hp⟩ : ∃ p, p = pr V ii := ⟨_, rfl⟩
                  rw [← hp] at c0 c1 x0 x1 y0 y1 HSN
                  obtain ⟨px, py⟩ := p
                  simp only at x0 x1 y0 y1
                  have c0 : wq.cell? ⟨g, off + ii * 2, none⟩ = some (.int .u8 px) := c0
                  have c1 : wq.cell? ⟨g, off + ii * 2 + 1, none⟩ = some (.int .u8 py) := c1
                  have HWX : IntKind.i64.wrap px = px := by rw [IntKind.wrap_i64]; omega
                  have HWY : IntKind.i64.wrap py = py := by rw [IntKind.wrap_i64]; omega
                  clear hp
                  obtain ⟨nx, hnx⟩ : ∃ nx, nx = seenP (pr V) (t, z) (ii + 1) := ⟨_, rfl⟩
                  have HNX := Side.mk hnx
                  rw [← hnx] at HSN
                  clear hnx
                  generalize seenP (pr V) (t, z) ii = sb at *
                  go_upto_region 25 with (fail)
                  have hB4 : ∀ w', Below wq.heap.size wq w' → Side (Below wd.heap.size wd w') := fun w' hb => ⟨below_then HB3.out HB3.out.size hb⟩
                  have HB4 := Side.mk hB4
                  clear hB4 HT3 HT2 HX2 HU2 HAT HJ HMM HD HS HPL HMX HM HSE HB HB3 HROW
                  cases sb
                  · by_cases e1 : px = (t : Int)
                    · by_cases e2 : py = z
                      · obtain rfl : nx = true := by rw [HSN.out]; simp [e1, e2]
                        clear HSN
                        have e2b : (py == z) = true := by simp [e2]
                        have e1b : (px == (t : Int)) = true := by simp [e1]
                        go_quiet (fail)
                        go_wp2
                        go_roundw
                        case rel => exact ⟨ii + 1, by simp, by omega, by rw [← HNX.out], HB4.out _ (below_drewN (Below.refl _ _) nq)⟩
                        case measure => simp [intOf]; omega
                      · obtain rfl : nx = false := by rw [HSN.out]; simp [e2]
                        clear HSN
                        have e2b : (py == z) = false := by simp [e2]
                        have e1b : (px == (t : Int)) = true := by simp [e1]
                        go_quiet (fail)
                        go_wp2
                        go_roundw
                        case rel => exact ⟨ii + 1, by simp, by omega, by rw [← HNX.out], HB4.out _ (below_drewN (Below.refl _ _) nq)⟩
                        case measure => simp [intOf]; omega
                    · obtain rfl : nx = false := by rw [HSN.out]; simp [e1]
                      clear HSN
                      have e1b : (px == (t : Int)) = false := by simp [e1]
                      go_quiet (fail)
                      go_wp2
                      go_roundw
                      case rel => exact ⟨ii + 1, by simp, by omega, by rw [← HNX.out], HB4.out _ (below_drewN (Below.refl _ _) nq)⟩
                      case measure => simp [intOf]; omega
                  · obtain rfl : nx = true := by rw [HSN.out]; rfl
                    clear HSN
                    go_quiet (fail)
                    go_wp2
                    go_roundw
                    case rel => exact ⟨ii + 1, by simp, by omega, by rw [← HNX.out], HB4.out _ (below_drewN (Below.refl _ _) nq)⟩
                    case measure => simp [intOf]; omega
                · have hin3 : ¬ (ii : Int) < i := by omega
                  obtain rfl : ii = i := by omega
                  rw [HSE.out]
                  have HB5 := Side.mk (below_then HB.out HB.out.size HB3.out)
                  clear HB3 HB cd0 hgd HT3
                  go_wp2
                  go_roundw
                  case rel => exact ⟨kk + 1, by simp, by omega, HB5⟩
                  case measure => simp [intOf]; omega
            · have hkm3 : ¬ (kk : Int) < m := by omega
              have HX3 := Side.mk (IRow.below HX2.out HB.out)
              have HD3 := Side.mk (IRow.below HD.out HB.out)
              have HT3 := Side.mk (HT2.out.below' HB.out)
              have hkc : k ≤ c6 := by
                rcases HX3.out.read with ⟨h0, h1⟩ | ⟨g, cp, hv, _, _, hn, _⟩
                · simp at h0; omega
                · simp at hv
                  rw [← hv.2.2] at hn
                  have := ids_len S k (by have := HPL.out; omega)
                  omega
              have hkc' : (k : Int) ≤ c6 := by omega
              have hWB : w.heap.size ≤ wd.heap.size := HT3.out.below.size
              clear HX2 HD HT2 HB HAT HMX hkc
              rcases HD3.out.read with ⟨hv, hz0⟩ | ⟨gd, cp, hv, _, hgd, _, _, hr⟩
              · simp at hv
                obtain ⟨rfl, rfl, rfl⟩ := hv
                have HX4 : Side (IRow wd w.heap.size (.slice a6 k c6) (ids (S.take k2))) := ⟨by
                  have := HX3.out
                  rw [← HJ.out, hz0, List.append_nil]
                  exact this⟩
                clear HX3 HJ hz0
                go_wp2_with (simp only [Sem.run_pure, Result.andThen_ok])
                all_goals exact ⟨⟨t + 1, k2, by simp, by omega, HU2, HX4, HT3⟩, by simp [intOf]; omega⟩
              · simp at hv
                obtain ⟨rfl, hml, rfl⟩ := hv
                have HR := Side.mk hr
                clear hr
                go_wp2_with (at_builtin; refine wpList_iapps rfl _ _ rfl w.heap.size _ (ids (S.take k)) rfl ?c1 gd cd m zs ?c2 rfl ?c3 ?c4 ?c5 ?c6)
                case c1 => exact HX3.out
                case c3 => exact HR.out
                case c4 => rw [ids_len S k (by have := HPL.out; omega)]; omega
                case c6 =>
                  intro v' w3 hr3 hg3
                  have HX4 : Side (IRow w3 w.heap.size v' (ids (S.take k2))) := ⟨by rw [← HJ.out]; exact hr3⟩
                  have HT4 := Side.mk (Two.grown HT3.out HX3.out (Nat.le_refl _) hg3)
                  obtain ⟨a7, c7, rfl⟩ := IRow.shape HX4.out
                  clear hr3 hg3 HX3 HT3 HR HJ
                  go_wp2
                  go_roundw
                  case rel => exact ⟨t + 1, k2, by simp, by omega, HU2, ⟨IRow.below HX4.out (by (repeat (with_reducible first | exact Below.refl _ _ | apply below_drewN | apply below_drew | apply below_alloc)))⟩, ⟨HT4.out.below' (by (repeat (with_reducible first | exact Below.refl _ _ | apply below_drewN | apply below_drew | apply below_alloc)))⟩⟩
                  case measure => simp [intOf]; omega
        · have ht1 : ¬ (t : Int) < 256 := by omega
          obtain rfl : t = 256 := by omega
          obtain rfl : k = i := by
            rw [← HPL.out]
            exact Upto.all HU.out (fun y hy => by obtain ⟨j, hj, rfl⟩ := HM.out y hy; have := (HMX.out j hj).2.1; show _ < (256 : Int); omega)
          have HTK : Side (S.take k = S) := ⟨List.take_of_length_le (by have := HPL.out; omega)⟩
          have HDK : Side (S.drop k = []) := ⟨List.drop_eq_nil_of_le (by have := HPL.out; omega)⟩
          have HDU : Side (CaQ.due 255 S = k) := ⟨by
            rw [due_all 255 S (fun y hy => by obtain ⟨j, hj, rfl⟩ := HM.out y hy; exact (HMX.out j hj).2.1), HPL.out]⟩
          rw [HDK.out] at HT
          go_wp2_with fail
          refine (Due_two (HT.out.below' (by (repeat (with_reducible first | exact Below.refl _ _ | apply below_drewN | apply below_drew | apply below_alloc)))).swap (by have := HPL.out; omega) 255 k HDU.out).mono ?_
          rintro e w2 ⟨vy, rfl, hy, t2, f2⟩
          have HX2 := Side.mk (IRow.fr (IRow.below HX.out (by (repeat (with_reducible first | exact Below.refl _ _ | apply below_drewN | apply below_drew | apply below_alloc)))) f2)
          have HY2 := Side.mk hy
          rw [HDK.out] at t2
          have HT2 := Side.mk t2
          obtain ⟨ay, cy, hvy⟩ := IRow.shape hy
          have HIL : Side ((ids (S.take k)).length = k) := ⟨ids_len S k (by have := HPL.out; omega)⟩
          rw [HIL.out] at hvy
          subst hvy
          obtain ⟨zs, hzs⟩ : ∃ zs, zs = ids (List.take k S) := ⟨_, rfl⟩
          rw [← hzs] at HX2 HY2 HIL
          clear hy t2 f2 HX HT HU hzs HTK HDK HDU HMX HM HPL HS
          go_wp2_with fail
          refine (Len_two (HT2.out.below' (by (repeat (with_reducible first | exact Below.refl _ _ | apply below_drewN | apply below_drew | apply below_alloc)))).swap 0 rfl).mono ?_
          rintro e w3 ⟨rfl, hb⟩
          have HX3 := Side.mk (IRow.below (IRow.below HX2.out (by (repeat (with_reducible first | exact Below.refl _ _ | apply below_drewN | apply below_drew | apply below_alloc)))) hb)
          have HY3 := Side.mk (IRow.below (IRow.below HY2.out (by (repeat (with_reducible first | exact Below.refl _ _ | apply below_drewN | apply below_drew | apply below_alloc)))) hb)
          have HT3 := Side.mk ((HT2.out.below' (by (repeat (with_reducible first | exact Below.refl _ _ | apply below_drewN | apply below_drew | apply below_alloc)))).below' hb)
          clear hb HX2 HY2 HT2
          go_wp2_with fail
          refine (Len_two (HT3.out.below' (by (repeat (with_reducible first | exact Below.refl _ _ | apply below_drewN | apply below_drew | apply below_alloc)))) 0 rfl).mono ?_
          rintro e w4 ⟨rfl, hb⟩
          have HX4 := Side.mk (IRow.below (IRow.below HX3.out (by (repeat (with_reducible first | exact Below.refl _ _ | apply below_drewN | apply below_drew | apply below_alloc)))) hb)
          have HY4 := Side.mk (IRow.below (IRow.below HY3.out (by (repeat (with_reducible first | exact Below.refl _ _ | apply below_drewN | apply below_drew | apply below_alloc)))) hb)
          have T4 := Side.mk ((HT3.out.below' (by (repeat (with_reducible first | exact Below.refl _ _ | apply below_drewN | apply below_drew | apply below_alloc)))).below' hb).below
          clear hb HX3 HY3 HT3
          go_wp2_with fail
          have hk9 : (k : Int) ≤ 100 := by omega
          go_loopw [13] (fun v13 wr => ∃ j : Nat, v13 = .int .i64 (j : Int) ∧ j ≤ k ∧ Side (Below w4.heap.size w4 wr)) (fun v13 _ => (k - intOf v13).toNat)
          case atStart => exact ⟨0, rfl, Nat.zero_le _, ⟨(by (repeat (with_reducible first | exact Below.refl _ _ | apply below_drewN | apply below_drew | apply below_alloc)))⟩⟩
          case round =>
            obtain ⟨j, rfl, hj, HB⟩ := hrel
            have hj0 : (0 : Int) ≤ j := by omega
            obtain ⟨wo, hwo⟩ : ∃ wo : World, wo = wr := ⟨_, rfl⟩
            rw [← hwo] at HB ⊢
            clear hwo
            by_cases hjm : j < k
            · have hjj : (j : Int) < k := by omega
              obtain ⟨z, hz⟩ : ∃ z, zs[j]? = some z := ⟨_, List.getElem?_eq_getElem (by have := HIL.out; omega)⟩
              obtain ⟨g1, rfl, c0⟩ : ∃ g1, a6 = some ⟨g1, 0, none⟩ ∧ wo.cell? ⟨g1, j, none⟩ = some (.int .i64 z) := by
                rcases (IRow.below HX4.out HB.out).read with ⟨_, h0⟩ | ⟨g, cp, hv, _, hg, _, _, hr⟩
                · rw [h0] at hz; simp at hz
                · simp at hv
                  exact ⟨g, hv.1, hr j z hz⟩
              obtain ⟨g2, rfl, c1⟩ : ∃ g2, ay = some ⟨g2, 0, none⟩ ∧ wo.cell? ⟨g2, j, none⟩ = some (.int .i64 z) := by
                rcases (IRow.below HY4.out HB.out).read with ⟨_, h0⟩ | ⟨g, cp, hv, _, hg, _, _, hr⟩
                · rw [h0] at hz; simp at hz
                · simp at hv
                  exact ⟨g, hv.1, hr j z hz⟩
              clear hz
              go_upto_region 35 with (fail)
              go_cut [147] (fun v we => v = .bool false ∧ Side (Below wo.heap.size wo we))
              case first =>
                go_quiet (fail)
                refine ‹∀ (a' : Act) (w' : World), Met _ a' w' → _› _ _ ?_
                go_meet
                case rel => exact ⟨by simp, ⟨below_drewN (Below.refl _ _) nq⟩⟩
              case rest =>
              obtain ⟨rfl, HC⟩ := hcut
              have HB2 := Side.mk (below_then HB.out HB.out.size HC.out)
              clear HC HB c0 c1
              go_step
              go_wp2
              go_roundw
              case rel => exact ⟨j + 1, by simp, by omega, HB2⟩
              case measure => simp [intOf]; omega
            · have hjj : ¬ (j : Int) < k := by omega
              have HF := Side.mk (T4.out.trans (HB.out.mono T4.out.size))
              go_wp2
              go_ret
              exact ⟨rfl, HF.out⟩
end Go.Proofs.Ytbppjaglgbhckaa.CaW
