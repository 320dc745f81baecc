/- slices.swapRangeCmpFunc over ranks. No condition. -/
import Derived.Test.YtmjgadhknliiaaaSoA
set_option linter.unusedVariables false
set_option linter.unusedSimpArgs false
namespace Go.Proofs.Ytmjgadhknliiaaa.SoB
open Go.RowKit Go.Proofs.Ytmjgadhknliiaaa.Kit Go.Proofs.Ytmjgadhknliiaaa.Kit3 Go.Proofs.Ytmjgadhknliiaaa.Kit4 Go.Proofs.Ytmjgadhknliiaaa.Kit5 Go.Proofs.Ytmjgadhknliiaaa.Rank Go.Proofs.Ytmjgadhknliiaaa.SoA SoPlain
open Go.Proofs.YtmjgadhknliiaaaW.PrintLast
set_option maxHeartbeats 8000000 in
set_option maxRecDepth 100000 in
theorem swapRange_at (w : World) (B g n cap : Nat) (xs0 : List R) (f : Value) (h : M w B g n cap xs0) (la lb m : Nat) (hab : la + m ≤ lb) (hb : lb + m ≤ n) :
    Calls Try.prog 34 #[.slice (some ⟨g, 0, none⟩) n cap, .int .i64 la, .int .i64 lb, .int .i64 m, f] w fun r w' => r = .returned (.tuple #[]) ∧ ∃ ys, M w' B g n cap ys ∧ Chg w w' (fun k => k = g) ∧ ∀ p, at_ ys p = at_ xs0 (swp la lb m p) := by
  have HM0 := Side.mk h
  have hn := h.small
  clear h
  go_enter Try.func34, Try.ntmps34
  go_wp2_with fail
  go_loopw [10] (fun v10 wr => ∃ (k : Nat) (xs : List R), v10 = .int .i64 (k : Int) ∧ k ≤ m ∧ Side (M wr B g n cap xs) ∧ Side (Chg w wr (fun k => k = g)) ∧ Side (∀ p, at_ xs p = at_ xs0 (swp la lb k p))) (fun v10 _ => (m - intOf v10).toNat)
  case atStart => exact ⟨0, xs0, rfl, Nat.zero_le _, HM0, ⟨Chg.refl _ _⟩, ⟨fun p => by unfold swp; rw [if_neg (by omega), if_neg (by omega)]⟩⟩
  case round =>
    clear HM0
    obtain ⟨k, xs, rfl, hk, HM, HC, HS⟩ := hrel
    obtain ⟨wz, hwz⟩ : ∃ wz : World, wz = wr := ⟨_, rfl⟩
    rw [← hwz] at HM HC ⊢
    clear hwz
    by_cases hkm : k < m
    · have hki : (k : Int) < m := by omega
      have hk1 : (k : Int) + 1 ≤ 9223372036854775807 := by omega
      obtain ⟨I, hI⟩ : ∃ I, I = la + k := ⟨_, rfl⟩
      obtain ⟨J, hJ⟩ : ∃ J, J = lb + k := ⟨_, rfl⟩
      have hIn : I < n := by omega
      have hJn : J < n := by omega
      have hIi : (I : Int) < n := by omega
      have hJi : (J : Int) < n := by omega
      have hI0 : (0 : Int) ≤ I := by omega
      have hJ0 : (0 : Int) ≤ J := by omega
      have HWI : Side (IntKind.i64.wrap ((la : Int) + k) = (I : Int)) := ⟨by rw [Go.IntWalk.i64_in ((la : Int) + k) (by omega)]; omega⟩
      have HWJ : Side (IntKind.i64.wrap ((lb : Int) + k) = (J : Int)) := ⟨by rw [Go.IntWalk.i64_in ((lb : Int) + k) (by omega)]; omega⟩
      have hlen := HM.out.len
      have HS2 : Side (∀ p, at_ (sw xs I J) p = at_ xs0 (swp la lb (k + 1) p)) := ⟨fun p => by
        rw [at_sw (by omega) (by omega), HS.out, ← swp_step la lb k p (by omega), hI, hJ]
        congr 1
        by_cases h1 : p = lb + k
        · rw [if_pos h1, if_pos h1]
          unfold swp
          rw [if_neg (by omega), if_neg (by omega)]
        · rw [if_neg h1, if_neg h1]
          by_cases h2 : p = la + k
          · rw [if_pos h2, if_pos h2]
            unfold swp
            rw [if_neg (by omega), if_neg (by omega)]
          · rw [if_neg h2, if_neg h2]⟩
      clear hI hJ hlen
      go_upto_region 3 with (fail)
      have hI := HM.out.cell (p := I) hIn
      obtain ⟨i0, i1, i2, i3⟩ := hI
      have hJ := HM.out.cell (p := J) hJn
      obtain ⟨j0, j1, j2, j3⟩ := hJ
      have hgl := HM.out.lt
      have hMd : M wz.drew B g n cap xs := HM.out.below (below_drew (Below.refl _ _))
      have HST1 := Side.mk (hMd.store hIn (at_ xs J) (.agg #[.int .i64 (at_ xs J).d, .int .i64 (at_ xs J).b, .int .i64 (at_ xs J).g, .int .i64 (at_ xs J).i]) rfl)
      have HST2 := Side.mk ((hMd.write hIn (at_ xs J)).store hJn (at_ xs I) (.agg #[.int .i64 (at_ xs I).d, .int .i64 (at_ xs I).b, .int .i64 (at_ xs I).g, .int .i64 (at_ xs I).i]) rfl)
      have HMS : Side (M ((wz.drew.setCells g (I * 4) (rcl (at_ xs J))).setCells g (J * 4) (rcl (at_ xs I))) B g n cap (sw xs I J)) := ⟨hMd.swap hIn hJn⟩
      have HCS : Side (Chg wz ((wz.drew.setCells g (I * 4) (rcl (at_ xs J))).setCells g (J * 4) (rcl (at_ xs I))) (fun k => k = g)) := ⟨(Chg.of_below (below_drew (Below.refl _ _))).trans (sw_chg hMd) (fun _ _ h => h)⟩
      clear hMd
      refine start_ (n := 24) (S := fun w' => True) (ds := []) #[false, false, false, false, false, false, false, false, false, false, false, false, false, false, false, false, false, false, false, false, false, false, false, false] (by kernel_rfl) rfl rfl trivial (fun _ => ?_)
      refine inv_at (B := [0, 0, 0, 6, 0, 0, 0, 96, 0, 0, 0, 1536, 3840, 7936, 0, 0, 0, 98304, 245760, 507904, 1048335, 2096911, 4194303, 8388607]) [0, 1, 2, 3, 4, 5, 6, 7, 8, 9, 10, 11, 12, 13, 14, 15, 16, 17, 18, 19, 20, 21, 22, 23] (fun a0_ b a w' => a = putSel a0_ b [(0, 16, .slice (some ⟨g, 0, none⟩) n cap), (1, 17, .int .i64 la), (2, 18, .int .i64 k), (3, 19, .int .i64 I), (4, 20, .slice (some ⟨g, 0, none⟩) n cap), (5, 21, .int .i64 lb), (6, 22, .int .i64 k), (7, 23, .int .i64 J), (8, 24, .slice (some ⟨g, 0, none⟩) n cap), (9, 25, .int .i64 lb), (10, 26, .int .i64 k), (11, 27, .int .i64 J), (12, 28, .pointer (some ⟨g, J * 4, none⟩)), (13, 29, .agg #[.int .i64 (at_ xs J).d, .int .i64 (at_ xs J).b, .int .i64 (at_ xs J).g, .int .i64 (at_ xs J).i]), (14, 30, .slice (some ⟨g, 0, none⟩) n cap), (15, 31, .int .i64 la), (16, 32, .int .i64 k), (17, 33, .int .i64 I), (18, 34, .pointer (some ⟨g, I * 4, none⟩)), (19, 35, .agg #[.int .i64 (at_ xs I).d, .int .i64 (at_ xs I).b, .int .i64 (at_ xs I).g, .int .i64 (at_ xs I).i]), (20, 36, .pointer (some ⟨g, I * 4, none⟩)), (22, 37, .pointer (some ⟨g, J * 4, none⟩))] ∧ Two wz.drew g I J xs 21 23 b w') rfl (by kernel_rfl) (by kernel_rfl) (by kernel_rfl) ?_ ?_ ?_
      · exact ⟨by simp only [putSel, Bool.false_eq_true, if_false], Two.start⟩
      · refine steps_cons (by rintro b a w' ⟨ha, HI⟩ hb hon hoff; refine ⟨_, rfl, fun K hK => ?_⟩; have e0 := poff ha (t := 0) rfl rfl; exact value_ (v := .slice (some ⟨g, 0, none⟩) n cap) (by rfl) rfl (by clear HI ha; go_simp) (hK.out _ _ ⟨upk ha 0 hb rfl rfl, HI.low 0 (by decide)⟩)) ?_
        refine steps_cons (by rintro b a w' ⟨ha, HI⟩ hb hon hoff; refine ⟨_, rfl, fun K hK => ?_⟩; have e1 := poff ha (t := 1) rfl rfl; exact value_ (v := .int .i64 la) (by rfl) rfl (by clear HI ha; go_simp) (hK.out _ _ ⟨upk ha 1 hb rfl rfl, HI.low 1 (by decide)⟩)) ?_
        refine steps_cons (by rintro b a w' ⟨ha, HI⟩ hb hon hoff; refine ⟨_, rfl, fun K hK => ?_⟩; have e10 := poff ha (t := 10) rfl rfl; exact value_ (v := .int .i64 k) (by rfl) rfl (by clear HI ha; go_simp) (hK.out _ _ ⟨upk ha 2 hb rfl rfl, HI.low 2 (by decide)⟩)) ?_
        refine steps_cons (by rintro b a w' ⟨ha, HI⟩ hb hon hoff; refine ⟨_, rfl, fun K hK => ?_⟩; have e17 := pon ha 1 (hon 1 rfl) rfl rfl rfl; have e18 := pon ha 2 (hon 2 rfl) rfl rfl rfl; exact value_ (v := .int .i64 I) (by rfl) rfl (by clear HI ha; go_simp; exact HWI.out) (hK.out _ _ ⟨upk ha 3 hb rfl rfl, HI.low 3 (by decide)⟩)) ?_
        refine steps_cons (by rintro b a w' ⟨ha, HI⟩ hb hon hoff; refine ⟨_, rfl, fun K hK => ?_⟩; have e0 := poff ha (t := 0) rfl rfl; exact value_ (v := .slice (some ⟨g, 0, none⟩) n cap) (by rfl) rfl (by clear HI ha; go_simp) (hK.out _ _ ⟨upk ha 4 hb rfl rfl, HI.low 4 (by decide)⟩)) ?_
        refine steps_cons (by rintro b a w' ⟨ha, HI⟩ hb hon hoff; refine ⟨_, rfl, fun K hK => ?_⟩; have e2 := poff ha (t := 2) rfl rfl; exact value_ (v := .int .i64 lb) (by rfl) rfl (by clear HI ha; go_simp) (hK.out _ _ ⟨upk ha 5 hb rfl rfl, HI.low 5 (by decide)⟩)) ?_
        refine steps_cons (by rintro b a w' ⟨ha, HI⟩ hb hon hoff; refine ⟨_, rfl, fun K hK => ?_⟩; have e10 := poff ha (t := 10) rfl rfl; exact value_ (v := .int .i64 k) (by rfl) rfl (by clear HI ha; go_simp) (hK.out _ _ ⟨upk ha 6 hb rfl rfl, HI.low 6 (by decide)⟩)) ?_
        refine steps_cons (by rintro b a w' ⟨ha, HI⟩ hb hon hoff; refine ⟨_, rfl, fun K hK => ?_⟩; have e21 := pon ha 5 (hon 5 rfl) rfl rfl rfl; have e22 := pon ha 6 (hon 6 rfl) rfl rfl rfl; exact value_ (v := .int .i64 J) (by rfl) rfl (by clear HI ha; go_simp; exact HWJ.out) (hK.out _ _ ⟨upk ha 7 hb rfl rfl, HI.low 7 (by decide)⟩)) ?_
        refine steps_cons (by rintro b a w' ⟨ha, HI⟩ hb hon hoff; refine ⟨_, rfl, fun K hK => ?_⟩; have e0 := poff ha (t := 0) rfl rfl; exact value_ (v := .slice (some ⟨g, 0, none⟩) n cap) (by rfl) rfl (by clear HI ha; go_simp) (hK.out _ _ ⟨upk ha 8 hb rfl rfl, HI.low 8 (by decide)⟩)) ?_
        refine steps_cons (by rintro b a w' ⟨ha, HI⟩ hb hon hoff; refine ⟨_, rfl, fun K hK => ?_⟩; have e2 := poff ha (t := 2) rfl rfl; exact value_ (v := .int .i64 lb) (by rfl) rfl (by clear HI ha; go_simp) (hK.out _ _ ⟨upk ha 9 hb rfl rfl, HI.low 9 (by decide)⟩)) ?_
        refine steps_cons (by rintro b a w' ⟨ha, HI⟩ hb hon hoff; refine ⟨_, rfl, fun K hK => ?_⟩; have e10 := poff ha (t := 10) rfl rfl; exact value_ (v := .int .i64 k) (by rfl) rfl (by clear HI ha; go_simp) (hK.out _ _ ⟨upk ha 10 hb rfl rfl, HI.low 10 (by decide)⟩)) ?_
        refine steps_cons (by rintro b a w' ⟨ha, HI⟩ hb hon hoff; refine ⟨_, rfl, fun K hK => ?_⟩; have e25 := pon ha 9 (hon 9 rfl) rfl rfl rfl; have e26 := pon ha 10 (hon 10 rfl) rfl rfl rfl; exact value_ (v := .int .i64 J) (by rfl) rfl (by clear HI ha; go_simp; exact HWJ.out) (hK.out _ _ ⟨upk ha 11 hb rfl rfl, HI.low 11 (by decide)⟩)) ?_
        refine steps_cons (by rintro b a w' ⟨ha, HI⟩ hb hon hoff; refine ⟨_, rfl, fun K hK => ?_⟩; have e24 := pon ha 8 (hon 8 rfl) rfl rfl rfl; have e27 := pon ha 11 (hon 11 rfl) rfl rfl rfl; exact value_ (v := .pointer (some ⟨g, J * 4, none⟩)) (by rfl) rfl (by clear HI ha; go_simp) (hK.out _ _ ⟨upk ha 12 hb rfl rfl, HI.low 12 (by decide)⟩)) ?_
        refine steps_cons (by rintro b a w' ⟨ha, HI⟩ hb hon hoff; refine ⟨_, rfl, fun K hK => ?_⟩; have e28 := pon ha 12 (hon 12 rfl) rfl rfl rfl; obtain rfl := HI.n (hoff 21 rfl); exact value_ (v := .agg #[.int .i64 (at_ xs J).d, .int .i64 (at_ xs J).b, .int .i64 (at_ xs J).g, .int .i64 (at_ xs J).i]) (by rfl) rfl (by clear HI ha; go_simp) (hK.out _ _ ⟨upk ha 13 hb rfl rfl, HI.low 13 (by decide)⟩)) ?_
        refine steps_cons (by rintro b a w' ⟨ha, HI⟩ hb hon hoff; refine ⟨_, rfl, fun K hK => ?_⟩; have e0 := poff ha (t := 0) rfl rfl; exact value_ (v := .slice (some ⟨g, 0, none⟩) n cap) (by rfl) rfl (by clear HI ha; go_simp) (hK.out _ _ ⟨upk ha 14 hb rfl rfl, HI.low 14 (by decide)⟩)) ?_
        refine steps_cons (by rintro b a w' ⟨ha, HI⟩ hb hon hoff; refine ⟨_, rfl, fun K hK => ?_⟩; have e1 := poff ha (t := 1) rfl rfl; exact value_ (v := .int .i64 la) (by rfl) rfl (by clear HI ha; go_simp) (hK.out _ _ ⟨upk ha 15 hb rfl rfl, HI.low 15 (by decide)⟩)) ?_
        refine steps_cons (by rintro b a w' ⟨ha, HI⟩ hb hon hoff; refine ⟨_, rfl, fun K hK => ?_⟩; have e10 := poff ha (t := 10) rfl rfl; exact value_ (v := .int .i64 k) (by rfl) rfl (by clear HI ha; go_simp) (hK.out _ _ ⟨upk ha 16 hb rfl rfl, HI.low 16 (by decide)⟩)) ?_
        refine steps_cons (by rintro b a w' ⟨ha, HI⟩ hb hon hoff; refine ⟨_, rfl, fun K hK => ?_⟩; have e31 := pon ha 15 (hon 15 rfl) rfl rfl rfl; have e32 := pon ha 16 (hon 16 rfl) rfl rfl rfl; exact value_ (v := .int .i64 I) (by rfl) rfl (by clear HI ha; go_simp; exact HWI.out) (hK.out _ _ ⟨upk ha 17 hb rfl rfl, HI.low 17 (by decide)⟩)) ?_
        refine steps_cons (by rintro b a w' ⟨ha, HI⟩ hb hon hoff; refine ⟨_, rfl, fun K hK => ?_⟩; have e30 := pon ha 14 (hon 14 rfl) rfl rfl rfl; have e33 := pon ha 17 (hon 17 rfl) rfl rfl rfl; exact value_ (v := .pointer (some ⟨g, I * 4, none⟩)) (by rfl) rfl (by clear HI ha; go_simp) (hK.out _ _ ⟨upk ha 18 hb rfl rfl, HI.low 18 (by decide)⟩)) ?_
        refine steps_cons (by rintro b a w' ⟨ha, HI⟩ hb hon hoff; refine ⟨_, rfl, fun K hK => ?_⟩; have e34 := pon ha 18 (hon 18 rfl) rfl rfl rfl; obtain rfl := HI.n (hoff 21 rfl); exact value_ (v := .agg #[.int .i64 (at_ xs I).d, .int .i64 (at_ xs I).b, .int .i64 (at_ xs I).g, .int .i64 (at_ xs I).i]) (by rfl) rfl (by clear HI ha; go_simp) (hK.out _ _ ⟨upk ha 19 hb rfl rfl, HI.low 19 (by decide)⟩)) ?_
        refine steps_cons (by rintro b a w' ⟨ha, HI⟩ hb hon hoff; refine ⟨_, rfl, fun K hK => ?_⟩; have e16 := pon ha 0 (hon 0 rfl) rfl rfl rfl; have e19 := pon ha 3 (hon 3 rfl) rfl rfl rfl; exact value_ (v := .pointer (some ⟨g, I * 4, none⟩)) (by rfl) rfl (by clear HI ha; go_simp) (hK.out _ _ ⟨upk ha 20 hb rfl rfl, HI.low 20 (by decide)⟩)) ?_
        refine steps_cons (by rintro b a w' ⟨ha, HI⟩ hb hon hoff; refine ⟨_, rfl, fun K hK => ?_⟩; have e36 := pon ha 20 (hon 20 rfl) rfl rfl rfl; have e29 := pon ha 13 (hon 13 rfl) rfl rfl rfl; obtain rfl := HI.n hb; exact skip_ (by rfl) rfl (by unfold execOp; simp [Act.eval, e36, e29, HST1.out]) (hK.out _ _ ⟨ups ha rfl, HI.st1 hb (by decide)⟩)) ?_
        refine steps_cons (by rintro b a w' ⟨ha, HI⟩ hb hon hoff; refine ⟨_, rfl, fun K hK => ?_⟩; have e20 := pon ha 4 (hon 4 rfl) rfl rfl rfl; have e23 := pon ha 7 (hon 7 rfl) rfl rfl rfl; exact value_ (v := .pointer (some ⟨g, J * 4, none⟩)) (by rfl) rfl (by clear HI ha; go_simp) (hK.out _ _ ⟨upk ha 21 hb rfl rfl, HI.low 22 (by decide)⟩)) ?_
        refine steps_cons (by rintro b a w' ⟨ha, HI⟩ hb hon hoff; refine ⟨_, rfl, fun K hK => ?_⟩; have e37 := pon ha 21 (hon 22 rfl) rfl rfl rfl; have e35 := pon ha 19 (hon 19 rfl) rfl rfl rfl; obtain rfl := HI.y1 (hon 21 rfl) hb; exact skip_ (by rfl) rfl (by unfold execOp; simp [Act.eval, e37, e35, HST2.out]) (hK.out _ _ ⟨ups ha rfl, Two.st2 (hon 21 rfl) (by decide)⟩)) ?_
        exact steps_nil
      · rintro b a w' hall ⟨ha, HI⟩
        have hb0_ := hall 0 rfl; have hb1_ := hall 1 rfl; have hb2_ := hall 2 rfl; have hb3_ := hall 3 rfl; have hb4_ := hall 4 rfl; have hb5_ := hall 5 rfl; have hb6_ := hall 6 rfl; have hb7_ := hall 7 rfl
        have hb8_ := hall 8 rfl; have hb9_ := hall 9 rfl; have hb10_ := hall 10 rfl; have hb11_ := hall 11 rfl; have hb12_ := hall 12 rfl; have hb13_ := hall 13 rfl; have hb14_ := hall 14 rfl; have hb15_ := hall 15 rfl
        have hb16_ := hall 16 rfl; have hb17_ := hall 17 rfl; have hb18_ := hall 18 rfl; have hb19_ := hall 19 rfl; have hb20_ := hall 20 rfl; have hb21_ := hall 21 rfl; have hb22_ := hall 22 rfl; have hb23_ := hall 23 rfl
        subst ha
        simp only [putSel, hb0_, hb1_, hb2_, hb3_, hb4_, hb5_, hb6_, hb7_, hb8_, hb9_, hb10_, hb11_, hb12_, hb13_, hb14_, hb15_, hb16_, hb17_, hb18_, hb19_, hb20_, hb22_, if_true, Act.put, List.setIfInBounds_toArray, List.set_cons_zero, List.set_cons_succ]
        obtain rfl := HI.y2 hb23_
        clear hall HI hb0_ hb1_ hb2_ hb3_ hb4_ hb5_ hb6_ hb7_ hb8_ hb9_ hb10_ hb11_ hb12_ hb13_ hb14_ hb15_ hb16_ hb17_ hb18_ hb19_ hb20_ hb21_ hb22_ hb23_
        have HC2 : Side (Chg w ((wz.drew.setCells g (I * 4) (rcl (at_ xs J))).setCells g (J * 4) (rcl (at_ xs I))) (fun k => k = g)) := ⟨HC.out.trans HCS.out (fun _ _ h => h)⟩
        generalize (wz.drew.setCells g (I * 4) (rcl (at_ xs J))).setCells g (J * 4) (rcl (at_ xs I)) = w3 at *
        generalize sw xs I J = ys at *
        clear HST1 HST2 i0 i1 i2 i3 j0 j1 j2 j3 hgl HM HC HCS HS HWI HWJ
        go_wp2
        go_roundw
        case rel => exact ⟨k + 1, ys, by simp, by omega, HMS, HC2, HS2⟩
        case measure => simp [intOf]; omega
    · obtain rfl : k = m := by omega
      have hki : ¬ (k : Int) < k := by omega
      go_wp2_with fail
      exact bodyPost_end (results_none rfl _ _ _) rfl ⟨rfl, xs, HM.out, HC.out, HS.out⟩
end Go.Proofs.Ytmjgadhknliiaaa.SoB
