/- slices.symMergeCmpFunc over ranks, one on the right. No condition. -/
import Derived.Test.YtmjgadhknliiaaaSoE
set_option linter.unusedVariables false
set_option linter.unusedSimpArgs false
namespace Go.Proofs.Ytmjgadhknliiaaa.SoF
open Go.RowKit Go.Proofs.Ytmjgadhknliiaaa.Kit Go.Proofs.Ytmjgadhknliiaaa.Kit3 Go.Proofs.Ytmjgadhknliiaaa.Kit4 Go.Proofs.Ytmjgadhknliiaaa.Kit5 Go.Proofs.Ytmjgadhknliiaaa.Rank Go.Proofs.Ytmjgadhknliiaaa.SoA Go.Proofs.Ytmjgadhknliiaaa.SoD Go.Proofs.Ytmjgadhknliiaaa.SoE SoPlain
open Go.Proofs.YtmjgadhknliiaaaW.PrintLast
theorem rot_less (k m p : Nat) (h : k + 1 ≤ m) : rot (k + 1) m (m + 1) (if p = k then k + 1 else if p = k + 1 then k else p) = rot k m (m + 1) p := by
  unfold rot
  repeat' split
  all_goals omega
set_option maxHeartbeats 8000000 in
set_option maxRecDepth 100000 in
theorem sym2_at (w : World) (B g n cap : Nat) (xs0 : List R) (h : M w B g n cap xs0) (la lm lb : Nat) (h0 : ¬ lm = la + 1) (h1 : la < lm) (h2 : lb = lm + 1) (hb : lb ≤ n) (o1 : Srt lt (at_ xs0) la lm) :
    Calls Try.prog 32 #[.slice (some ⟨g, 0, none⟩) n cap, .int .i64 la, .int .i64 lm, .int .i64 lb, .func (.func 20) #[] #[]] w fun r w' => r = .returned (.tuple #[]) ∧ ∃ ys, M w' B g n cap ys ∧ Chg w w' (fun k => k = g) ∧ Mrg lt n (at_ xs0) (at_ ys) la lb := by
  have HM0 := Side.mk h
  have hn := h.small
  have O1 := Side.mk o1
  have H2 := Side.mk h2
  have e1 : ((lm : Int) - la == 1) = false := by simp; omega
  have e2 : (lb : Int) - lm = 1 := by omega
  have e3 : ¬ (lm : Int) - la = 1 := by omega
  have hmn : lm < n := by omega
  clear h o1 h2 h0
  go_enter Try.func32, Try.ntmps32
  go_wp2_with fail
  go_loopw [14, 15] (fun v14 v15 wr => ∃ i j : Nat, v14 = .int .i64 (i : Int) ∧ v15 = .int .i64 (j : Int) ∧ la ≤ i ∧ i ≤ j ∧ j ≤ lm ∧ Side (Below w.heap.size w wr) ∧ Side (∀ k, la ≤ k → k < i → lt (at_ xs0 lm) (at_ xs0 k) = false) ∧ Side (∀ k, j ≤ k → k < lm → lt (at_ xs0 lm) (at_ xs0 k) = true)) (fun v14 v15 _ => (intOf v15 - intOf v14).toNat)
  case atStart => exact ⟨la, lm, rfl, rfl, Nat.le_refl _, by omega, Nat.le_refl _, ⟨(by (repeat (with_reducible first | exact Below.refl _ _ | apply below_drewN | apply below_drew | apply below_alloc)))⟩, ⟨fun k h1 h2 => by omega⟩, ⟨fun k h1 h2 => by omega⟩⟩
  case round =>
    obtain ⟨i, j, rfl, rfl, hmi, hij, hjb, HB, HLO, HHI⟩ := hrel
    obtain ⟨wz, hwz⟩ : ∃ wz : World, wz = wr := ⟨_, rfl⟩
    rw [← hwz] at HB ⊢
    clear hwz
    by_cases hlt : i < j
    · have hii : (i : Int) < j := by omega
      have hs1 : (i : Int) + j ≤ 9223372036854775807 := by omega
      have hs0 : (0 : Int) ≤ (i : Int) + j := by omega
      go_upto_region 17 with (fail)
      obtain ⟨hf, hfh⟩ : ∃ hf : Nat, hf = (i + j) / 2 := ⟨_, rfl⟩
      rw [show ((i : Int) + j) / 2 = (hf : Int) by omega]
      have hh1 : i ≤ hf := by omega
      have hh2 : hf < j := by omega
      clear hfh hs1 hs0
      obtain ⟨xs, hxs⟩ : ∃ xs, xs = xs0 := ⟨_, rfl⟩
      have HM := Side.mk (HM0.out.below HB.out)
      have HXS := Side.mk hxs
      rw [← hxs] at HM
      clear hxs
      have CMP := fun w => Side.mk (compare_at (at_ xs lm) (at_ xs hf) w)
      obtain ⟨rc, hrc⟩ : ∃ rc, rc = rcmp (at_ xs lm) (at_ xs hf) := ⟨_, rfl⟩
      obtain ⟨tt, htt⟩ : ∃ tt : Bool, tt = lt (at_ xs lm) (at_ xs hf) := ⟨_, rfl⟩
      have HDC : Side (decide (rc < 0) = tt) := ⟨by rw [htt, hrc]; rfl⟩
      have HTT := Side.mk htt
      rw [← hrc] at CMP
      obtain ⟨x0, x1, x2, x3⟩ := HM.out.cell (p := lm) (by omega)
      obtain ⟨y0, y1, y2, y3⟩ := HM.out.cell (p := hf) (by omega)
      have hgl := HM.out.lt
      have hPn : (lm : Int) < n := by omega
      have hQn : (hf : Int) < n := by omega
      have hP0 : (0 : Int) ≤ lm := by omega
      have hQ0 : (0 : Int) ≤ hf := by omega
      clear hrc htt
      have hf1 : (hf : Int) + 1 ≤ 9223372036854775807 := by omega
      obtain ⟨nt, hnt⟩ : ∃ nt : Bool, nt = !tt := ⟨_, rfl⟩
      have HNT := Side.mk hnt
      clear hnt
      go_cut [103] (fun v we => v = .bool nt ∧ Side (Below wz.heap.size wz we))
      case first =>
        clear HM HM0 HB HLO HHI HTT O1 HXS H2
        refine start_ (n := 12) (S := fun w' => True) (ds := []) #[false, false, false, false, false, false, false, false, false, false, false, false] (by kernel_rfl) rfl rfl trivial (fun _ => ?_)
        refine inv_at (B := [0, 0, 0, 6, 14, 0, 0, 96, 224, 511, 1023, 2047]) [0, 1, 2, 3, 4, 5, 6, 7, 8, 9, 10, 11] (fun a0_ b a w' => a = putSel a0_ b [(0, 92, .func (.func 20) #[] #[]), (1, 93, .slice (some ⟨g, 0, none⟩) n cap), (2, 94, .int .i64 lm), (3, 95, .pointer (some ⟨g, lm * 4, none⟩)), (4, 96, .agg #[.int .i64 (at_ xs lm).d, .int .i64 (at_ xs lm).b, .int .i64 (at_ xs lm).g, .int .i64 (at_ xs lm).i]), (5, 97, .slice (some ⟨g, 0, none⟩) n cap), (6, 98, .int .i64 hf), (7, 99, .pointer (some ⟨g, hf * 4, none⟩)), (8, 100, .agg #[.int .i64 (at_ xs hf).d, .int .i64 (at_ xs hf).b, .int .i64 (at_ xs hf).g, .int .i64 (at_ xs hf).i]), (9, 101, .int .i64 rc), (10, 102, .bool tt), (11, 103, .bool nt)] ∧ Below wz.drew.heap.size wz.drew w') rfl (by kernel_rfl) (by kernel_rfl) (by kernel_rfl) ?_ ?_ ?_
        · exact ⟨by simp only [putSel, Bool.false_eq_true, if_false], Below.refl _ _⟩
        · refine steps_cons (by rintro b a w' ⟨ha, HI⟩ hb hon hoff; refine ⟨_, rfl, fun K hK => ?_⟩; have e4 := poff ha (t := 4) rfl rfl; exact value_ (v := .func (.func 20) #[] #[]) (by rfl) rfl (by clear HI ha; go_simp) (hK.out _ _ ⟨upk ha 0 hb rfl rfl, HI⟩)) ?_
          refine steps_cons (by rintro b a w' ⟨ha, HI⟩ hb hon hoff; refine ⟨_, rfl, fun K hK => ?_⟩; have e0 := poff ha (t := 0) rfl rfl; exact value_ (v := .slice (some ⟨g, 0, none⟩) n cap) (by rfl) rfl (by clear HI ha; go_simp) (hK.out _ _ ⟨upk ha 1 hb rfl rfl, HI⟩)) ?_
          refine steps_cons (by rintro b a w' ⟨ha, HI⟩ hb hon hoff; refine ⟨_, rfl, fun K hK => ?_⟩; have e2 := poff ha (t := 2) rfl rfl; exact value_ (v := .int .i64 lm) (by rfl) rfl (by clear HI ha; go_simp) (hK.out _ _ ⟨upk ha 2 hb rfl rfl, HI⟩)) ?_
          refine steps_cons (by rintro b a w' ⟨ha, HI⟩ hb hon hoff; refine ⟨_, rfl, fun K hK => ?_⟩; have e93 := pon ha 1 (hon 1 rfl) rfl rfl rfl; have e94 := pon ha 2 (hon 2 rfl) rfl rfl rfl; exact value_ (v := .pointer (some ⟨g, lm * 4, none⟩)) (by rfl) rfl (by clear HI ha; go_simp) (hK.out _ _ ⟨upk ha 3 hb rfl rfl, HI⟩)) ?_
          refine steps_cons (by rintro b a w' ⟨ha, HI⟩ hb hon hoff; refine ⟨_, rfl, fun K hK => ?_⟩; have e95 := pon ha 3 (hon 3 rfl) rfl rfl rfl; have k0_ := bc HI hgl x0; have k1_ := bc HI hgl x1; have k2_ := bc HI hgl x2; have k3_ := bc HI hgl x3; have kz_ := bz HI hgl; exact value_ (v := .agg #[.int .i64 (at_ xs lm).d, .int .i64 (at_ xs lm).b, .int .i64 (at_ xs lm).g, .int .i64 (at_ xs lm).i]) (by rfl) rfl (by clear HI ha; go_simp) (hK.out _ _ ⟨upk ha 4 hb rfl rfl, HI⟩)) ?_
          refine steps_cons (by rintro b a w' ⟨ha, HI⟩ hb hon hoff; refine ⟨_, rfl, fun K hK => ?_⟩; have e0 := poff ha (t := 0) rfl rfl; exact value_ (v := .slice (some ⟨g, 0, none⟩) n cap) (by rfl) rfl (by clear HI ha; go_simp) (hK.out _ _ ⟨upk ha 5 hb rfl rfl, HI⟩)) ?_
          refine steps_cons (by rintro b a w' ⟨ha, HI⟩ hb hon hoff; refine ⟨_, rfl, fun K hK => ?_⟩; have e16 := poff ha (t := 16) rfl rfl; exact value_ (v := .int .i64 hf) (by rfl) rfl (by clear HI ha; go_simp) (hK.out _ _ ⟨upk ha 6 hb rfl rfl, HI⟩)) ?_
          refine steps_cons (by rintro b a w' ⟨ha, HI⟩ hb hon hoff; refine ⟨_, rfl, fun K hK => ?_⟩; have e97 := pon ha 5 (hon 5 rfl) rfl rfl rfl; have e98 := pon ha 6 (hon 6 rfl) rfl rfl rfl; exact value_ (v := .pointer (some ⟨g, hf * 4, none⟩)) (by rfl) rfl (by clear HI ha; go_simp) (hK.out _ _ ⟨upk ha 7 hb rfl rfl, HI⟩)) ?_
          refine steps_cons (by rintro b a w' ⟨ha, HI⟩ hb hon hoff; refine ⟨_, rfl, fun K hK => ?_⟩; have e99 := pon ha 7 (hon 7 rfl) rfl rfl rfl; have k0_ := bc HI hgl y0; have k1_ := bc HI hgl y1; have k2_ := bc HI hgl y2; have k3_ := bc HI hgl y3; have kz_ := bz HI hgl; exact value_ (v := .agg #[.int .i64 (at_ xs hf).d, .int .i64 (at_ xs hf).b, .int .i64 (at_ xs hf).g, .int .i64 (at_ xs hf).i]) (by rfl) rfl (by clear HI ha; go_simp) (hK.out _ _ ⟨upk ha 8 hb rfl rfl, HI⟩)) ?_
          refine steps_cons (by rintro b a w' ⟨ha, HI⟩ hb hon hoff; refine ⟨_, rfl, fun K hK => ?_⟩; have e92 := pon ha 0 (hon 0 rfl) rfl rfl rfl; have e96 := pon ha 4 (hon 4 rfl) rfl rfl rfl; have e100 := pon ha 8 (hon 8 rfl) rfl rfl rfl; refine goes_v Try.func20 (by kernel_rfl) rfl #[.agg #[.int .i64 (at_ xs lm).d, .int .i64 (at_ xs lm).b, .int .i64 (at_ xs lm).g, .int .i64 (at_ xs lm).i], .agg #[.int .i64 (at_ xs hf).d, .int .i64 (at_ xs hf).b, .int .i64 (at_ xs hf).g, .int .i64 (at_ xs hf).i]] (by rfl) rfl (x := .tmp 92) (by simp [Act.eval, e92]) rfl (by simp [Act.eval, e96, e100]) ((CMP w').out.mono ?_); rintro e_ w'' ⟨rfl, hbc⟩; exact ⟨_, rfl, hK.out _ _ ⟨upk ha 9 hb rfl rfl, below_then HI HI.size hbc⟩⟩) ?_
          refine steps_cons (by rintro b a w' ⟨ha, HI⟩ hb hon hoff; refine ⟨_, rfl, fun K hK => ?_⟩; have e101 := pon ha 9 (hon 9 rfl) rfl rfl rfl; exact value_ (v := .bool tt) (by rfl) rfl (by clear HI ha; go_simp; exact HDC.out) (hK.out _ _ ⟨upk ha 10 hb rfl rfl, HI⟩)) ?_
          refine steps_cons (by rintro b a w' ⟨ha, HI⟩ hb hon hoff; refine ⟨_, rfl, fun K hK => ?_⟩; have e102 := pon ha 10 (hon 10 rfl) rfl rfl rfl; exact value_ (v := .bool nt) (by rfl) rfl (by clear HI ha; go_simp; rw [HNT.out]; cases tt <;> rfl) (hK.out _ _ ⟨upk ha 11 hb rfl rfl, HI⟩)) ?_
          exact steps_nil
        · rintro b a w' hall ⟨ha, HI⟩
          have hb0_ := hall 0 rfl; have hb1_ := hall 1 rfl; have hb2_ := hall 2 rfl; have hb3_ := hall 3 rfl; have hb4_ := hall 4 rfl; have hb5_ := hall 5 rfl; have hb6_ := hall 6 rfl; have hb7_ := hall 7 rfl
          have hb8_ := hall 8 rfl; have hb9_ := hall 9 rfl; have hb10_ := hall 10 rfl; have hb11_ := hall 11 rfl
          subst ha
          simp only [putSel, hb0_, hb1_, hb2_, hb3_, hb4_, hb5_, hb6_, hb7_, hb8_, hb9_, hb10_, hb11_, if_true, Act.put, List.setIfInBounds_toArray, List.set_cons_zero, List.set_cons_succ]
          have hB := (below_then (below_drew (Below.refl _ wz)) (Nat.le_refl _) HI : Below wz.heap.size wz w')
          clear hall HI hb0_ hb1_ hb2_ hb3_ hb4_ hb5_ hb6_ hb7_ hb8_ hb9_ hb10_ hb11_
          refine ‹∀ (a' : Act) (w' : World), Met _ a' w' → _› _ _ ?_
          go_meet
          case rel => exact ⟨rfl, ⟨hB⟩⟩
      case rest =>
      obtain ⟨rfl, HC⟩ := hcut
      have HB2 : Side (Below w.heap.size w wc) := ⟨below_then HB.out HB.out.size HC.out⟩
      have htt := HTT.out
      rw [HXS.out] at htt
      have hnt := HNT.out
      rw [htt] at hnt
      have HT := Side.mk hnt
      clear HB HC HM x0 x1 x2 x3 y0 y1 y2 y3 hgl hPn hQn hP0 hQ0 CMP HDC HTT HXS htt HNT hnt
      go_step
      cases nt
      · have HHI2 : Side (∀ k, hf ≤ k → k < lm → lt (at_ xs0 lm) (at_ xs0 k) = true) := ⟨fun k a1 a2 => by
          have ht : lt (at_ xs0 lm) (at_ xs0 hf) = true := by have := HT.out; simpa using this
          by_cases e : k = hf
          · rw [e]; exact ht
          · exact ordR.lt_le ht (O1.out hf k (by omega) (by omega) a2)⟩
        clear HHI HT
        go_wp2
        go_roundw
        case rel => exact ⟨i, hf, rfl, rfl, hmi, hh1, by omega, HB2, HLO, HHI2⟩
        case measure => simp [intOf]; omega
      · have HLO2 : Side (∀ k, la ≤ k → k < hf + 1 → lt (at_ xs0 lm) (at_ xs0 k) = false) := ⟨fun k a1 a2 => by
          have ht : lt (at_ xs0 lm) (at_ xs0 hf) = false := by have := HT.out; simpa using this
          by_cases e : k = hf
          · rw [e]; exact ht
          · exact ordR.neg _ _ _ (O1.out k hf a1 (by omega) (by omega)) ht⟩
        clear HLO HT
        go_wp2
        go_roundw
        case rel => exact ⟨hf + 1, j, by simp, rfl, by omega, by omega, hjb, HB2, HLO2, HHI⟩
        case measure => simp [intOf]; omega
    · have hii : ¬ (i : Int) < j := by omega
      obtain rfl : i = j := by omega
      have HMz := Side.mk (HM0.out.below HB.out)
      have HCz : Side (Chg w wz (fun k => k = g)) := ⟨Chg.of_below HB.out⟩
      clear HM0 HB
      go_wp2_with fail
      go_loopw [17] (fun v17 wr => ∃ (k : Nat) (xs : List R), v17 = .int .i64 (k : Int) ∧ i ≤ k ∧ k ≤ lm ∧ Side (M wr B g n cap xs) ∧ Side (Chg w wr (fun k => k = g)) ∧ Side (∀ p, at_ xs p = at_ xs0 (rot k lm (lm + 1) p))) (fun v17 _ => (intOf v17).toNat)
      case atStart => exact ⟨lm, xs0, rfl, hjb, Nat.le_refl _, ⟨HMz.out.below (by (repeat (with_reducible first | exact Below.refl _ _ | apply below_drewN | apply below_drew | apply below_alloc)))⟩, ⟨HCz.out.trans (Chg.of_below (by (repeat (with_reducible first | exact Below.refl _ _ | apply below_drewN | apply below_drew | apply below_alloc)))) (fun _ _ h => h)⟩, ⟨fun p => by rw [show rot lm lm (lm + 1) p = p from rot_nil1 lm (lm + 1) p]⟩⟩
      case round =>
        clear HMz HCz
        obtain ⟨k, xs, rfl, hk, hki, HM, HC, HS⟩ := hrel
        obtain ⟨wz, hwz⟩ : ∃ wz : World, wz = wr := ⟨_, rfl⟩
        rw [← hwz] at HM HC ⊢
        clear hwz
        by_cases hlt : i < k
        · have hlti : (i : Int) < (k : Int) := by omega
          have hlen := HM.out.len
          obtain ⟨I, hI⟩ : ∃ I, I = k := ⟨_, rfl⟩
          obtain ⟨J, hJ⟩ : ∃ J, J = k - 1 := ⟨_, rfl⟩
          have hJ2 : k = J + 1 := by omega
          have HS2 : Side (∀ p, at_ (sw xs I J) p = at_ xs0 (rot J lm (lm + 1) p)) := ⟨fun p => by
            rw [at_sw (by omega) (by omega), HS.out, hI, hJ2, rot_less J lm p (by omega)]⟩
          have hIn : I < n := by omega
          have hJn : J < n := by omega
          have hIi : (I : Int) < n := by omega
          have hJi : (J : Int) < n := by omega
          have hI0 : (0 : Int) ≤ I := by omega
          have hJ0 : (0 : Int) ≤ J := by omega
          have HWJ : Side (IntKind.i64.wrap ((I : Int) - 1) = (J : Int)) := ⟨by rw [Go.IntWalk.i64_in ((I : Int) - 1) (by omega)]; omega⟩
          have hkJ : (I : Int) - 1 = (J : Int) := by omega
          have hJI : J < I := by omega
          have hiJ : i ≤ J := by omega
          have hJm : J ≤ lm := by omega
          subst hI
          clear hJ hJ2 hlen HS
          go_upto_region 23 with (fail)
          have hI := HM.out.cell (p := I) hIn
          obtain ⟨i0, i1, i2, i3⟩ := hI
          have hJ := HM.out.cell (p := J) hJn
          obtain ⟨j0, j1, j2, j3⟩ := hJ
          have hgl := HM.out.lt
          have hMd : M wz.drew B g n cap xs := HM.out.below (below_drew (Below.refl _ _))
          have HST1 := Side.mk (hMd.store hIn (at_ xs J) (.agg #[.int .i64 (at_ xs J).d, .int .i64 (at_ xs J).b, .int .i64 (at_ xs J).g, .int .i64 (at_ xs J).i]) rfl)
          have HST2 := Side.mk ((hMd.write hIn (at_ xs J)).store hJn (at_ xs I) (.agg #[.int .i64 (at_ xs I).d, .int .i64 (at_ xs I).b, .int .i64 (at_ xs I).g, .int .i64 (at_ xs I).i]) rfl)
          have HMS : Side (M ((wz.drew.setCells g (I * 4) (rcl (at_ xs J))).setCells g (J * 4) (rcl (at_ xs I))) B g n cap (sw xs I J)) := ⟨hMd.swap hIn hJn⟩
          have HCS : Side (Chg wz ((wz.drew.setCells g (I * 4) (rcl (at_ xs J))).setCells g (J * 4) (rcl (at_ xs I))) (fun k => k = g)) := ⟨(Chg.of_below (below_drew (Below.refl _ _))).trans (sw_chg hMd) (fun _ _ h => h)⟩
          clear hMd
          refine start_ (n := 18) (S := fun w' => True) (ds := []) #[false, false, false, false, false, false, false, false, false, false, false, false, false, false, false, false, false, false] (by kernel_rfl) rfl rfl trivial (fun _ => ?_)
          refine inv_at (B := [0, 0, 0, 0, 8, 0, 0, 64, 224, 480, 0, 0, 3072, 7168, 16355, 32739, 65535, 131071]) [0, 1, 2, 3, 4, 5, 6, 7, 8, 9, 10, 11, 12, 13, 14, 15, 16, 17] (fun a0_ b a w' => a = putSel a0_ b [(0, 113, .slice (some ⟨g, 0, none⟩) n cap), (1, 114, .int .i64 I), (2, 115, .slice (some ⟨g, 0, none⟩) n cap), (3, 116, .int .i64 I), (4, 117, .int .i64 J), (5, 118, .slice (some ⟨g, 0, none⟩) n cap), (6, 119, .int .i64 I), (7, 120, .int .i64 J), (8, 121, .pointer (some ⟨g, J * 4, none⟩)), (9, 122, .agg #[.int .i64 (at_ xs J).d, .int .i64 (at_ xs J).b, .int .i64 (at_ xs J).g, .int .i64 (at_ xs J).i]), (10, 123, .slice (some ⟨g, 0, none⟩) n cap), (11, 124, .int .i64 I), (12, 125, .pointer (some ⟨g, I * 4, none⟩)), (13, 126, .agg #[.int .i64 (at_ xs I).d, .int .i64 (at_ xs I).b, .int .i64 (at_ xs I).g, .int .i64 (at_ xs I).i]), (14, 127, .pointer (some ⟨g, I * 4, none⟩)), (16, 128, .pointer (some ⟨g, J * 4, none⟩))] ∧ Two wz.drew g I J xs 15 17 b w') rfl (by kernel_rfl) (by kernel_rfl) (by kernel_rfl) ?_ ?_ ?_
          · exact ⟨by simp only [putSel, Bool.false_eq_true, if_false], Two.start⟩
          · refine steps_cons (by rintro b a w' ⟨ha, HI⟩ hb hon hoff; refine ⟨_, rfl, fun K hK => ?_⟩; have e0 := poff ha (t := 0) rfl rfl; exact value_ (v := .slice (some ⟨g, 0, none⟩) n cap) (by rfl) rfl (by clear HI ha; go_simp) (hK.out _ _ ⟨upk ha 0 hb rfl rfl, HI.low 0 (by decide)⟩)) ?_
            refine steps_cons (by rintro b a w' ⟨ha, HI⟩ hb hon hoff; refine ⟨_, rfl, fun K hK => ?_⟩; have e17 := poff ha (t := 17) rfl rfl; exact value_ (v := .int .i64 I) (by rfl) rfl (by clear HI ha; go_simp) (hK.out _ _ ⟨upk ha 1 hb rfl rfl, HI.low 1 (by decide)⟩)) ?_
            refine steps_cons (by rintro b a w' ⟨ha, HI⟩ hb hon hoff; refine ⟨_, rfl, fun K hK => ?_⟩; have e0 := poff ha (t := 0) rfl rfl; exact value_ (v := .slice (some ⟨g, 0, none⟩) n cap) (by rfl) rfl (by clear HI ha; go_simp) (hK.out _ _ ⟨upk ha 2 hb rfl rfl, HI.low 2 (by decide)⟩)) ?_
            refine steps_cons (by rintro b a w' ⟨ha, HI⟩ hb hon hoff; refine ⟨_, rfl, fun K hK => ?_⟩; have e17 := poff ha (t := 17) rfl rfl; exact value_ (v := .int .i64 I) (by rfl) rfl (by clear HI ha; go_simp) (hK.out _ _ ⟨upk ha 3 hb rfl rfl, HI.low 3 (by decide)⟩)) ?_
            refine steps_cons (by rintro b a w' ⟨ha, HI⟩ hb hon hoff; refine ⟨_, rfl, fun K hK => ?_⟩; have e116 := pon ha 3 (hon 3 rfl) rfl rfl rfl; exact value_ (v := .int .i64 J) (by rfl) rfl (by clear HI ha; have h__ := HWJ.out; clear hkJ; go_simp) (hK.out _ _ ⟨upk ha 4 hb rfl rfl, HI.low 4 (by decide)⟩)) ?_
            refine steps_cons (by rintro b a w' ⟨ha, HI⟩ hb hon hoff; refine ⟨_, rfl, fun K hK => ?_⟩; have e0 := poff ha (t := 0) rfl rfl; exact value_ (v := .slice (some ⟨g, 0, none⟩) n cap) (by rfl) rfl (by clear HI ha; go_simp) (hK.out _ _ ⟨upk ha 5 hb rfl rfl, HI.low 5 (by decide)⟩)) ?_
            refine steps_cons (by rintro b a w' ⟨ha, HI⟩ hb hon hoff; refine ⟨_, rfl, fun K hK => ?_⟩; have e17 := poff ha (t := 17) rfl rfl; exact value_ (v := .int .i64 I) (by rfl) rfl (by clear HI ha; go_simp) (hK.out _ _ ⟨upk ha 6 hb rfl rfl, HI.low 6 (by decide)⟩)) ?_
            refine steps_cons (by rintro b a w' ⟨ha, HI⟩ hb hon hoff; refine ⟨_, rfl, fun K hK => ?_⟩; have e119 := pon ha 6 (hon 6 rfl) rfl rfl rfl; exact value_ (v := .int .i64 J) (by rfl) rfl (by clear HI ha; have h__ := HWJ.out; clear hkJ; go_simp) (hK.out _ _ ⟨upk ha 7 hb rfl rfl, HI.low 7 (by decide)⟩)) ?_
            refine steps_cons (by rintro b a w' ⟨ha, HI⟩ hb hon hoff; refine ⟨_, rfl, fun K hK => ?_⟩; have e118 := pon ha 5 (hon 5 rfl) rfl rfl rfl; have e120 := pon ha 7 (hon 7 rfl) rfl rfl rfl; exact value_ (v := .pointer (some ⟨g, J * 4, none⟩)) (by rfl) rfl (by clear HI ha; go_simp) (hK.out _ _ ⟨upk ha 8 hb rfl rfl, HI.low 8 (by decide)⟩)) ?_
            refine steps_cons (by rintro b a w' ⟨ha, HI⟩ hb hon hoff; refine ⟨_, rfl, fun K hK => ?_⟩; have e121 := pon ha 8 (hon 8 rfl) rfl rfl rfl; obtain rfl := HI.n (hoff 15 rfl); exact value_ (v := .agg #[.int .i64 (at_ xs J).d, .int .i64 (at_ xs J).b, .int .i64 (at_ xs J).g, .int .i64 (at_ xs J).i]) (by rfl) rfl (by clear HI ha; go_simp) (hK.out _ _ ⟨upk ha 9 hb rfl rfl, HI.low 9 (by decide)⟩)) ?_
            refine steps_cons (by rintro b a w' ⟨ha, HI⟩ hb hon hoff; refine ⟨_, rfl, fun K hK => ?_⟩; have e0 := poff ha (t := 0) rfl rfl; exact value_ (v := .slice (some ⟨g, 0, none⟩) n cap) (by rfl) rfl (by clear HI ha; go_simp) (hK.out _ _ ⟨upk ha 10 hb rfl rfl, HI.low 10 (by decide)⟩)) ?_
            refine steps_cons (by rintro b a w' ⟨ha, HI⟩ hb hon hoff; refine ⟨_, rfl, fun K hK => ?_⟩; have e17 := poff ha (t := 17) rfl rfl; exact value_ (v := .int .i64 I) (by rfl) rfl (by clear HI ha; go_simp) (hK.out _ _ ⟨upk ha 11 hb rfl rfl, HI.low 11 (by decide)⟩)) ?_
            refine steps_cons (by rintro b a w' ⟨ha, HI⟩ hb hon hoff; refine ⟨_, rfl, fun K hK => ?_⟩; have e123 := pon ha 10 (hon 10 rfl) rfl rfl rfl; have e124 := pon ha 11 (hon 11 rfl) rfl rfl rfl; exact value_ (v := .pointer (some ⟨g, I * 4, none⟩)) (by rfl) rfl (by clear HI ha; go_simp) (hK.out _ _ ⟨upk ha 12 hb rfl rfl, HI.low 12 (by decide)⟩)) ?_
            refine steps_cons (by rintro b a w' ⟨ha, HI⟩ hb hon hoff; refine ⟨_, rfl, fun K hK => ?_⟩; have e125 := pon ha 12 (hon 12 rfl) rfl rfl rfl; obtain rfl := HI.n (hoff 15 rfl); exact value_ (v := .agg #[.int .i64 (at_ xs I).d, .int .i64 (at_ xs I).b, .int .i64 (at_ xs I).g, .int .i64 (at_ xs I).i]) (by rfl) rfl (by clear HI ha; go_simp) (hK.out _ _ ⟨upk ha 13 hb rfl rfl, HI.low 13 (by decide)⟩)) ?_
            refine steps_cons (by rintro b a w' ⟨ha, HI⟩ hb hon hoff; refine ⟨_, rfl, fun K hK => ?_⟩; have e113 := pon ha 0 (hon 0 rfl) rfl rfl rfl; have e114 := pon ha 1 (hon 1 rfl) rfl rfl rfl; exact value_ (v := .pointer (some ⟨g, I * 4, none⟩)) (by rfl) rfl (by clear HI ha; go_simp) (hK.out _ _ ⟨upk ha 14 hb rfl rfl, HI.low 14 (by decide)⟩)) ?_
            refine steps_cons (by rintro b a w' ⟨ha, HI⟩ hb hon hoff; refine ⟨_, rfl, fun K hK => ?_⟩; have e127 := pon ha 14 (hon 14 rfl) rfl rfl rfl; have e122 := pon ha 9 (hon 9 rfl) rfl rfl rfl; obtain rfl := HI.n hb; exact skip_ (by rfl) rfl (by unfold execOp; simp [Act.eval, e127, e122, HST1.out]) (hK.out _ _ ⟨ups ha rfl, HI.st1 hb (by decide)⟩)) ?_
            refine steps_cons (by rintro b a w' ⟨ha, HI⟩ hb hon hoff; refine ⟨_, rfl, fun K hK => ?_⟩; have e115 := pon ha 2 (hon 2 rfl) rfl rfl rfl; have e117 := pon ha 4 (hon 4 rfl) rfl rfl rfl; exact value_ (v := .pointer (some ⟨g, J * 4, none⟩)) (by rfl) rfl (by clear HI ha; go_simp) (hK.out _ _ ⟨upk ha 15 hb rfl rfl, HI.low 16 (by decide)⟩)) ?_
            refine steps_cons (by rintro b a w' ⟨ha, HI⟩ hb hon hoff; refine ⟨_, rfl, fun K hK => ?_⟩; have e128 := pon ha 15 (hon 16 rfl) rfl rfl rfl; have e126 := pon ha 13 (hon 13 rfl) rfl rfl rfl; obtain rfl := HI.y1 (hon 15 rfl) hb; exact skip_ (by rfl) rfl (by unfold execOp; simp [Act.eval, e128, e126, HST2.out]) (hK.out _ _ ⟨ups ha rfl, Two.st2 (hon 15 rfl) (by decide)⟩)) ?_
            exact steps_nil
          · rintro b a w' hall ⟨ha, HI⟩
            have hb0_ := hall 0 rfl; have hb1_ := hall 1 rfl; have hb2_ := hall 2 rfl; have hb3_ := hall 3 rfl; have hb4_ := hall 4 rfl; have hb5_ := hall 5 rfl; have hb6_ := hall 6 rfl; have hb7_ := hall 7 rfl
            have hb8_ := hall 8 rfl; have hb9_ := hall 9 rfl; have hb10_ := hall 10 rfl; have hb11_ := hall 11 rfl; have hb12_ := hall 12 rfl; have hb13_ := hall 13 rfl; have hb14_ := hall 14 rfl; have hb15_ := hall 15 rfl
            have hb16_ := hall 16 rfl; have hb17_ := hall 17 rfl
            subst ha
            simp only [putSel, hb0_, hb1_, hb2_, hb3_, hb4_, hb5_, hb6_, hb7_, hb8_, hb9_, hb10_, hb11_, hb12_, hb13_, hb14_, hb16_, if_true, Act.put, List.setIfInBounds_toArray, List.set_cons_zero, List.set_cons_succ]
            obtain rfl := HI.y2 hb17_
            clear hall HI hb0_ hb1_ hb2_ hb3_ hb4_ hb5_ hb6_ hb7_ hb8_ hb9_ hb10_ hb11_ hb12_ hb13_ hb14_ hb15_ hb16_ hb17_
            have HC2 : Side (Chg w ((wz.drew.setCells g (I * 4) (rcl (at_ xs J))).setCells g (J * 4) (rcl (at_ xs I))) (fun k => k = g)) := ⟨HC.out.trans HCS.out (fun _ _ h => h)⟩
            generalize (wz.drew.setCells g (I * 4) (rcl (at_ xs J))).setCells g (J * 4) (rcl (at_ xs I)) = w3 at *
            generalize sw xs I J = ys at *
            clear HST1 HST2 i0 i1 i2 i3 j0 j1 j2 j3 hgl HM HC HCS HWJ
            go_wp2
            go_roundw
            case rel => exact ⟨J, ys, by first | rfl | (simp; done) | (simp; omega), hiJ, hJm, HMS, HC2, HS2⟩
            case measure => simp [intOf]; try omega
        · have hlti : ¬ (i : Int) < (k : Int) := by omega
          obtain rfl : k = i := by omega
          have HG : Side (Mrg lt n (at_ xs0) (at_ xs) la lb) := ⟨by
            have e2 := H2.out
            subst e2
            refine Mrg.of_rot ordR (s := k) (m := lm) (e := lm + 1) hmi hjb (by omega) (Nat.le_refl _) hb O1.out (fun p q a1 a2 a3 => by omega) (fun p q a1 a2 a3 a4 => ?_) (fun p q a1 a2 a3 a4 => ?_) (fun p q a1 a2 a3 a4 => by omega) (fun p => HS.out p)
            · obtain rfl : q = lm := by omega
              exact HHI.out p a1 a2
            · obtain rfl : q = lm := by omega
              exact HLO.out p a1 a2⟩
          go_wp2_with fail
          exact bodyPost_ret (v := .tuple #[]) (results_none rfl _ _ _) rfl ⟨rfl, xs, HM.out.below (by (repeat (with_reducible first | exact Below.refl _ _ | apply below_drewN | apply below_drew | apply below_alloc))), HC.out.trans (Chg.of_below (by (repeat (with_reducible first | exact Below.refl _ _ | apply below_drewN | apply below_drew | apply below_alloc)))) (fun _ _ h => h), HG.out⟩
end Go.Proofs.Ytmjgadhknliiaaa.SoF
