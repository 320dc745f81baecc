/- slices.symMergeCmpFunc over ranks: a piece. No condition. -/
import Derived.Test.YtmjgadhknliiaaaSoGp
set_option linter.unusedVariables false
set_option linter.unusedSimpArgs false
namespace Go.Proofs.Ytmjgadhknliiaaa.SoG2
open Go.RowKit Go.Proofs.Ytmjgadhknliiaaa.Kit Go.Proofs.Ytmjgadhknliiaaa.Kit3 Go.Proofs.Ytmjgadhknliiaaa.Kit4 Go.Proofs.Ytmjgadhknliiaaa.Kit5 Go.Proofs.Ytmjgadhknliiaaa.Rank Go.Proofs.Ytmjgadhknliiaaa.SoA Go.Proofs.Ytmjgadhknliiaaa.SoD Go.Proofs.Ytmjgadhknliiaaa.SoC Go.Proofs.Ytmjgadhknliiaaa.SoE Go.Proofs.Ytmjgadhknliiaaa.SoF SoPlain Go.Proofs.Ytmjgadhknliiaaa.SoGp
open Go.Proofs.YtmjgadhknliiaaaW.PrintLast
set_option maxHeartbeats 400000000 in
set_option maxRecDepth 100000 in
theorem piece : SoGp.part.2.1 := by
  set_option tactic.hygienic false in (intro _; intros)
  have hii : (s : Int) < r := by omega
  have hs1 : (s : Int) + r ≤ 9223372036854775807 := by omega
  have hs0 : (0 : Int) ≤ (s : Int) + r := by omega
  go_upto_region 35 with (fail)
  obtain ⟨hf, hfh⟩ : ∃ hf : Nat, hf = (s + r) / 2 := ⟨_, rfl⟩
  rw [show ((s : Int) + r) / 2 = (hf : Int) by omega]
  have hh1 : s ≤ hf := by omega
  have hh2 : hf < r := by omega
  have hx := HIX.out hf (by omega) (by omega)
  obtain ⟨PC, hPC⟩ : ∃ PC, PC = mid + lm - 1 - hf := ⟨_, rfl⟩
  have HPC := Side.mk hPC
  have hpc1 : PC < n := by omega
  have HWP : Side (IntKind.i64.wrap ((mid : Int) + lm - 1 - hf) = (PC : Int)) := ⟨by rw [Go.IntWalk.i64_in ((mid : Int) + lm - 1 - hf) (by omega)]; omega⟩
  have hf1 : (hf : Int) + 1 ≤ 9223372036854775807 := by omega
  clear hfh hs1 hs0 hx hPC
  obtain ⟨xs, hxs⟩ : ∃ xs, xs = xs0 := ⟨_, rfl⟩
  have HM := Side.mk (HM1.out.below HB.out)
  have HXS := Side.mk hxs
  rw [← hxs] at HM
  clear hxs
  have CMP := fun w => Side.mk (compare_at (at_ xs PC) (at_ xs hf) w)
  obtain ⟨rc, hrc⟩ : ∃ rc, rc = rcmp (at_ xs PC) (at_ xs hf) := ⟨_, rfl⟩
  obtain ⟨tt, htt⟩ : ∃ tt : Bool, tt = lt (at_ xs PC) (at_ xs hf) := ⟨_, rfl⟩
  have HDC : Side (decide (rc < 0) = tt) := ⟨by rw [htt, hrc]; rfl⟩
  have HTT := Side.mk htt
  rw [← hrc] at CMP
  obtain ⟨x0, x1, x2, x3⟩ := HM.out.cell (p := PC) (by omega)
  obtain ⟨y0, y1, y2, y3⟩ := HM.out.cell (p := hf) (by omega)
  have hgl := HM.out.lt
  have hPn : (PC : Int) < n := by omega
  have hQn : (hf : Int) < n := by omega
  have hP0 : (0 : Int) ≤ PC := by omega
  have hQ0 : (0 : Int) ≤ hf := by omega
  clear hrc htt
  obtain ⟨nt, hnt⟩ : ∃ nt : Bool, nt = !tt := ⟨_, rfl⟩
  have HNT := Side.mk hnt
  clear hnt
  go_cut [171] (fun v we => v = .bool nt ∧ Side (Below wz.heap.size wz we))
  case first =>
    clear HM HM1 HC1 HB HS HTT O1 O2 HXS HI HIX HSR HMID HPC
    refine start_ (n := 14) (S := fun w' => True) (ds := []) #[false, false, false, false, false, false, false, false, false, false, false, false, false, false] (by kernel_rfl) rfl rfl trivial (fun _ => ?_)
    refine inv_at (B := [0, 0, 0, 0, 12, 30, 62, 0, 0, 384, 896, 2047, 4095, 8191]) [0, 1, 2, 3, 4, 5, 6, 7, 8, 9, 10, 11, 12, 13] (fun a0_ b a w' => a = putSel a0_ b [(0, 158, .func (.func 20) #[] #[]), (1, 159, .slice (some ⟨g, 0, none⟩) n cap), (2, 160, .int .i64 ((mid : Int) + lm - 1)), (3, 161, .int .i64 hf), (4, 162, .int .i64 PC), (5, 163, .pointer (some ⟨g, PC * 4, none⟩)), (6, 164, .agg #[.int .i64 (at_ xs PC).d, .int .i64 (at_ xs PC).b, .int .i64 (at_ xs PC).g, .int .i64 (at_ xs PC).i]), (7, 165, .slice (some ⟨g, 0, none⟩) n cap), (8, 166, .int .i64 hf), (9, 167, .pointer (some ⟨g, hf * 4, none⟩)), (10, 168, .agg #[.int .i64 (at_ xs hf).d, .int .i64 (at_ xs hf).b, .int .i64 (at_ xs hf).g, .int .i64 (at_ xs hf).i]), (11, 169, .int .i64 rc), (12, 170, .bool tt), (13, 171, .bool nt)] ∧ Below wz.drew.heap.size wz.drew w') rfl (by kernel_rfl) (by kernel_rfl) (by kernel_rfl) ?_ ?_ ?_
    · exact ⟨by simp only [putSel, Bool.false_eq_true, if_false], Below.refl _ _⟩
    · refine steps_cons (by rintro b a w' ⟨ha, HI⟩ hb hon hoff; refine ⟨_, rfl, fun K hK => ?_⟩; have e4 := poff ha (t := 4) rfl rfl; exact value_ (v := .func (.func 20) #[] #[]) (by rfl) rfl (by clear HI ha; go_simp) (hK.out _ _ ⟨upk ha 0 hb rfl rfl, HI⟩)) ?_
      refine steps_cons (by rintro b a w' ⟨ha, HI⟩ hb hon hoff; refine ⟨_, rfl, fun K hK => ?_⟩; have e0 := poff ha (t := 0) rfl rfl; exact value_ (v := .slice (some ⟨g, 0, none⟩) n cap) (by rfl) rfl (by clear HI ha; go_simp) (hK.out _ _ ⟨upk ha 1 hb rfl rfl, HI⟩)) ?_
      refine steps_cons (by rintro b a w' ⟨ha, HI⟩ hb hon hoff; refine ⟨_, rfl, fun K hK => ?_⟩; have e22 := poff ha (t := 22) rfl rfl; exact value_ (v := .int .i64 ((mid : Int) + lm - 1)) (by rfl) rfl (by clear HI ha; go_simp) (hK.out _ _ ⟨upk ha 2 hb rfl rfl, HI⟩)) ?_
      refine steps_cons (by rintro b a w' ⟨ha, HI⟩ hb hon hoff; refine ⟨_, rfl, fun K hK => ?_⟩; have e23 := poff ha (t := 23) rfl rfl; exact value_ (v := .int .i64 hf) (by rfl) rfl (by clear HI ha; go_simp) (hK.out _ _ ⟨upk ha 3 hb rfl rfl, HI⟩)) ?_
      refine steps_cons (by rintro b a w' ⟨ha, HI⟩ hb hon hoff; refine ⟨_, rfl, fun K hK => ?_⟩; have e160 := pon ha 2 (hon 2 rfl) rfl rfl rfl; have e161 := pon ha 3 (hon 3 rfl) rfl rfl rfl; exact value_ (v := .int .i64 PC) (by rfl) rfl (by clear HI ha; go_simp; exact HWP.out) (hK.out _ _ ⟨upk ha 4 hb rfl rfl, HI⟩)) ?_
      refine steps_cons (by rintro b a w' ⟨ha, HI⟩ hb hon hoff; refine ⟨_, rfl, fun K hK => ?_⟩; have e159 := pon ha 1 (hon 1 rfl) rfl rfl rfl; have e162 := pon ha 4 (hon 4 rfl) rfl rfl rfl; exact value_ (v := .pointer (some ⟨g, PC * 4, none⟩)) (by rfl) rfl (by clear HI ha; go_simp) (hK.out _ _ ⟨upk ha 5 hb rfl rfl, HI⟩)) ?_
      refine steps_cons (by rintro b a w' ⟨ha, HI⟩ hb hon hoff; refine ⟨_, rfl, fun K hK => ?_⟩; have e163 := pon ha 5 (hon 5 rfl) rfl rfl rfl; have k0_ := bc HI hgl x0; have k1_ := bc HI hgl x1; have k2_ := bc HI hgl x2; have k3_ := bc HI hgl x3; have kz_ := bz HI hgl; exact value_ (v := .agg #[.int .i64 (at_ xs PC).d, .int .i64 (at_ xs PC).b, .int .i64 (at_ xs PC).g, .int .i64 (at_ xs PC).i]) (by rfl) rfl (by clear HI ha; go_simp) (hK.out _ _ ⟨upk ha 6 hb rfl rfl, HI⟩)) ?_
      refine steps_cons (by rintro b a w' ⟨ha, HI⟩ hb hon hoff; refine ⟨_, rfl, fun K hK => ?_⟩; have e0 := poff ha (t := 0) rfl rfl; exact value_ (v := .slice (some ⟨g, 0, none⟩) n cap) (by rfl) rfl (by clear HI ha; go_simp) (hK.out _ _ ⟨upk ha 7 hb rfl rfl, HI⟩)) ?_
      refine steps_cons (by rintro b a w' ⟨ha, HI⟩ hb hon hoff; refine ⟨_, rfl, fun K hK => ?_⟩; have e23 := poff ha (t := 23) rfl rfl; exact value_ (v := .int .i64 hf) (by rfl) rfl (by clear HI ha; go_simp) (hK.out _ _ ⟨upk ha 8 hb rfl rfl, HI⟩)) ?_
      refine steps_cons (by rintro b a w' ⟨ha, HI⟩ hb hon hoff; refine ⟨_, rfl, fun K hK => ?_⟩; have e165 := pon ha 7 (hon 7 rfl) rfl rfl rfl; have e166 := pon ha 8 (hon 8 rfl) rfl rfl rfl; exact value_ (v := .pointer (some ⟨g, hf * 4, none⟩)) (by rfl) rfl (by clear HI ha; go_simp) (hK.out _ _ ⟨upk ha 9 hb rfl rfl, HI⟩)) ?_
      refine steps_cons (by rintro b a w' ⟨ha, HI⟩ hb hon hoff; refine ⟨_, rfl, fun K hK => ?_⟩; have e167 := pon ha 9 (hon 9 rfl) rfl rfl rfl; have k0_ := bc HI hgl y0; have k1_ := bc HI hgl y1; have k2_ := bc HI hgl y2; have k3_ := bc HI hgl y3; have kz_ := bz HI hgl; exact value_ (v := .agg #[.int .i64 (at_ xs hf).d, .int .i64 (at_ xs hf).b, .int .i64 (at_ xs hf).g, .int .i64 (at_ xs hf).i]) (by rfl) rfl (by clear HI ha; go_simp) (hK.out _ _ ⟨upk ha 10 hb rfl rfl, HI⟩)) ?_
      refine steps_cons (by rintro b a w' ⟨ha, HI⟩ hb hon hoff; refine ⟨_, rfl, fun K hK => ?_⟩; have e158 := pon ha 0 (hon 0 rfl) rfl rfl rfl; have e164 := pon ha 6 (hon 6 rfl) rfl rfl rfl; have e168 := pon ha 10 (hon 10 rfl) rfl rfl rfl; refine goes_v Try.func20 (by kernel_rfl) rfl #[.agg #[.int .i64 (at_ xs PC).d, .int .i64 (at_ xs PC).b, .int .i64 (at_ xs PC).g, .int .i64 (at_ xs PC).i], .agg #[.int .i64 (at_ xs hf).d, .int .i64 (at_ xs hf).b, .int .i64 (at_ xs hf).g, .int .i64 (at_ xs hf).i]] (by rfl) rfl (x := .tmp 158) (by simp [Act.eval, e158]) rfl (by simp [Act.eval, e164, e168]) ((CMP w').out.mono ?_); rintro e_ w'' ⟨rfl, hbc⟩; exact ⟨_, rfl, hK.out _ _ ⟨upk ha 11 hb rfl rfl, below_then HI HI.size hbc⟩⟩) ?_
      refine steps_cons (by rintro b a w' ⟨ha, HI⟩ hb hon hoff; refine ⟨_, rfl, fun K hK => ?_⟩; have e169 := pon ha 11 (hon 11 rfl) rfl rfl rfl; exact value_ (v := .bool tt) (by rfl) rfl (by clear HI ha; go_simp; exact HDC.out) (hK.out _ _ ⟨upk ha 12 hb rfl rfl, HI⟩)) ?_
      refine steps_cons (by rintro b a w' ⟨ha, HI⟩ hb hon hoff; refine ⟨_, rfl, fun K hK => ?_⟩; have e170 := pon ha 12 (hon 12 rfl) rfl rfl rfl; exact value_ (v := .bool nt) (by rfl) rfl (by clear HI ha; go_simp; rw [HNT.out]; cases tt <;> rfl) (hK.out _ _ ⟨upk ha 13 hb rfl rfl, HI⟩)) ?_
      exact steps_nil
    · rintro b a w' hall ⟨ha, HI⟩
      have hb0_ := hall 0 rfl; have hb1_ := hall 1 rfl; have hb2_ := hall 2 rfl; have hb3_ := hall 3 rfl; have hb4_ := hall 4 rfl; have hb5_ := hall 5 rfl; have hb6_ := hall 6 rfl; have hb7_ := hall 7 rfl
      have hb8_ := hall 8 rfl; have hb9_ := hall 9 rfl; have hb10_ := hall 10 rfl; have hb11_ := hall 11 rfl; have hb12_ := hall 12 rfl; have hb13_ := hall 13 rfl
      subst ha
      simp only [putSel, hb0_, hb1_, hb2_, hb3_, hb4_, hb5_, hb6_, hb7_, hb8_, hb9_, hb10_, hb11_, hb12_, hb13_, if_true, Act.put, List.setIfInBounds_toArray, List.set_cons_zero, List.set_cons_succ]
      have hB := (below_then (below_drew (Below.refl _ wz)) (Nat.le_refl _) HI : Below wz.heap.size wz w')
      clear hall HI hb0_ hb1_ hb2_ hb3_ hb4_ hb5_ hb6_ hb7_ hb8_ hb9_ hb10_ hb11_ hb12_ hb13_
      refine ‹∀ (a' : Act) (w' : World), Met _ a' w' → _› _ _ ?_
      go_meet
      case rel => exact ⟨rfl, ⟨hB⟩⟩
  case rest =>
  obtain ⟨rfl, HC⟩ := hcut
  have HB2 : Side (Below wd.heap.size wd wc) := ⟨below_then HB.out HB.out.size HC.out⟩
  have htt := HTT.out
  rw [HXS.out, HPC.out] at htt
  have hnt := HNT.out
  rw [htt] at hnt
  have HT := Side.mk hnt
  clear HB HC HM x0 x1 x2 x3 y0 y1 y2 y3 hgl hPn hQn hP0 hQ0 CMP HDC HTT HXS htt HNT hnt HWP HPC
  go_step
  cases nt
  · have HS2 : Side (Bs lt (at_ xs0) (mid + lm) s0 r0 s hf) := ⟨HS.out.dn ordR O1.out O2.out has hrm HIX.out hh1 hh2 (by have := HT.out; simpa using this)⟩
    clear HS HT
    go_wp2
    go_roundw
    case rel => exact ⟨s, hf, rfl, rfl, hss, hh1, by omega, HB2, HS2⟩
    case measure => simp [intOf]; omega
  · have HS2 : Side (Bs lt (at_ xs0) (mid + lm) s0 r0 (hf + 1) r) := ⟨HS.out.up ordR O1.out O2.out has hrm HIX.out hh1 hh2 (by have := HT.out; simpa using this)⟩
    clear HS HT
    go_wp2
    go_roundw
    case rel => exact ⟨hf + 1, r, by simp, rfl, by omega, by omega, hrr, HB2, HS2⟩
    case measure => simp [intOf]; omega
end Go.Proofs.Ytmjgadhknliiaaa.SoG2
