/- RankSorts: a piece of the walk. No condition. -/
import Derived.Test.YtmjgadhknliiaaaSoOp
set_option linter.unusedVariables false
set_option linter.unusedSimpArgs false
namespace Go.Proofs.Ytmjgadhknliiaaa.SoO3
open Go.RowKit Go.Proofs.Ytmjgadhknliiaaa.Kit Go.Proofs.Ytmjgadhknliiaaa.Kit2 Go.Proofs.Ytmjgadhknliiaaa.Kit4 Go.Proofs.Ytmjgadhknliiaaa.Kit5 Go.Proofs.Ytmjgadhknliiaaa.Rank Go.Proofs.Ytmjgadhknliiaaa.SoA Go.Proofs.Ytmjgadhknliiaaa.SoK Go.Proofs.Ytmjgadhknliiaaa.SoM Go.Proofs.Ytmjgadhknliiaaa.SoN SoPlain
open Go.Proofs.YtmjgadhknliiaaaW.PrintLast
open Go.Proofs.Ytmjgadhknliiaaa.SoOp
set_option maxHeartbeats 400000000 in
set_option maxRecDepth 100000 in
theorem piece : SoOp.part.2.2.1 := by
  set_option tactic.hygienic false in (intro _; intros)
  have hkni : (k : Int) < n := by omega
  have hk1 : (k : Int) + 1 ≤ 9223372036854775807 := by omega
  have hbw := HB2.out.trans (HB.out.mono HB2.out.size)
  have hbz := hbw.trans (HQ.out.mono hbw.size)
  have hb2z := HB.out.trans (HQ.out.mono HB.out.size)
  obtain ⟨g, off, rfl, hgl, c0, c1, c2, c3⟩ := row4 HROW.out hbz k hkn
  obtain ⟨x, hx⟩ : ∃ x, x = Y V k := ⟨_, rfl⟩
  have hwl := HW.out.len
  have hus := Stb.unique ordR HX.out.2.1 HW.out.stb HX.out.2.2 HW.out.srt k hkn
  obtain ⟨g6, rfl, hgw, d0, d1, d2, d3⟩ := FRow.cells (i := k) (HF.out.below HQ.out) (by omega)
  obtain ⟨g5, rfl, hgs, s0, s1, s2, s3⟩ := RRow.cells (i := k) (HS2.out.below hb2z) (by rw [HX.out.1]; exact hkn)
  obtain ⟨g3, rfl, hgm, m0, m1, m2, m3⟩ := RRow.cells (i := k) (HM2.out.below hb2z) (by rw [ls_len]; exact hkn)
  rw [ls_at V n k hkn, ← hx] at m0 m1 m2 m3
  rw [← hx] at c0 c1 c2 c3
  rw [hus] at s0 s1 s2 s3
  obtain ⟨y, hy⟩ : ∃ y, y = at_ ws k := ⟨_, rfl⟩
  rw [← hy] at s0 s1 s2 s3 d0 d1 d2 d3
  have CY := Side.mk (fun w' => Made_at y w')
  have CX := Side.mk (fun w' => Made_at x w')
  clear hx hy hus hwl hbw hbz hb2z HX HW HS2 HM2 HF HROW HB HB2
  go_upto_region 24 with (fail)
  go_cut [102] (fun v we => v = .bool false ∧ Side (Below wz.heap.size wz we))
  case first =>
    refine start_ (n := 22) (S := fun w' => True) (ds := []) #[false, false, false, false, false, false, false, false, false, false, false, false, false, false, false, false, false, false, false, false, false, false] (by kernel_rfl) rfl rfl trivial (fun _ => ?_)
    refine inv_at (B := [0, 0, 3, 7, 0, 0, 48, 112, 240, 511, 1023, 2047, 2047, 8191, 16383, 2047, 2047, 100351, 231423, 493567, 1048575, 2097151]) [0, 1, 2, 3, 4, 5, 6, 7, 8, 9, 10, 11, 12, 13, 14, 15, 16, 17, 18, 19, 20, 21] (fun a0_ b a w' => a = putSel a0_ b [(0, 81, .slice (some ⟨g5, 0, none⟩) n c5), (1, 82, .int .i64 k), (2, 83, .pointer (some ⟨g5, k * 4, none⟩)), (3, 84, .agg #[.int .i64 y.d, .int .i64 y.b, .int .i64 y.g, .int .i64 y.i]), (4, 85, .slice (some ⟨g6, 0, none⟩) n c6), (5, 86, .int .i64 k), (6, 87, .pointer (some ⟨g6, k * 4, none⟩)), (7, 88, .agg #[.int .i64 y.d, .int .i64 y.b, .int .i64 y.g, .int .i64 y.i]), (8, 89, .agg #[.int .i64 y.d, .int .i64 y.b, .int .i64 y.g, .int .i64 y.i]), (9, 90, .bool false), (10, 91, .bool false), (11, 92, .slice (some ⟨g3, 0, none⟩) n cm), (12, 93, .int .i64 k), (13, 94, .pointer (some ⟨g3, k * 4, none⟩)), (14, 95, .agg #[.int .i64 x.d, .int .i64 x.b, .int .i64 x.g, .int .i64 x.i]), (15, 96, .slice (some ⟨g, off, none⟩) n cap), (16, 97, .int .i64 k), (17, 98, .pointer (some ⟨g, off + k * 4, none⟩)), (18, 99, .agg #[.int .i64 x.d, .int .i64 x.b, .int .i64 x.g, .int .i64 x.i]), (19, 100, .agg #[.int .i64 x.d, .int .i64 x.b, .int .i64 x.g, .int .i64 x.i]), (20, 101, .bool false), (21, 102, .bool false)] ∧ Below wz.drew.heap.size wz.drew w') rfl (by kernel_rfl) (by kernel_rfl) (by kernel_rfl) ?_ ?_ ?_
    · exact ⟨by simp only [putSel, Bool.false_eq_true, if_false], Below.refl _ _⟩
    · refine steps_cons (by rintro b a w' ⟨ha, HI⟩ hb hon hoff; refine ⟨_, rfl, fun K hK => ?_⟩; have e5 := poff ha (t := 5) rfl rfl; exact value_ (v := .slice (some ⟨g5, 0, none⟩) n c5) (by rfl) rfl (by clear HI ha; go_simp) (hK.out _ _ ⟨upk ha 0 hb rfl rfl, HI⟩)) ?_
      refine steps_cons (by rintro b a w' ⟨ha, HI⟩ hb hon hoff; refine ⟨_, rfl, fun K hK => ?_⟩; have e9 := poff ha (t := 9) rfl rfl; exact value_ (v := .int .i64 k) (by rfl) rfl (by clear HI ha; go_simp) (hK.out _ _ ⟨upk ha 1 hb rfl rfl, HI⟩)) ?_
      refine steps_cons (by rintro b a w' ⟨ha, HI⟩ hb hon hoff; refine ⟨_, rfl, fun K hK => ?_⟩; have e81 := pon ha 0 (hon 0 rfl) rfl rfl rfl; have e82 := pon ha 1 (hon 1 rfl) rfl rfl rfl; exact value_ (v := .pointer (some ⟨g5, k * 4, none⟩)) (by rfl) rfl (by clear HI ha; go_simp) (hK.out _ _ ⟨upk ha 2 hb rfl rfl, HI⟩)) ?_
      refine steps_cons (by rintro b a w' ⟨ha, HI⟩ hb hon hoff; refine ⟨_, rfl, fun K hK => ?_⟩; have e83 := pon ha 2 (hon 2 rfl) rfl rfl rfl; have k0_ := bc HI hgs s0; have k1_ := bc HI hgs s1; have k2_ := bc HI hgs s2; have k3_ := bc HI hgs s3; have kz_ := bz HI hgs; exact value_ (v := .agg #[.int .i64 y.d, .int .i64 y.b, .int .i64 y.g, .int .i64 y.i]) (by rfl) rfl (by clear HI ha; go_simp) (hK.out _ _ ⟨upk ha 3 hb rfl rfl, HI⟩)) ?_
      refine steps_cons (by rintro b a w' ⟨ha, HI⟩ hb hon hoff; refine ⟨_, rfl, fun K hK => ?_⟩; have e6 := poff ha (t := 6) rfl rfl; exact value_ (v := .slice (some ⟨g6, 0, none⟩) n c6) (by rfl) rfl (by clear HI ha; go_simp) (hK.out _ _ ⟨upk ha 4 hb rfl rfl, HI⟩)) ?_
      refine steps_cons (by rintro b a w' ⟨ha, HI⟩ hb hon hoff; refine ⟨_, rfl, fun K hK => ?_⟩; have e9 := poff ha (t := 9) rfl rfl; exact value_ (v := .int .i64 k) (by rfl) rfl (by clear HI ha; go_simp) (hK.out _ _ ⟨upk ha 5 hb rfl rfl, HI⟩)) ?_
      refine steps_cons (by rintro b a w' ⟨ha, HI⟩ hb hon hoff; refine ⟨_, rfl, fun K hK => ?_⟩; have e85 := pon ha 4 (hon 4 rfl) rfl rfl rfl; have e86 := pon ha 5 (hon 5 rfl) rfl rfl rfl; exact value_ (v := .pointer (some ⟨g6, k * 4, none⟩)) (by rfl) rfl (by clear HI ha; go_simp) (hK.out _ _ ⟨upk ha 6 hb rfl rfl, HI⟩)) ?_
      refine steps_cons (by rintro b a w' ⟨ha, HI⟩ hb hon hoff; refine ⟨_, rfl, fun K hK => ?_⟩; have e87 := pon ha 6 (hon 6 rfl) rfl rfl rfl; have k0_ := bc HI hgw d0; have k1_ := bc HI hgw d1; have k2_ := bc HI hgw d2; have k3_ := bc HI hgw d3; have kz_ := bz HI hgw; exact value_ (v := .agg #[.int .i64 y.d, .int .i64 y.b, .int .i64 y.g, .int .i64 y.i]) (by rfl) rfl (by clear HI ha; go_simp) (hK.out _ _ ⟨upk ha 7 hb rfl rfl, HI⟩)) ?_
      refine steps_cons (by rintro b a w' ⟨ha, HI⟩ hb hon hoff; refine ⟨_, rfl, fun K hK => ?_⟩; have e88 := pon ha 7 (hon 7 rfl) rfl rfl rfl; refine goes_ Try.func11 (by kernel_rfl) rfl #[.agg #[.int .i64 y.d, .int .i64 y.b, .int .i64 y.g, .int .i64 y.i]] (by rfl) rfl rfl (by simp [Act.eval, e88]) ((CY.out w').mono ?_); rintro e_ w'' ⟨rfl, hbc⟩; exact ⟨_, rfl, hK.out _ _ ⟨upk ha 8 hb rfl rfl, below_then HI HI.size hbc⟩⟩) ?_
      refine steps_cons (by rintro b a w' ⟨ha, HI⟩ hb hon hoff; refine ⟨_, rfl, fun K hK => ?_⟩; have e84 := pon ha 3 (hon 3 rfl) rfl rfl rfl; have e89 := pon ha 8 (hon 8 rfl) rfl rfl rfl; exact value_ (v := .bool false) (by rfl) rfl (by clear HI ha; go_simp) (hK.out _ _ ⟨upk ha 9 hb rfl rfl, HI⟩)) ?_
      refine steps_cons (by rintro b a w' ⟨ha, HI⟩ hb hon hoff; refine ⟨_, rfl, fun K hK => ?_⟩; have e90 := pon ha 9 (hon 9 rfl) rfl rfl rfl; exact value_ (v := .bool false) (by rfl) rfl (by clear HI ha; go_simp) (hK.out _ _ ⟨upk ha 10 hb rfl rfl, HI⟩)) ?_
      refine steps_cons (by rintro b a w' ⟨ha, HI⟩ hb hon hoff; refine ⟨_, rfl, fun K hK => ?_⟩; have e3 := poff ha (t := 3) rfl rfl; have e91 := pon ha 10 (hon 10 rfl) rfl rfl rfl; exact value_ (v := .slice (some ⟨g3, 0, none⟩) n cm) (wanted_on (t := 91) (u := false) rfl rfl rfl e91) rfl (by clear HI ha; go_simp) (hK.out _ _ ⟨upk ha 11 hb rfl rfl, HI⟩)) ?_
      refine steps_cons (by rintro b a w' ⟨ha, HI⟩ hb hon hoff; refine ⟨_, rfl, fun K hK => ?_⟩; have e9 := poff ha (t := 9) rfl rfl; have e91 := pon ha 10 (hon 10 rfl) rfl rfl rfl; exact value_ (v := .int .i64 k) (wanted_on (t := 91) (u := false) rfl rfl rfl e91) rfl (by clear HI ha; go_simp) (hK.out _ _ ⟨upk ha 12 hb rfl rfl, HI⟩)) ?_
      refine steps_cons (by rintro b a w' ⟨ha, HI⟩ hb hon hoff; refine ⟨_, rfl, fun K hK => ?_⟩; have e92 := pon ha 11 (hon 11 rfl) rfl rfl rfl; have e93 := pon ha 12 (hon 12 rfl) rfl rfl rfl; have e91 := pon ha 10 (hon 10 rfl) rfl rfl rfl; exact value_ (v := .pointer (some ⟨g3, k * 4, none⟩)) (wanted_on (t := 91) (u := false) rfl rfl rfl e91) rfl (by clear HI ha; go_simp) (hK.out _ _ ⟨upk ha 13 hb rfl rfl, HI⟩)) ?_
      refine steps_cons (by rintro b a w' ⟨ha, HI⟩ hb hon hoff; refine ⟨_, rfl, fun K hK => ?_⟩; have e94 := pon ha 13 (hon 13 rfl) rfl rfl rfl; have e91 := pon ha 10 (hon 10 rfl) rfl rfl rfl; have k0_ := bc HI hgm m0; have k1_ := bc HI hgm m1; have k2_ := bc HI hgm m2; have k3_ := bc HI hgm m3; have kz_ := bz HI hgm; exact value_ (v := .agg #[.int .i64 x.d, .int .i64 x.b, .int .i64 x.g, .int .i64 x.i]) (wanted_on (t := 91) (u := false) rfl rfl rfl e91) rfl (by clear HI ha; go_simp) (hK.out _ _ ⟨upk ha 14 hb rfl rfl, HI⟩)) ?_
      refine steps_cons (by rintro b a w' ⟨ha, HI⟩ hb hon hoff; refine ⟨_, rfl, fun K hK => ?_⟩; have e0 := poff ha (t := 0) rfl rfl; have e91 := pon ha 10 (hon 10 rfl) rfl rfl rfl; exact value_ (v := .slice (some ⟨g, off, none⟩) n cap) (wanted_on (t := 91) (u := false) rfl rfl rfl e91) rfl (by clear HI ha; go_simp) (hK.out _ _ ⟨upk ha 15 hb rfl rfl, HI⟩)) ?_
      refine steps_cons (by rintro b a w' ⟨ha, HI⟩ hb hon hoff; refine ⟨_, rfl, fun K hK => ?_⟩; have e9 := poff ha (t := 9) rfl rfl; have e91 := pon ha 10 (hon 10 rfl) rfl rfl rfl; exact value_ (v := .int .i64 k) (wanted_on (t := 91) (u := false) rfl rfl rfl e91) rfl (by clear HI ha; go_simp) (hK.out _ _ ⟨upk ha 16 hb rfl rfl, HI⟩)) ?_
      refine steps_cons (by rintro b a w' ⟨ha, HI⟩ hb hon hoff; refine ⟨_, rfl, fun K hK => ?_⟩; have e96 := pon ha 15 (hon 15 rfl) rfl rfl rfl; have e97 := pon ha 16 (hon 16 rfl) rfl rfl rfl; have e91 := pon ha 10 (hon 10 rfl) rfl rfl rfl; exact value_ (v := .pointer (some ⟨g, off + k * 4, none⟩)) (wanted_on (t := 91) (u := false) rfl rfl rfl e91) rfl (by clear HI ha; go_simp) (hK.out _ _ ⟨upk ha 17 hb rfl rfl, HI⟩)) ?_
      refine steps_cons (by rintro b a w' ⟨ha, HI⟩ hb hon hoff; refine ⟨_, rfl, fun K hK => ?_⟩; have e98 := pon ha 17 (hon 17 rfl) rfl rfl rfl; have e91 := pon ha 10 (hon 10 rfl) rfl rfl rfl; have k0_ := bc HI hgl c0; have k1_ := bc HI hgl c1; have k2_ := bc HI hgl c2; have k3_ := bc HI hgl c3; have kz_ := bz HI hgl; exact value_ (v := .agg #[.int .i64 x.d, .int .i64 x.b, .int .i64 x.g, .int .i64 x.i]) (wanted_on (t := 91) (u := false) rfl rfl rfl e91) rfl (by clear HI ha; go_simp) (hK.out _ _ ⟨upk ha 18 hb rfl rfl, HI⟩)) ?_
      refine steps_cons (by rintro b a w' ⟨ha, HI⟩ hb hon hoff; refine ⟨_, rfl, fun K hK => ?_⟩; have e99 := pon ha 18 (hon 18 rfl) rfl rfl rfl; have e91 := pon ha 10 (hon 10 rfl) rfl rfl rfl; refine goes_ Try.func11 (by kernel_rfl) rfl #[.agg #[.int .i64 x.d, .int .i64 x.b, .int .i64 x.g, .int .i64 x.i]] (wanted_on (t := 91) (u := false) rfl rfl rfl e91) rfl rfl (by simp [Act.eval, e99, e91]) ((CX.out w').mono ?_); rintro e_ w'' ⟨rfl, hbc⟩; exact ⟨_, rfl, hK.out _ _ ⟨upk ha 19 hb rfl rfl, below_then HI HI.size hbc⟩⟩) ?_
      refine steps_cons (by rintro b a w' ⟨ha, HI⟩ hb hon hoff; refine ⟨_, rfl, fun K hK => ?_⟩; have e95 := pon ha 14 (hon 14 rfl) rfl rfl rfl; have e100 := pon ha 19 (hon 19 rfl) rfl rfl rfl; have e91 := pon ha 10 (hon 10 rfl) rfl rfl rfl; exact value_ (v := .bool false) (wanted_on (t := 91) (u := false) rfl rfl rfl e91) rfl (by clear HI ha; go_simp) (hK.out _ _ ⟨upk ha 20 hb rfl rfl, HI⟩)) ?_
      refine steps_cons (by rintro b a w' ⟨ha, HI⟩ hb hon hoff; refine ⟨_, rfl, fun K hK => ?_⟩; have e91 := pon ha 10 (hon 10 rfl) rfl rfl rfl; have e101 := pon ha 20 (hon 20 rfl) rfl rfl rfl; exact value_ (v := .bool false) (by rfl) rfl (by clear HI ha; go_simp) (hK.out _ _ ⟨upk ha 21 hb rfl rfl, HI⟩)) ?_
      exact steps_nil
    · rintro b a w' hall ⟨ha, HI⟩
      have hb0_ := hall 0 rfl; have hb1_ := hall 1 rfl; have hb2_ := hall 2 rfl; have hb3_ := hall 3 rfl; have hb4_ := hall 4 rfl; have hb5_ := hall 5 rfl; have hb6_ := hall 6 rfl; have hb7_ := hall 7 rfl
      have hb8_ := hall 8 rfl; have hb9_ := hall 9 rfl; have hb10_ := hall 10 rfl; have hb11_ := hall 11 rfl; have hb12_ := hall 12 rfl; have hb13_ := hall 13 rfl; have hb14_ := hall 14 rfl; have hb15_ := hall 15 rfl
      have hb16_ := hall 16 rfl; have hb17_ := hall 17 rfl; have hb18_ := hall 18 rfl; have hb19_ := hall 19 rfl; have hb20_ := hall 20 rfl; have hb21_ := hall 21 rfl
      subst ha
      simp only [putSel, hb0_, hb1_, hb2_, hb3_, hb4_, hb5_, hb6_, hb7_, hb8_, hb9_, hb10_, hb11_, hb12_, hb13_, hb14_, hb15_, hb16_, hb17_, hb18_, hb19_, hb20_, hb21_, if_true, Act.put, List.setIfInBounds_toArray, List.set_cons_zero, List.set_cons_succ]
      have hB := (below_then (below_drew (Below.refl _ wz)) (Nat.le_refl _) HI : Below wz.heap.size wz w')
      clear hall HI hb0_ hb1_ hb2_ hb3_ hb4_ hb5_ hb6_ hb7_ hb8_ hb9_ hb10_ hb11_ hb12_ hb13_ hb14_ hb15_ hb16_ hb17_ hb18_ hb19_ hb20_ hb21_
      refine ‹∀ (a' : Act) (w' : World), Met _ a' w' → _› _ _ ?_
      go_meet
      case rel => exact ⟨rfl, ⟨hB⟩⟩
  case rest =>
  obtain ⟨rfl, HC⟩ := hcut
  have HQ2 : Side (Below wo.heap.size wo wc) := ⟨HQ.out.trans (HC.out.mono HQ.out.size)⟩
  clear HQ HC c0 c1 c2 c3 d0 d1 d2 d3 s0 s1 s2 s3 m0 m1 m2 m3 hgl hgw hgs hgm CX CY
  go_step
  go_wp2
  go_roundw
  case rel => exact ⟨k + 1, by simp, by omega, HQ2⟩
  case measure => simp [intOf]; omega
end Go.Proofs.Ytmjgadhknliiaaa.SoO3
