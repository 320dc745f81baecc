/- RankSorts: a piece of the walk. No condition. -/
import Derived.Test.YtmjgadhknliiaaaSoOp
set_option linter.unusedVariables false
set_option linter.unusedSimpArgs false
namespace Go.Proofs.Ytmjgadhknliiaaa.SoO2
open Go.RowKit Go.Proofs.Ytmjgadhknliiaaa.Kit Go.Proofs.Ytmjgadhknliiaaa.Kit2 Go.Proofs.Ytmjgadhknliiaaa.Kit4 Go.Proofs.Ytmjgadhknliiaaa.Kit5 Go.Proofs.Ytmjgadhknliiaaa.Rank Go.Proofs.Ytmjgadhknliiaaa.SoA Go.Proofs.Ytmjgadhknliiaaa.SoK Go.Proofs.Ytmjgadhknliiaaa.SoM Go.Proofs.Ytmjgadhknliiaaa.SoN SoPlain
open Go.Proofs.YtmjgadhknliiaaaW.PrintLast
open Go.Proofs.Ytmjgadhknliiaaa.SoOp
set_option maxHeartbeats 400000000 in
set_option maxRecDepth 100000 in
theorem piece : SoOp.part.2.1 := by
  set_option tactic.hygienic false in (intro _; intros)
  have hbw := HB2.out.trans (HB.out.mono HB2.out.size)
  have hbz := hbw.trans (HQ.out.mono hbw.size)
  obtain ⟨g, off, rfl, hgl, c0, c1, c2, c3⟩ := row4 HROW.out hbz n hni
  obtain ⟨x, hx⟩ : ∃ x, x = Y V n := ⟨_, rfl⟩
  have hx2 : at_ (ls V i) n = x := by rw [ls_at V i n hni, hx]
  rw [← hx] at c0 c1 c2 c3
  have HX2 := Side.mk hx2
  have hn1 : (n : Int) + 1 ≤ 9223372036854775807 := by omega
  have HFz := Side.mk (HF.out.below HQ.out)
  have hwl := HW.out.len
  have hjn := HD.out.le
  obtain ⟨tt, htt⟩ : ∃ tt : Bool, tt = stp x ws j := ⟨_, rfl⟩
  have HTT := Side.mk htt
  clear hx hbw hbz htt hx2
  go_upto_region 18 with (fail)
  go_cut [57] (fun v we => v = .bool tt ∧ Side (Below wz.heap.size wz we))
  case first =>
    rcases Nat.eq_zero_or_pos j with rfl | hj
    · obtain rfl : tt = false := HTT.out
      have HWJ : Side (IntKind.i64.wrap ((0 : Int) - 1) = -1) := ⟨by decide⟩
      clear HTT HW HF HFz HD HQ HB HB2 HX2 HROW HX HS2 HM2 c0 c1 c2 c3
      refine start_ (n := 14) (S := fun w' => True) (ds := []) #[false, false, false, false, false, false, false, false, false, false, false, false, false, false] (by kernel_rfl) rfl rfl trivial (fun _ => ?_)
      refine inv_at (B := [0, 1, 3, 7, 7, 31, 63, 7, 7, 263, 903, 1927, 4095, 8191]) [0, 1, 2, 3, 4, 5, 6, 7, 8, 9, 10, 11, 12, 13] (fun a0_ b a w' => a = putSel a0_ b [(0, 44, .int .i64 0), (1, 45, .bool false), (2, 46, .bool false), (3, 47, undef), (4, 48, undef), (5, 49, undef), (6, 50, undef), (7, 51, undef), (8, 52, undef), (9, 53, undef), (10, 54, undef), (11, 55, undef), (12, 56, undef), (13, 57, .bool false)] ∧ Below wz.drew.heap.size wz.drew w') rfl (by kernel_rfl) (by kernel_rfl) (by kernel_rfl) ?_ ?_ ?_
      · exact ⟨by simp only [putSel, Bool.false_eq_true, if_false], Below.refl _ _⟩
      · refine steps_cons (by rintro b a w' ⟨ha, HI⟩ hb hon hoff; refine ⟨_, rfl, fun K hK => ?_⟩; have e8 := poff ha (t := 8) rfl rfl; exact value_ (v := .int .i64 0) (by rfl) rfl (by clear HI ha; go_simp) (hK.out _ _ ⟨upk ha 0 hb rfl rfl, HI⟩)) ?_
        refine steps_cons (by rintro b a w' ⟨ha, HI⟩ hb hon hoff; refine ⟨_, rfl, fun K hK => ?_⟩; have e44 := pon ha 0 (hon 0 rfl) rfl rfl rfl; exact value_ (v := .bool false) (by rfl) rfl (by clear HI ha; go_simp) (hK.out _ _ ⟨upk ha 1 hb rfl rfl, HI⟩)) ?_
        refine steps_cons (by rintro b a w' ⟨ha, HI⟩ hb hon hoff; refine ⟨_, rfl, fun K hK => ?_⟩; have e45 := pon ha 1 (hon 1 rfl) rfl rfl rfl; exact value_ (v := .bool false) (by rfl) rfl (by clear HI ha; go_simp) (hK.out _ _ ⟨upk ha 2 hb rfl rfl, HI⟩)) ?_
        refine steps_cons (by rintro b a w' ⟨ha, HI⟩ hb hon hoff; refine ⟨_, rfl, fun K hK => ?_⟩; have e0 := poff ha (t := 0) rfl rfl; have e46 := pon ha 2 (hon 2 rfl) rfl rfl rfl; exact off_ (wanted_off (t := 46) (u := true) rfl rfl rfl e46) (hK.out _ _ ⟨upk ha 3 hb rfl rfl, HI⟩)) ?_
        refine steps_cons (by rintro b a w' ⟨ha, HI⟩ hb hon hoff; refine ⟨_, rfl, fun K hK => ?_⟩; have e7 := poff ha (t := 7) rfl rfl; have e46 := pon ha 2 (hon 2 rfl) rfl rfl rfl; exact off_ (wanted_off (t := 46) (u := true) rfl rfl rfl e46) (hK.out _ _ ⟨upk ha 4 hb rfl rfl, HI⟩)) ?_
        refine steps_cons (by rintro b a w' ⟨ha, HI⟩ hb hon hoff; refine ⟨_, rfl, fun K hK => ?_⟩; have e47 := pon ha 3 (hon 3 rfl) rfl rfl rfl; have e48 := pon ha 4 (hon 4 rfl) rfl rfl rfl; have e46 := pon ha 2 (hon 2 rfl) rfl rfl rfl; exact off_ (wanted_off (t := 46) (u := true) rfl rfl rfl e46) (hK.out _ _ ⟨upk ha 5 hb rfl rfl, HI⟩)) ?_
        refine steps_cons (by rintro b a w' ⟨ha, HI⟩ hb hon hoff; refine ⟨_, rfl, fun K hK => ?_⟩; have e49 := pon ha 5 (hon 5 rfl) rfl rfl rfl; have e46 := pon ha 2 (hon 2 rfl) rfl rfl rfl; exact off_ (wanted_off (t := 46) (u := true) rfl rfl rfl e46) (hK.out _ _ ⟨upk ha 6 hb rfl rfl, HI⟩)) ?_
        refine steps_cons (by rintro b a w' ⟨ha, HI⟩ hb hon hoff; refine ⟨_, rfl, fun K hK => ?_⟩; have e6 := poff ha (t := 6) rfl rfl; have e46 := pon ha 2 (hon 2 rfl) rfl rfl rfl; exact off_ (wanted_off (t := 46) (u := true) rfl rfl rfl e46) (hK.out _ _ ⟨upk ha 7 hb rfl rfl, HI⟩)) ?_
        refine steps_cons (by rintro b a w' ⟨ha, HI⟩ hb hon hoff; refine ⟨_, rfl, fun K hK => ?_⟩; have e8 := poff ha (t := 8) rfl rfl; have e46 := pon ha 2 (hon 2 rfl) rfl rfl rfl; exact off_ (wanted_off (t := 46) (u := true) rfl rfl rfl e46) (hK.out _ _ ⟨upk ha 8 hb rfl rfl, HI⟩)) ?_
        refine steps_cons (by rintro b a w' ⟨ha, HI⟩ hb hon hoff; refine ⟨_, rfl, fun K hK => ?_⟩; have e52 := pon ha 8 (hon 8 rfl) rfl rfl rfl; have e46 := pon ha 2 (hon 2 rfl) rfl rfl rfl; exact off_ (wanted_off (t := 46) (u := true) rfl rfl rfl e46) (hK.out _ _ ⟨upk ha 9 hb rfl rfl, HI⟩)) ?_
        refine steps_cons (by rintro b a w' ⟨ha, HI⟩ hb hon hoff; refine ⟨_, rfl, fun K hK => ?_⟩; have e51 := pon ha 7 (hon 7 rfl) rfl rfl rfl; have e53 := pon ha 9 (hon 9 rfl) rfl rfl rfl; have e46 := pon ha 2 (hon 2 rfl) rfl rfl rfl; exact off_ (wanted_off (t := 46) (u := true) rfl rfl rfl e46) (hK.out _ _ ⟨upk ha 10 hb rfl rfl, HI⟩)) ?_
        refine steps_cons (by rintro b a w' ⟨ha, HI⟩ hb hon hoff; refine ⟨_, rfl, fun K hK => ?_⟩; have e54 := pon ha 10 (hon 10 rfl) rfl rfl rfl; have e46 := pon ha 2 (hon 2 rfl) rfl rfl rfl; exact off_ (wanted_off (t := 46) (u := true) rfl rfl rfl e46) (hK.out _ _ ⟨upk ha 11 hb rfl rfl, HI⟩)) ?_
        refine steps_cons (by rintro b a w' ⟨ha, HI⟩ hb hon hoff; refine ⟨_, rfl, fun K hK => ?_⟩; have e50 := pon ha 6 (hon 6 rfl) rfl rfl rfl; have e55 := pon ha 11 (hon 11 rfl) rfl rfl rfl; have e46 := pon ha 2 (hon 2 rfl) rfl rfl rfl; exact off_ (wanted_off (t := 46) (u := true) rfl rfl rfl e46) (hK.out _ _ ⟨upk ha 12 hb rfl rfl, HI⟩)) ?_
        refine steps_cons (by rintro b a w' ⟨ha, HI⟩ hb hon hoff; refine ⟨_, rfl, fun K hK => ?_⟩; have e46 := pon ha 2 (hon 2 rfl) rfl rfl rfl; have e56 := pon ha 12 (hon 12 rfl) rfl rfl rfl; exact value_ (v := .bool false) (by rfl) rfl (by clear HI ha; go_simp) (hK.out _ _ ⟨upk ha 13 hb rfl rfl, HI⟩)) ?_
        exact steps_nil
      · rintro b a w' hall ⟨ha, HI⟩
        have hb0_ := hall 0 rfl; have hb1_ := hall 1 rfl; have hb2_ := hall 2 rfl; have hb3_ := hall 3 rfl; have hb4_ := hall 4 rfl; have hb5_ := hall 5 rfl; have hb6_ := hall 6 rfl; have hb7_ := hall 7 rfl
        have hb8_ := hall 8 rfl; have hb9_ := hall 9 rfl; have hb10_ := hall 10 rfl; have hb11_ := hall 11 rfl; have hb12_ := hall 12 rfl; have hb13_ := hall 13 rfl
        subst ha
        simp only [putSel, hb0_, hb1_, hb2_, hb3_, hb4_, hb5_, hb6_, hb7_, hb8_, hb9_, hb10_, hb11_, hb12_, hb13_, if_true, Act.put, List.setIfInBounds_toArray, List.set_cons_zero, List.set_cons_succ]
        have hB := (below_then (below_drew (Below.refl _ wz)) (Nat.le_refl _) HI : Below wz.heap.size wz w')
        clear hall HI hb0_ hb1_ hb2_ hb3_ hb4_ hb5_ hb6_ hb7_ hb8_ hb9_ hb10_ hb11_ hb12_ hb13_
        refine ‹∀ (a' : Act) (w' : World), Met _ a' w' → _› _ _ ?_
        go_meet
        case rel => exact ⟨rfl, ⟨hB⟩⟩
    · obtain ⟨J, hJ⟩ : ∃ J, J = j - 1 := ⟨_, rfl⟩
      have ht : tt = lt x (at_ ws J) := by rw [HTT.out, show j = J + 1 by omega]; rfl
      obtain ⟨g6, rfl, hgz, d0, d1, d2, d3⟩ := FRow.cells (i := J) HFz.out (by omega)
      obtain ⟨z, hz⟩ : ∃ z, z = at_ ws J := ⟨_, rfl⟩
      rw [← hz] at d0 d1 d2 d3 ht
      have CL := Side.mk (fun w' => RankLess_at x z w')
      rw [rless_lt, ← ht] at CL
      have hji : (0 : Int) < j := by omega
      have hJn : (J : Int) < n := by omega
      have hJ0 : (0 : Int) ≤ J := by omega
      have HWJ : Side (IntKind.i64.wrap ((j : Int) - 1) = (J : Int)) := ⟨by rw [Go.IntWalk.i64_in ((j : Int) - 1) (by omega)]; omega⟩
      clear hz ht hJ HTT HW HF HFz HD HQ HB HB2 HX2 HROW HX HS2 HM2
      refine start_ (n := 14) (S := fun w' => True) (ds := []) #[false, false, false, false, false, false, false, false, false, false, false, false, false, false] (by kernel_rfl) rfl rfl trivial (fun _ => ?_)
      refine inv_at (B := [0, 1, 3, 7, 7, 31, 63, 7, 7, 263, 903, 1927, 4095, 8191]) [0, 1, 2, 3, 4, 5, 6, 7, 8, 9, 10, 11, 12, 13] (fun a0_ b a w' => a = putSel a0_ b [(0, 44, .int .i64 j), (1, 45, .bool true), (2, 46, .bool true), (3, 47, .slice (some ⟨g, off, none⟩) i cap), (4, 48, .int .i64 n), (5, 49, .pointer (some ⟨g, off + n * 4, none⟩)), (6, 50, .agg #[.int .i64 x.d, .int .i64 x.b, .int .i64 x.g, .int .i64 x.i]), (7, 51, .slice (some ⟨g6, 0, none⟩) n c6), (8, 52, .int .i64 j), (9, 53, .int .i64 J), (10, 54, .pointer (some ⟨g6, J * 4, none⟩)), (11, 55, .agg #[.int .i64 z.d, .int .i64 z.b, .int .i64 z.g, .int .i64 z.i]), (12, 56, .bool tt), (13, 57, .bool tt)] ∧ Below wz.drew.heap.size wz.drew w') rfl (by kernel_rfl) (by kernel_rfl) (by kernel_rfl) ?_ ?_ ?_
      · exact ⟨by simp only [putSel, Bool.false_eq_true, if_false], Below.refl _ _⟩
      · refine steps_cons (by rintro b a w' ⟨ha, HI⟩ hb hon hoff; refine ⟨_, rfl, fun K hK => ?_⟩; have e8 := poff ha (t := 8) rfl rfl; exact value_ (v := .int .i64 j) (by rfl) rfl (by clear HI ha; go_simp) (hK.out _ _ ⟨upk ha 0 hb rfl rfl, HI⟩)) ?_
        refine steps_cons (by rintro b a w' ⟨ha, HI⟩ hb hon hoff; refine ⟨_, rfl, fun K hK => ?_⟩; have e44 := pon ha 0 (hon 0 rfl) rfl rfl rfl; exact value_ (v := .bool true) (by rfl) rfl (by clear HI ha; go_simp) (hK.out _ _ ⟨upk ha 1 hb rfl rfl, HI⟩)) ?_
        refine steps_cons (by rintro b a w' ⟨ha, HI⟩ hb hon hoff; refine ⟨_, rfl, fun K hK => ?_⟩; have e45 := pon ha 1 (hon 1 rfl) rfl rfl rfl; exact value_ (v := .bool true) (by rfl) rfl (by clear HI ha; go_simp) (hK.out _ _ ⟨upk ha 2 hb rfl rfl, HI⟩)) ?_
        refine steps_cons (by rintro b a w' ⟨ha, HI⟩ hb hon hoff; refine ⟨_, rfl, fun K hK => ?_⟩; have e0 := poff ha (t := 0) rfl rfl; have e46 := pon ha 2 (hon 2 rfl) rfl rfl rfl; exact value_ (v := .slice (some ⟨g, off, none⟩) i cap) (wanted_on (t := 46) (u := true) rfl rfl rfl e46) rfl (by clear HI ha; go_simp) (hK.out _ _ ⟨upk ha 3 hb rfl rfl, HI⟩)) ?_
        refine steps_cons (by rintro b a w' ⟨ha, HI⟩ hb hon hoff; refine ⟨_, rfl, fun K hK => ?_⟩; have e7 := poff ha (t := 7) rfl rfl; have e46 := pon ha 2 (hon 2 rfl) rfl rfl rfl; exact value_ (v := .int .i64 n) (wanted_on (t := 46) (u := true) rfl rfl rfl e46) rfl (by clear HI ha; go_simp) (hK.out _ _ ⟨upk ha 4 hb rfl rfl, HI⟩)) ?_
        refine steps_cons (by rintro b a w' ⟨ha, HI⟩ hb hon hoff; refine ⟨_, rfl, fun K hK => ?_⟩; have e47 := pon ha 3 (hon 3 rfl) rfl rfl rfl; have e48 := pon ha 4 (hon 4 rfl) rfl rfl rfl; have e46 := pon ha 2 (hon 2 rfl) rfl rfl rfl; exact value_ (v := .pointer (some ⟨g, off + n * 4, none⟩)) (wanted_on (t := 46) (u := true) rfl rfl rfl e46) rfl (by clear HI ha; go_simp) (hK.out _ _ ⟨upk ha 5 hb rfl rfl, HI⟩)) ?_
        refine steps_cons (by rintro b a w' ⟨ha, HI⟩ hb hon hoff; refine ⟨_, rfl, fun K hK => ?_⟩; have e49 := pon ha 5 (hon 5 rfl) rfl rfl rfl; have e46 := pon ha 2 (hon 2 rfl) rfl rfl rfl; have k0_ := bc HI hgl c0; have k1_ := bc HI hgl c1; have k2_ := bc HI hgl c2; have k3_ := bc HI hgl c3; have kz_ := bz HI hgl; exact value_ (v := .agg #[.int .i64 x.d, .int .i64 x.b, .int .i64 x.g, .int .i64 x.i]) (wanted_on (t := 46) (u := true) rfl rfl rfl e46) rfl (by clear HI ha; go_simp) (hK.out _ _ ⟨upk ha 6 hb rfl rfl, HI⟩)) ?_
        refine steps_cons (by rintro b a w' ⟨ha, HI⟩ hb hon hoff; refine ⟨_, rfl, fun K hK => ?_⟩; have e6 := poff ha (t := 6) rfl rfl; have e46 := pon ha 2 (hon 2 rfl) rfl rfl rfl; exact value_ (v := .slice (some ⟨g6, 0, none⟩) n c6) (wanted_on (t := 46) (u := true) rfl rfl rfl e46) rfl (by clear HI ha; go_simp) (hK.out _ _ ⟨upk ha 7 hb rfl rfl, HI⟩)) ?_
        refine steps_cons (by rintro b a w' ⟨ha, HI⟩ hb hon hoff; refine ⟨_, rfl, fun K hK => ?_⟩; have e8 := poff ha (t := 8) rfl rfl; have e46 := pon ha 2 (hon 2 rfl) rfl rfl rfl; exact value_ (v := .int .i64 j) (wanted_on (t := 46) (u := true) rfl rfl rfl e46) rfl (by clear HI ha; go_simp) (hK.out _ _ ⟨upk ha 8 hb rfl rfl, HI⟩)) ?_
        refine steps_cons (by rintro b a w' ⟨ha, HI⟩ hb hon hoff; refine ⟨_, rfl, fun K hK => ?_⟩; have e52 := pon ha 8 (hon 8 rfl) rfl rfl rfl; have e46 := pon ha 2 (hon 2 rfl) rfl rfl rfl; exact value_ (v := .int .i64 J) (wanted_on (t := 46) (u := true) rfl rfl rfl e46) rfl (by clear HI ha; go_simp; exact HWJ.out) (hK.out _ _ ⟨upk ha 9 hb rfl rfl, HI⟩)) ?_
        refine steps_cons (by rintro b a w' ⟨ha, HI⟩ hb hon hoff; refine ⟨_, rfl, fun K hK => ?_⟩; have e51 := pon ha 7 (hon 7 rfl) rfl rfl rfl; have e53 := pon ha 9 (hon 9 rfl) rfl rfl rfl; have e46 := pon ha 2 (hon 2 rfl) rfl rfl rfl; exact value_ (v := .pointer (some ⟨g6, J * 4, none⟩)) (wanted_on (t := 46) (u := true) rfl rfl rfl e46) rfl (by clear HI ha; go_simp) (hK.out _ _ ⟨upk ha 10 hb rfl rfl, HI⟩)) ?_
        refine steps_cons (by rintro b a w' ⟨ha, HI⟩ hb hon hoff; refine ⟨_, rfl, fun K hK => ?_⟩; have e54 := pon ha 10 (hon 10 rfl) rfl rfl rfl; have e46 := pon ha 2 (hon 2 rfl) rfl rfl rfl; have k0_ := bc HI hgz d0; have k1_ := bc HI hgz d1; have k2_ := bc HI hgz d2; have k3_ := bc HI hgz d3; have kz_ := bz HI hgz; exact value_ (v := .agg #[.int .i64 z.d, .int .i64 z.b, .int .i64 z.g, .int .i64 z.i]) (wanted_on (t := 46) (u := true) rfl rfl rfl e46) rfl (by clear HI ha; go_simp) (hK.out _ _ ⟨upk ha 11 hb rfl rfl, HI⟩)) ?_
        refine steps_cons (by rintro b a w' ⟨ha, HI⟩ hb hon hoff; refine ⟨_, rfl, fun K hK => ?_⟩; have e50 := pon ha 6 (hon 6 rfl) rfl rfl rfl; have e55 := pon ha 11 (hon 11 rfl) rfl rfl rfl; have e46 := pon ha 2 (hon 2 rfl) rfl rfl rfl; refine goes_ Try.func12 (by kernel_rfl) rfl #[.agg #[.int .i64 x.d, .int .i64 x.b, .int .i64 x.g, .int .i64 x.i], .agg #[.int .i64 z.d, .int .i64 z.b, .int .i64 z.g, .int .i64 z.i]] (wanted_on (t := 46) (u := true) rfl rfl rfl e46) rfl rfl (by simp [Act.eval, e50, e55, e46]) ((CL.out w').mono ?_); rintro e_ w'' ⟨rfl, hbc⟩; exact ⟨_, rfl, hK.out _ _ ⟨upk ha 12 hb rfl rfl, below_then HI HI.size hbc⟩⟩) ?_
        refine steps_cons (by rintro b a w' ⟨ha, HI⟩ hb hon hoff; refine ⟨_, rfl, fun K hK => ?_⟩; have e46 := pon ha 2 (hon 2 rfl) rfl rfl rfl; have e56 := pon ha 12 (hon 12 rfl) rfl rfl rfl; exact value_ (v := .bool tt) (by rfl) rfl (by clear HI ha; go_simp) (hK.out _ _ ⟨upk ha 13 hb rfl rfl, HI⟩)) ?_
        exact steps_nil
      · rintro b a w' hall ⟨ha, HI⟩
        have hb0_ := hall 0 rfl; have hb1_ := hall 1 rfl; have hb2_ := hall 2 rfl; have hb3_ := hall 3 rfl; have hb4_ := hall 4 rfl; have hb5_ := hall 5 rfl; have hb6_ := hall 6 rfl; have hb7_ := hall 7 rfl
        have hb8_ := hall 8 rfl; have hb9_ := hall 9 rfl; have hb10_ := hall 10 rfl; have hb11_ := hall 11 rfl; have hb12_ := hall 12 rfl; have hb13_ := hall 13 rfl
        subst ha
        simp only [putSel, hb0_, hb1_, hb2_, hb3_, hb4_, hb5_, hb6_, hb7_, hb8_, hb9_, hb10_, hb11_, hb12_, hb13_, if_true, Act.put, List.setIfInBounds_toArray, List.set_cons_zero, List.set_cons_succ]
        have hB := (below_then (below_drew (Below.refl _ wz)) (Nat.le_refl _) HI : Below wz.heap.size wz w')
        clear hall HI hb0_ hb1_ hb2_ hb3_ hb4_ hb5_ hb6_ hb7_ hb8_ hb9_ hb10_ hb11_ hb12_ hb13_
        refine ‹∀ (a' : Act) (w' : World), Met _ a' w' → _› _ _ ?_
        go_meet
        case rel => exact ⟨rfl, ⟨hB⟩⟩
  case rest =>
  obtain ⟨rfl, HC⟩ := hcut
  have e0 := bc HC.out hgl c0
  have e1 := bc HC.out hgl c1
  have e2 := bc HC.out hgl c2
  have e3 := bc HC.out hgl c3
  have hgl2 := bz HC.out hgl
  have HQ2 : Side (Below wo.heap.size wo wc) := ⟨HQ.out.trans (HC.out.mono HQ.out.size)⟩
  have HF2 := Side.mk (HFz.out.below HC.out)
  clear c0 c1 c2 c3 hgl HC HQ HF HFz
  have c0 := e0
  have c1 := e1
  have c2 := e2
  have c3 := e3
  have hgl := hgl2
  clear e0 e1 e2 e3 hgl2
  go_step
  cases tt
  · have HWN : Side (Ws (at_ (ls V i)) (n + 1) (ws.take j ++ [x] ++ ws.drop j)) := ⟨by
      have h := HW.out.put HD.out (fun hj => by
        have ht := HTT.out
        rw [show j = (j - 1) + 1 by omega] at ht
        rw [HX2.out]
        exact ht.symm)
      rw [HX2.out] at h
      exact h⟩
    have HLN : Side (ws.length ≤ 200) := ⟨by omega⟩
    have HBW : Side (Below w2.heap.size w2 wc) := ⟨HB.out.trans (HQ2.out.mono HB.out.size)⟩
    clear HTT HW HD HX2 HROW HX HS2 HM2 HB HQ2 HB2
    go_upto_region 20 with (fail)
    rcases HF2.out.read E4 with ⟨h0, h00⟩ | ⟨g6, cp, hv, -, hgz, hc1, hc2, -, -⟩
    · subst h00
      obtain rfl : n = 0 := by simpa using hwl.symm
      obtain rfl : j = 0 := by omega
      simp at h0
      obtain ⟨rfl, rfl⟩ := h0
      have c0 : wc.cell? ⟨g, off, none⟩ = some (.int .i64 x.d) := by simpa using c0
      have c1 : wc.cell? ⟨g, off + 1, none⟩ = some (.int .i64 x.b) := by simpa using c1
      have c2 : wc.cell? ⟨g, off + 2, none⟩ = some (.int .i64 x.g) := by simpa using c2
      have c3 : wc.cell? ⟨g, off + 3, none⟩ = some (.int .i64 x.i) := by simpa using c3
      have HT1 : Side (Sp wc.drew (.slice none 0 0) (([] : List R).take 0)) := ⟨Sp.nil _⟩
      have HT2 : Side (Sp wc.drew (.slice none 0 0) (([] : List R).drop 0)) := ⟨Sp.nil _⟩
      refine start_ (n := 16) (S := fun w' => True) (ds := []) #[false, false, false, false, false, false, false, false, false, false, false, false, false, false, false, false] (by kernel_rfl) rfl rfl trivial (fun _ => ?_)
      refine inv_at (B := [0, 0, 0, 6, 15, 0, 0, 96, 224, 480, 1023, 0, 0, 6144, 16383, 32767]) [0, 1, 2, 3, 4, 5, 6, 7, 8, 9, 10, 11, 12, 13, 14, 15] (fun a0_ b a w' => ∃ p0_ p6_ va_ vb_ vc_ vd_, a = putSel a0_ b [(0, 60, .slice (some ⟨p0_, 0, none⟩) 0 0), (1, 61, .slice none 0 0), (2, 62, .int .i64 0), (3, 63, .slice none 0 0), (4, 64, va_), (5, 65, .slice (some ⟨g, off, none⟩) i cap), (6, 66, .int .i64 0), (7, 67, .pointer (some ⟨g, off, none⟩)), (8, 68, .agg #[.int .i64 x.d, .int .i64 x.b, .int .i64 x.g, .int .i64 x.i]), (9, 69, .slice (some ⟨p6_, 0, none⟩) 1 1), (10, 70, vb_), (11, 71, .slice none 0 0), (12, 72, .int .i64 0), (13, 73, .slice none 0 0), (14, 74, vc_), (15, 6, vd_)] ∧ Aq wc.drew (([] : List R)) (([] : List R)) x b p0_ p6_ va_ vb_ vc_ vd_ w') rfl (by kernel_rfl) (by kernel_rfl) (by kernel_rfl) ?_ ?_ ?_
      · exact ⟨0, 0, .bool false, .bool false, .bool false, .bool false, by simp only [putSel, Bool.false_eq_true, if_false], Aq.start⟩
      · refine steps_cons (by rintro b a w' ⟨p0_, p6_, va_, vb_, vc_, vd_, ha, HI⟩ hb hon hoff; refine ⟨_, rfl, fun K hK => ?_⟩; exact value_ (w1 := w'.alloc (.cells #[] 23)) (v := .slice (some ⟨w'.heap.size, 0, none⟩) 0 0) (by rfl) rfl (by clear HI ha; go_simp) (hK.out _ _ ⟨w'.heap.size, p6_, va_, vb_, vc_, vd_, by rw [ha]; exact putSel_upk 0 hb rfl rfl rfl, HI.s0 (hoff 4 rfl) (hoff 10 rfl) (hoff 14 rfl) (hoff 15 rfl)⟩)) ?_
        refine steps_cons (by rintro b a w' ⟨p0_, p6_, va_, vb_, vc_, vd_, ha, HI⟩ hb hon hoff; refine ⟨_, rfl, fun K hK => ?_⟩; have e6 := poffb ha (t := 6) (hoff 15 rfl) rfl rfl; exact value_ (v := .slice none 0 0) (by rfl) rfl (by clear HI ha; go_simp) (hK.out _ _ ⟨p0_, p6_, va_, vb_, vc_, vd_, upk ha 1 hb rfl rfl, HI.low 1 (by decide)⟩)) ?_
        refine steps_cons (by rintro b a w' ⟨p0_, p6_, va_, vb_, vc_, vd_, ha, HI⟩ hb hon hoff; refine ⟨_, rfl, fun K hK => ?_⟩; have e8 := poff ha (t := 8) rfl rfl; exact value_ (v := .int .i64 0) (by rfl) rfl (by clear HI ha; go_simp) (hK.out _ _ ⟨p0_, p6_, va_, vb_, vc_, vd_, upk ha 2 hb rfl rfl, HI.low 2 (by decide)⟩)) ?_
        refine steps_cons (by rintro b a w' ⟨p0_, p6_, va_, vb_, vc_, vd_, ha, HI⟩ hb hon hoff; refine ⟨_, rfl, fun K hK => ?_⟩; have e61 := pon ha 1 (hon 1 rfl) rfl rfl rfl; have e62 := pon ha 2 (hon 2 rfl) rfl rfl rfl; exact value_ (v := .slice none 0 0) (by rfl) rfl (by clear HI ha; go_simp) (hK.out _ _ ⟨p0_, p6_, va_, vb_, vc_, vd_, upk ha 3 hb rfl rfl, HI.low 3 (by decide)⟩)) ?_
        refine steps_cons (by rintro b a w' ⟨p0_, p6_, va_, vb_, vc_, vd_, ha, HI⟩ hb hon hoff; refine ⟨_, rfl, fun K hK => ?_⟩; have e60 := pon ha 0 (hon 0 rfl) rfl rfl rfl; have e63 := pon ha 3 (hon 3 rfl) rfl rfl rfl; obtain ⟨v', w3, p1, p2, p3, p5⟩ := run_fapp 37 (HI.r0 (hon 0 rfl) hb) (HT1.out.below HI.bel) (by have h__ := HLN.out; first | omega | (simp; omega) | (simp; done)) HI.bel.size; exact value_ (w1 := w3) (v := v') (by rfl) rfl (exec_app rfl (by simp [Act.eval, e60]) (by simp [Act.eval, e63]) p1) (hK.out _ _ ⟨p0_, p6_, v', vb_, vc_, vd_, by rw [ha]; exact putSel_upk 4 hb rfl rfl rfl, HI.s4 (hon 0 rfl) hb (hoff 10 rfl) (hoff 14 rfl) (hoff 15 rfl) p2 p3 p5⟩)) ?_
        refine steps_cons (by rintro b a w' ⟨p0_, p6_, va_, vb_, vc_, vd_, ha, HI⟩ hb hon hoff; refine ⟨_, rfl, fun K hK => ?_⟩; have e0 := poff ha (t := 0) rfl rfl; exact value_ (v := .slice (some ⟨g, off, none⟩) i cap) (by rfl) rfl (by clear HI ha; go_simp) (hK.out _ _ ⟨p0_, p6_, va_, vb_, vc_, vd_, upk ha 5 hb rfl rfl, HI.low 5 (by decide)⟩)) ?_
        refine steps_cons (by rintro b a w' ⟨p0_, p6_, va_, vb_, vc_, vd_, ha, HI⟩ hb hon hoff; refine ⟨_, rfl, fun K hK => ?_⟩; have e7 := poff ha (t := 7) rfl rfl; exact value_ (v := .int .i64 0) (by rfl) rfl (by clear HI ha; go_simp) (hK.out _ _ ⟨p0_, p6_, va_, vb_, vc_, vd_, upk ha 6 hb rfl rfl, HI.low 6 (by decide)⟩)) ?_
        refine steps_cons (by rintro b a w' ⟨p0_, p6_, va_, vb_, vc_, vd_, ha, HI⟩ hb hon hoff; refine ⟨_, rfl, fun K hK => ?_⟩; have e65 := pon ha 5 (hon 5 rfl) rfl rfl rfl; have e66 := pon ha 6 (hon 6 rfl) rfl rfl rfl; exact value_ (v := .pointer (some ⟨g, off, none⟩)) (by rfl) rfl (by clear HI ha; go_simp) (hK.out _ _ ⟨p0_, p6_, va_, vb_, vc_, vd_, upk ha 7 hb rfl rfl, HI.low 7 (by decide)⟩)) ?_
        refine steps_cons (by rintro b a w' ⟨p0_, p6_, va_, vb_, vc_, vd_, ha, HI⟩ hb hon hoff; refine ⟨_, rfl, fun K hK => ?_⟩; have e67 := pon ha 7 (hon 7 rfl) rfl rfl rfl; have k0_ := bc HI.bel hgl c0; have k1_ := bc HI.bel hgl c1; have k2_ := bc HI.bel hgl c2; have k3_ := bc HI.bel hgl c3; have kz_ := bz HI.bel hgl; exact value_ (v := .agg #[.int .i64 x.d, .int .i64 x.b, .int .i64 x.g, .int .i64 x.i]) (by rfl) rfl (by clear HI ha; go_simp) (hK.out _ _ ⟨p0_, p6_, va_, vb_, vc_, vd_, upk ha 8 hb rfl rfl, HI.low 8 (by decide)⟩)) ?_
        refine steps_cons (by rintro b a w' ⟨p0_, p6_, va_, vb_, vc_, vd_, ha, HI⟩ hb hon hoff; refine ⟨_, rfl, fun K hK => ?_⟩; have e68 := pon ha 8 (hon 8 rfl) rfl rfl rfl; exact value_ (w1 := w'.alloc (.cells #[.int .i64 x.d, .int .i64 x.b, .int .i64 x.g, .int .i64 x.i] 23)) (v := .slice (some ⟨w'.heap.size, 0, none⟩) 1 1) (by rfl) rfl (by clear HI ha; go_simp) (hK.out _ _ ⟨p0_, w'.heap.size, va_, vb_, vc_, vd_, by rw [ha]; exact putSel_upk 9 hb rfl rfl rfl, HI.s6 (hoff 10 rfl) (hoff 14 rfl) (hoff 15 rfl)⟩)) ?_
        refine steps_cons (by rintro b a w' ⟨p0_, p6_, va_, vb_, vc_, vd_, ha, HI⟩ hb hon hoff; refine ⟨_, rfl, fun K hK => ?_⟩; have e64 := pon ha 4 (hon 4 rfl) rfl rfl rfl; have e69 := pon ha 9 (hon 9 rfl) rfl rfl rfl; obtain ⟨v', w3, p1, p2, p3, p5⟩ := run_fapp 37 (HI.r4 (hon 4 rfl) hb) (sp1 (HI.r6 (hon 9 rfl) hb).2) (by have h__ := HLN.out; first | omega | (simp; omega) | (simp; done)) HI.bel.size; exact value_ (w1 := w3) (v := v') (by rfl) rfl (exec_app rfl (by simp [Act.eval, e64]) (by simp [Act.eval, e69]) p1) (hK.out _ _ ⟨p0_, p6_, va_, v', vc_, vd_, by rw [ha]; exact putSel_upk 10 hb rfl rfl rfl, HI.s7 (hon 4 rfl) hb (hoff 14 rfl) (hoff 15 rfl) p2 p3⟩)) ?_
        refine steps_cons (by rintro b a w' ⟨p0_, p6_, va_, vb_, vc_, vd_, ha, HI⟩ hb hon hoff; refine ⟨_, rfl, fun K hK => ?_⟩; have e6 := poffb ha (t := 6) (hoff 15 rfl) rfl rfl; exact value_ (v := .slice none 0 0) (by rfl) rfl (by clear HI ha; go_simp) (hK.out _ _ ⟨p0_, p6_, va_, vb_, vc_, vd_, upk ha 11 hb rfl rfl, HI.low 11 (by decide)⟩)) ?_
        refine steps_cons (by rintro b a w' ⟨p0_, p6_, va_, vb_, vc_, vd_, ha, HI⟩ hb hon hoff; refine ⟨_, rfl, fun K hK => ?_⟩; have e8 := poff ha (t := 8) rfl rfl; exact value_ (v := .int .i64 0) (by rfl) rfl (by clear HI ha; go_simp) (hK.out _ _ ⟨p0_, p6_, va_, vb_, vc_, vd_, upk ha 12 hb rfl rfl, HI.low 12 (by decide)⟩)) ?_
        refine steps_cons (by rintro b a w' ⟨p0_, p6_, va_, vb_, vc_, vd_, ha, HI⟩ hb hon hoff; refine ⟨_, rfl, fun K hK => ?_⟩; have e71 := pon ha 11 (hon 11 rfl) rfl rfl rfl; have e72 := pon ha 12 (hon 12 rfl) rfl rfl rfl; exact value_ (v := .slice none 0 0) (by rfl) rfl (by clear HI ha; go_simp) (hK.out _ _ ⟨p0_, p6_, va_, vb_, vc_, vd_, upk ha 13 hb rfl rfl, HI.low 13 (by decide)⟩)) ?_
        refine steps_cons (by rintro b a w' ⟨p0_, p6_, va_, vb_, vc_, vd_, ha, HI⟩ hb hon hoff; refine ⟨_, rfl, fun K hK => ?_⟩; have e70 := pon ha 10 (hon 10 rfl) rfl rfl rfl; have e73 := pon ha 13 (hon 13 rfl) rfl rfl rfl; obtain ⟨v', w3, p1, p2, p3, p5⟩ := run_fapp 37 (HI.r7 (hon 10 rfl) hb) (HT2.out.below HI.bel) (by have h__ := HLN.out; first | omega | (simp; omega) | (simp; done)) HI.bel.size; exact value_ (w1 := w3) (v := v') (by rfl) rfl (exec_app rfl (by simp [Act.eval, e70]) (by simp [Act.eval, e73]) p1) (hK.out _ _ ⟨p0_, p6_, va_, vb_, v', vd_, by rw [ha]; exact putSel_upk 14 hb rfl rfl rfl, HI.s11 (hon 4 rfl) (hon 10 rfl) hb (hoff 15 rfl) p2 p3⟩)) ?_
        refine steps_cons (by rintro b a w' ⟨p0_, p6_, va_, vb_, vc_, vd_, ha, HI⟩ hb hon hoff; refine ⟨_, rfl, fun K hK => ?_⟩; have e74 := pon ha 14 (hon 14 rfl) rfl rfl rfl; exact value_ (w1 := w') (v := vc_) (by rfl) rfl (by clear HI ha; go_simp) (hK.out _ _ ⟨p0_, p6_, va_, vb_, vc_, vc_, by rw [ha]; exact putSel_upk 15 hb rfl rfl rfl, HI.s12⟩)) ?_
        exact steps_nil
      · rintro b a w' hall ⟨p0_, p6_, va_, vb_, vc_, vd_, ha, HI⟩
        have hb0_ := hall 0 rfl; have hb1_ := hall 1 rfl; have hb2_ := hall 2 rfl; have hb3_ := hall 3 rfl; have hb4_ := hall 4 rfl; have hb5_ := hall 5 rfl; have hb6_ := hall 6 rfl; have hb7_ := hall 7 rfl
        have hb8_ := hall 8 rfl; have hb9_ := hall 9 rfl; have hb10_ := hall 10 rfl; have hb11_ := hall 11 rfl; have hb12_ := hall 12 rfl; have hb13_ := hall 13 rfl; have hb14_ := hall 14 rfl; have hb15_ := hall 15 rfl
        subst ha
        simp only [putSel, hb0_, hb1_, hb2_, hb3_, hb4_, hb5_, hb6_, hb7_, hb8_, hb9_, hb10_, hb11_, hb12_, hb13_, hb14_, hb15_, if_true, Act.put, List.setIfInBounds_toArray, List.set_cons_zero, List.set_cons_succ]
        have hr := HI.r11 hb14_
        rw [← HI.r12 hb15_] at hr
        have hB := (below_then (below_drew (Below.refl _ wc)) (Nat.le_refl _) HI.bel : Below wc.heap.size wc w')
        clear hall HI hb0_ hb1_ hb2_ hb3_ hb4_ hb5_ hb6_ hb7_ hb8_ hb9_ hb10_ hb11_ hb12_ hb13_ hb14_ hb15_
        have HN : Side (FRow w' w2.heap.size vd_ (([] : List R) ++ [x] ++ [])) := ⟨GRow.lower hr HBW.out.size⟩
        have HBN : Side (Below w2.heap.size w2 w') := ⟨HBW.out.trans (hB.mono HBW.out.size)⟩
        clear hr hB HT1 HT2 HBW HLN HF2 c0 c1 c2 c3 hgl
        go_wp2
        go_roundw
        case rel => exact ⟨0 + 1, ([] : List R) ++ [x] ++ [], by simp, by omega, ⟨HBN.out.trans (((by (repeat (with_reducible first | exact Below.refl _ _ | apply below_drewN | apply below_drew | apply below_alloc))) : Below w'.heap.size w' _).mono HBN.out.size)⟩, ⟨HN.out.below (by (repeat (with_reducible first | exact Below.refl _ _ | apply below_drewN | apply below_drew | apply below_alloc)))⟩, HWN⟩
        case measure => simp [intOf]; omega
    · simp at hv
      obtain ⟨rfl, -, rfl⟩ := hv
      have hc9 : (c6 : Int) ≤ 9223372036854775807 := by unfold maxLen at hc2; omega
      have hj0 : (0 : Int) ≤ j := by omega
      have hjl2 : (j : Int) ≤ n := by omega
      have hjc : (j : Int) ≤ c6 := by omega
      have hlc : (n : Int) ≤ c6 := by omega
      have hlc' : n ≤ c6 := by omega
      have HT1 : Side (Sp wc.drew (.slice (some ⟨g6, 0, none⟩) j c6) (ws.take j)) := ⟨Sp.below (Sp.take HF2.out j c6 (by omega)) (by (repeat (with_reducible first | exact Below.refl _ _ | apply below_drewN | apply below_drew | apply below_alloc)))⟩
      clear hc1 hc2
      by_cases hcap : c6 = j
      · have HT2 : Side (Sp wc.drew (.slice (some ⟨g6, 0, none⟩) (n - j) (c6 - j)) (ws.drop j)) := ⟨by rw [List.drop_eq_nil_of_le (by omega), show n - j = 0 by omega]; exact Sp.below (Sp.zero wc g6 0 _ hgz) (by (repeat (with_reducible first | exact Below.refl _ _ | apply below_drewN | apply below_drew | apply below_alloc)))⟩
        refine start_ (n := 16) (S := fun w' => True) (ds := []) #[false, false, false, false, false, false, false, false, false, false, false, false, false, false, false, false] (by kernel_rfl) rfl rfl trivial (fun _ => ?_)
        refine inv_at (B := [0, 0, 0, 6, 15, 0, 0, 96, 224, 480, 1023, 0, 0, 6144, 16383, 32767]) [0, 1, 2, 3, 4, 5, 6, 7, 8, 9, 10, 11, 12, 13, 14, 15] (fun a0_ b a w' => ∃ p0_ p6_ va_ vb_ vc_ vd_, a = putSel a0_ b [(0, 60, .slice (some ⟨p0_, 0, none⟩) 0 0), (1, 61, .slice (some ⟨g6, 0, none⟩) n c6), (2, 62, .int .i64 j), (3, 63, .slice (some ⟨g6, 0, none⟩) j c6), (4, 64, va_), (5, 65, .slice (some ⟨g, off, none⟩) i cap), (6, 66, .int .i64 n), (7, 67, .pointer (some ⟨g, off + n * 4, none⟩)), (8, 68, .agg #[.int .i64 x.d, .int .i64 x.b, .int .i64 x.g, .int .i64 x.i]), (9, 69, .slice (some ⟨p6_, 0, none⟩) 1 1), (10, 70, vb_), (11, 71, .slice (some ⟨g6, 0, none⟩) n c6), (12, 72, .int .i64 j), (13, 73, .slice (some ⟨g6, 0, none⟩) (n - j) (c6 - j)), (14, 74, vc_), (15, 6, vd_)] ∧ Aq wc.drew (ws.take j) (ws.drop j) x b p0_ p6_ va_ vb_ vc_ vd_ w') rfl (by kernel_rfl) (by kernel_rfl) (by kernel_rfl) ?_ ?_ ?_
        · exact ⟨0, 0, .bool false, .bool false, .bool false, .bool false, by simp only [putSel, Bool.false_eq_true, if_false], Aq.start⟩
        · refine steps_cons (by rintro b a w' ⟨p0_, p6_, va_, vb_, vc_, vd_, ha, HI⟩ hb hon hoff; refine ⟨_, rfl, fun K hK => ?_⟩; exact value_ (w1 := w'.alloc (.cells #[] 23)) (v := .slice (some ⟨w'.heap.size, 0, none⟩) 0 0) (by rfl) rfl (by clear HI ha; go_simp) (hK.out _ _ ⟨w'.heap.size, p6_, va_, vb_, vc_, vd_, by rw [ha]; exact putSel_upk 0 hb rfl rfl rfl, HI.s0 (hoff 4 rfl) (hoff 10 rfl) (hoff 14 rfl) (hoff 15 rfl)⟩)) ?_
          refine steps_cons (by rintro b a w' ⟨p0_, p6_, va_, vb_, vc_, vd_, ha, HI⟩ hb hon hoff; refine ⟨_, rfl, fun K hK => ?_⟩; have e6 := poffb ha (t := 6) (hoff 15 rfl) rfl rfl; exact value_ (v := .slice (some ⟨g6, 0, none⟩) n c6) (by rfl) rfl (by clear HI ha; go_simp) (hK.out _ _ ⟨p0_, p6_, va_, vb_, vc_, vd_, upk ha 1 hb rfl rfl, HI.low 1 (by decide)⟩)) ?_
          refine steps_cons (by rintro b a w' ⟨p0_, p6_, va_, vb_, vc_, vd_, ha, HI⟩ hb hon hoff; refine ⟨_, rfl, fun K hK => ?_⟩; have e8 := poff ha (t := 8) rfl rfl; exact value_ (v := .int .i64 j) (by rfl) rfl (by clear HI ha; go_simp) (hK.out _ _ ⟨p0_, p6_, va_, vb_, vc_, vd_, upk ha 2 hb rfl rfl, HI.low 2 (by decide)⟩)) ?_
          refine steps_cons (by rintro b a w' ⟨p0_, p6_, va_, vb_, vc_, vd_, ha, HI⟩ hb hon hoff; refine ⟨_, rfl, fun K hK => ?_⟩; have e61 := pon ha 1 (hon 1 rfl) rfl rfl rfl; have e62 := pon ha 2 (hon 2 rfl) rfl rfl rfl; exact value_ (v := .slice (some ⟨g6, 0, none⟩) j c6) (by rfl) rfl (by clear HI ha; go_simp; try (intro h__; exfalso; omega)) (hK.out _ _ ⟨p0_, p6_, va_, vb_, vc_, vd_, upk ha 3 hb rfl rfl, HI.low 3 (by decide)⟩)) ?_
          refine steps_cons (by rintro b a w' ⟨p0_, p6_, va_, vb_, vc_, vd_, ha, HI⟩ hb hon hoff; refine ⟨_, rfl, fun K hK => ?_⟩; have e60 := pon ha 0 (hon 0 rfl) rfl rfl rfl; have e63 := pon ha 3 (hon 3 rfl) rfl rfl rfl; obtain ⟨v', w3, p1, p2, p3, p5⟩ := run_fapp 37 (HI.r0 (hon 0 rfl) hb) (HT1.out.below HI.bel) (by have h__ := HLN.out; first | omega | (simp; omega) | (simp; done)) HI.bel.size; exact value_ (w1 := w3) (v := v') (by rfl) rfl (exec_app rfl (by simp [Act.eval, e60]) (by simp [Act.eval, e63]) p1) (hK.out _ _ ⟨p0_, p6_, v', vb_, vc_, vd_, by rw [ha]; exact putSel_upk 4 hb rfl rfl rfl, HI.s4 (hon 0 rfl) hb (hoff 10 rfl) (hoff 14 rfl) (hoff 15 rfl) p2 p3 p5⟩)) ?_
          refine steps_cons (by rintro b a w' ⟨p0_, p6_, va_, vb_, vc_, vd_, ha, HI⟩ hb hon hoff; refine ⟨_, rfl, fun K hK => ?_⟩; have e0 := poff ha (t := 0) rfl rfl; exact value_ (v := .slice (some ⟨g, off, none⟩) i cap) (by rfl) rfl (by clear HI ha; go_simp) (hK.out _ _ ⟨p0_, p6_, va_, vb_, vc_, vd_, upk ha 5 hb rfl rfl, HI.low 5 (by decide)⟩)) ?_
          refine steps_cons (by rintro b a w' ⟨p0_, p6_, va_, vb_, vc_, vd_, ha, HI⟩ hb hon hoff; refine ⟨_, rfl, fun K hK => ?_⟩; have e7 := poff ha (t := 7) rfl rfl; exact value_ (v := .int .i64 n) (by rfl) rfl (by clear HI ha; go_simp) (hK.out _ _ ⟨p0_, p6_, va_, vb_, vc_, vd_, upk ha 6 hb rfl rfl, HI.low 6 (by decide)⟩)) ?_
          refine steps_cons (by rintro b a w' ⟨p0_, p6_, va_, vb_, vc_, vd_, ha, HI⟩ hb hon hoff; refine ⟨_, rfl, fun K hK => ?_⟩; have e65 := pon ha 5 (hon 5 rfl) rfl rfl rfl; have e66 := pon ha 6 (hon 6 rfl) rfl rfl rfl; exact value_ (v := .pointer (some ⟨g, off + n * 4, none⟩)) (by rfl) rfl (by clear HI ha; go_simp) (hK.out _ _ ⟨p0_, p6_, va_, vb_, vc_, vd_, upk ha 7 hb rfl rfl, HI.low 7 (by decide)⟩)) ?_
          refine steps_cons (by rintro b a w' ⟨p0_, p6_, va_, vb_, vc_, vd_, ha, HI⟩ hb hon hoff; refine ⟨_, rfl, fun K hK => ?_⟩; have e67 := pon ha 7 (hon 7 rfl) rfl rfl rfl; have k0_ := bc HI.bel hgl c0; have k1_ := bc HI.bel hgl c1; have k2_ := bc HI.bel hgl c2; have k3_ := bc HI.bel hgl c3; have kz_ := bz HI.bel hgl; exact value_ (v := .agg #[.int .i64 x.d, .int .i64 x.b, .int .i64 x.g, .int .i64 x.i]) (by rfl) rfl (by clear HI ha; go_simp) (hK.out _ _ ⟨p0_, p6_, va_, vb_, vc_, vd_, upk ha 8 hb rfl rfl, HI.low 8 (by decide)⟩)) ?_
          refine steps_cons (by rintro b a w' ⟨p0_, p6_, va_, vb_, vc_, vd_, ha, HI⟩ hb hon hoff; refine ⟨_, rfl, fun K hK => ?_⟩; have e68 := pon ha 8 (hon 8 rfl) rfl rfl rfl; exact value_ (w1 := w'.alloc (.cells #[.int .i64 x.d, .int .i64 x.b, .int .i64 x.g, .int .i64 x.i] 23)) (v := .slice (some ⟨w'.heap.size, 0, none⟩) 1 1) (by rfl) rfl (by clear HI ha; go_simp) (hK.out _ _ ⟨p0_, w'.heap.size, va_, vb_, vc_, vd_, by rw [ha]; exact putSel_upk 9 hb rfl rfl rfl, HI.s6 (hoff 10 rfl) (hoff 14 rfl) (hoff 15 rfl)⟩)) ?_
          refine steps_cons (by rintro b a w' ⟨p0_, p6_, va_, vb_, vc_, vd_, ha, HI⟩ hb hon hoff; refine ⟨_, rfl, fun K hK => ?_⟩; have e64 := pon ha 4 (hon 4 rfl) rfl rfl rfl; have e69 := pon ha 9 (hon 9 rfl) rfl rfl rfl; obtain ⟨v', w3, p1, p2, p3, p5⟩ := run_fapp 37 (HI.r4 (hon 4 rfl) hb) (sp1 (HI.r6 (hon 9 rfl) hb).2) (by have h__ := HLN.out; first | omega | (simp; omega) | (simp; done)) HI.bel.size; exact value_ (w1 := w3) (v := v') (by rfl) rfl (exec_app rfl (by simp [Act.eval, e64]) (by simp [Act.eval, e69]) p1) (hK.out _ _ ⟨p0_, p6_, va_, v', vc_, vd_, by rw [ha]; exact putSel_upk 10 hb rfl rfl rfl, HI.s7 (hon 4 rfl) hb (hoff 14 rfl) (hoff 15 rfl) p2 p3⟩)) ?_
          refine steps_cons (by rintro b a w' ⟨p0_, p6_, va_, vb_, vc_, vd_, ha, HI⟩ hb hon hoff; refine ⟨_, rfl, fun K hK => ?_⟩; have e6 := poffb ha (t := 6) (hoff 15 rfl) rfl rfl; exact value_ (v := .slice (some ⟨g6, 0, none⟩) n c6) (by rfl) rfl (by clear HI ha; go_simp) (hK.out _ _ ⟨p0_, p6_, va_, vb_, vc_, vd_, upk ha 11 hb rfl rfl, HI.low 11 (by decide)⟩)) ?_
          refine steps_cons (by rintro b a w' ⟨p0_, p6_, va_, vb_, vc_, vd_, ha, HI⟩ hb hon hoff; refine ⟨_, rfl, fun K hK => ?_⟩; have e8 := poff ha (t := 8) rfl rfl; exact value_ (v := .int .i64 j) (by rfl) rfl (by clear HI ha; go_simp) (hK.out _ _ ⟨p0_, p6_, va_, vb_, vc_, vd_, upk ha 12 hb rfl rfl, HI.low 12 (by decide)⟩)) ?_
          refine steps_cons (by rintro b a w' ⟨p0_, p6_, va_, vb_, vc_, vd_, ha, HI⟩ hb hon hoff; refine ⟨_, rfl, fun K hK => ?_⟩; have e71 := pon ha 11 (hon 11 rfl) rfl rfl rfl; have e72 := pon ha 12 (hon 12 rfl) rfl rfl rfl; exact value_ (v := .slice (some ⟨g6, 0, none⟩) (n - j) (c6 - j)) (by rfl) rfl (by clear HI ha; go_simp; try (intro h__; exfalso; omega)) (hK.out _ _ ⟨p0_, p6_, va_, vb_, vc_, vd_, upk ha 13 hb rfl rfl, HI.low 13 (by decide)⟩)) ?_
          refine steps_cons (by rintro b a w' ⟨p0_, p6_, va_, vb_, vc_, vd_, ha, HI⟩ hb hon hoff; refine ⟨_, rfl, fun K hK => ?_⟩; have e70 := pon ha 10 (hon 10 rfl) rfl rfl rfl; have e73 := pon ha 13 (hon 13 rfl) rfl rfl rfl; obtain ⟨v', w3, p1, p2, p3, p5⟩ := run_fapp 37 (HI.r7 (hon 10 rfl) hb) (HT2.out.below HI.bel) (by have h__ := HLN.out; first | omega | (simp; omega) | (simp; done)) HI.bel.size; exact value_ (w1 := w3) (v := v') (by rfl) rfl (exec_app rfl (by simp [Act.eval, e70]) (by simp [Act.eval, e73]) p1) (hK.out _ _ ⟨p0_, p6_, va_, vb_, v', vd_, by rw [ha]; exact putSel_upk 14 hb rfl rfl rfl, HI.s11 (hon 4 rfl) (hon 10 rfl) hb (hoff 15 rfl) p2 p3⟩)) ?_
          refine steps_cons (by rintro b a w' ⟨p0_, p6_, va_, vb_, vc_, vd_, ha, HI⟩ hb hon hoff; refine ⟨_, rfl, fun K hK => ?_⟩; have e74 := pon ha 14 (hon 14 rfl) rfl rfl rfl; exact value_ (w1 := w') (v := vc_) (by rfl) rfl (by clear HI ha; go_simp) (hK.out _ _ ⟨p0_, p6_, va_, vb_, vc_, vc_, by rw [ha]; exact putSel_upk 15 hb rfl rfl rfl, HI.s12⟩)) ?_
          exact steps_nil
        · rintro b a w' hall ⟨p0_, p6_, va_, vb_, vc_, vd_, ha, HI⟩
          have hb0_ := hall 0 rfl; have hb1_ := hall 1 rfl; have hb2_ := hall 2 rfl; have hb3_ := hall 3 rfl; have hb4_ := hall 4 rfl; have hb5_ := hall 5 rfl; have hb6_ := hall 6 rfl; have hb7_ := hall 7 rfl
          have hb8_ := hall 8 rfl; have hb9_ := hall 9 rfl; have hb10_ := hall 10 rfl; have hb11_ := hall 11 rfl; have hb12_ := hall 12 rfl; have hb13_ := hall 13 rfl; have hb14_ := hall 14 rfl; have hb15_ := hall 15 rfl
          subst ha
          simp only [putSel, hb0_, hb1_, hb2_, hb3_, hb4_, hb5_, hb6_, hb7_, hb8_, hb9_, hb10_, hb11_, hb12_, hb13_, hb14_, hb15_, if_true, Act.put, List.setIfInBounds_toArray, List.set_cons_zero, List.set_cons_succ]
          have hr := HI.r11 hb14_
          rw [← HI.r12 hb15_] at hr
          have hB := (below_then (below_drew (Below.refl _ wc)) (Nat.le_refl _) HI.bel : Below wc.heap.size wc w')
          clear hall HI hb0_ hb1_ hb2_ hb3_ hb4_ hb5_ hb6_ hb7_ hb8_ hb9_ hb10_ hb11_ hb12_ hb13_ hb14_ hb15_
          have HN : Side (FRow w' w2.heap.size vd_ (ws.take j ++ [x] ++ ws.drop j)) := ⟨GRow.lower hr HBW.out.size⟩
          have HBN : Side (Below w2.heap.size w2 w') := ⟨HBW.out.trans (hB.mono HBW.out.size)⟩
          clear hr hB HT1 HT2 HBW HLN HF2 c0 c1 c2 c3 hgl
          go_wp2
          go_roundw
          case rel => exact ⟨n + 1, ws.take j ++ [x] ++ ws.drop j, by simp, by omega, ⟨HBN.out.trans (((by (repeat (with_reducible first | exact Below.refl _ _ | apply below_drewN | apply below_drew | apply below_alloc))) : Below w'.heap.size w' _).mono HBN.out.size)⟩, ⟨HN.out.below (by (repeat (with_reducible first | exact Below.refl _ _ | apply below_drewN | apply below_drew | apply below_alloc)))⟩, HWN⟩
          case measure => simp [intOf]; omega
      · have HT2 : Side (Sp wc.drew (.slice (some ⟨g6, j * 4, none⟩) (n - j) (c6 - j)) (ws.drop j)) := ⟨Sp.below (by have := Sp.drop HF2.out j (c6 - j) (by omega); rw [hwl] at this; exact this) (by (repeat (with_reducible first | exact Below.refl _ _ | apply below_drewN | apply below_drew | apply below_alloc)))⟩
        refine start_ (n := 16) (S := fun w' => True) (ds := []) #[false, false, false, false, false, false, false, false, false, false, false, false, false, false, false, false] (by kernel_rfl) rfl rfl trivial (fun _ => ?_)
        refine inv_at (B := [0, 0, 0, 6, 15, 0, 0, 96, 224, 480, 1023, 0, 0, 6144, 16383, 32767]) [0, 1, 2, 3, 4, 5, 6, 7, 8, 9, 10, 11, 12, 13, 14, 15] (fun a0_ b a w' => ∃ p0_ p6_ va_ vb_ vc_ vd_, a = putSel a0_ b [(0, 60, .slice (some ⟨p0_, 0, none⟩) 0 0), (1, 61, .slice (some ⟨g6, 0, none⟩) n c6), (2, 62, .int .i64 j), (3, 63, .slice (some ⟨g6, 0, none⟩) j c6), (4, 64, va_), (5, 65, .slice (some ⟨g, off, none⟩) i cap), (6, 66, .int .i64 n), (7, 67, .pointer (some ⟨g, off + n * 4, none⟩)), (8, 68, .agg #[.int .i64 x.d, .int .i64 x.b, .int .i64 x.g, .int .i64 x.i]), (9, 69, .slice (some ⟨p6_, 0, none⟩) 1 1), (10, 70, vb_), (11, 71, .slice (some ⟨g6, 0, none⟩) n c6), (12, 72, .int .i64 j), (13, 73, .slice (some ⟨g6, j * 4, none⟩) (n - j) (c6 - j)), (14, 74, vc_), (15, 6, vd_)] ∧ Aq wc.drew (ws.take j) (ws.drop j) x b p0_ p6_ va_ vb_ vc_ vd_ w') rfl (by kernel_rfl) (by kernel_rfl) (by kernel_rfl) ?_ ?_ ?_
        · exact ⟨0, 0, .bool false, .bool false, .bool false, .bool false, by simp only [putSel, Bool.false_eq_true, if_false], Aq.start⟩
        · refine steps_cons (by rintro b a w' ⟨p0_, p6_, va_, vb_, vc_, vd_, ha, HI⟩ hb hon hoff; refine ⟨_, rfl, fun K hK => ?_⟩; exact value_ (w1 := w'.alloc (.cells #[] 23)) (v := .slice (some ⟨w'.heap.size, 0, none⟩) 0 0) (by rfl) rfl (by clear HI ha; go_simp) (hK.out _ _ ⟨w'.heap.size, p6_, va_, vb_, vc_, vd_, by rw [ha]; exact putSel_upk 0 hb rfl rfl rfl, HI.s0 (hoff 4 rfl) (hoff 10 rfl) (hoff 14 rfl) (hoff 15 rfl)⟩)) ?_
          refine steps_cons (by rintro b a w' ⟨p0_, p6_, va_, vb_, vc_, vd_, ha, HI⟩ hb hon hoff; refine ⟨_, rfl, fun K hK => ?_⟩; have e6 := poffb ha (t := 6) (hoff 15 rfl) rfl rfl; exact value_ (v := .slice (some ⟨g6, 0, none⟩) n c6) (by rfl) rfl (by clear HI ha; go_simp) (hK.out _ _ ⟨p0_, p6_, va_, vb_, vc_, vd_, upk ha 1 hb rfl rfl, HI.low 1 (by decide)⟩)) ?_
          refine steps_cons (by rintro b a w' ⟨p0_, p6_, va_, vb_, vc_, vd_, ha, HI⟩ hb hon hoff; refine ⟨_, rfl, fun K hK => ?_⟩; have e8 := poff ha (t := 8) rfl rfl; exact value_ (v := .int .i64 j) (by rfl) rfl (by clear HI ha; go_simp) (hK.out _ _ ⟨p0_, p6_, va_, vb_, vc_, vd_, upk ha 2 hb rfl rfl, HI.low 2 (by decide)⟩)) ?_
          refine steps_cons (by rintro b a w' ⟨p0_, p6_, va_, vb_, vc_, vd_, ha, HI⟩ hb hon hoff; refine ⟨_, rfl, fun K hK => ?_⟩; have e61 := pon ha 1 (hon 1 rfl) rfl rfl rfl; have e62 := pon ha 2 (hon 2 rfl) rfl rfl rfl; exact value_ (v := .slice (some ⟨g6, 0, none⟩) j c6) (by rfl) rfl (by clear HI ha; go_simp; try (intro h__; exfalso; omega)) (hK.out _ _ ⟨p0_, p6_, va_, vb_, vc_, vd_, upk ha 3 hb rfl rfl, HI.low 3 (by decide)⟩)) ?_
          refine steps_cons (by rintro b a w' ⟨p0_, p6_, va_, vb_, vc_, vd_, ha, HI⟩ hb hon hoff; refine ⟨_, rfl, fun K hK => ?_⟩; have e60 := pon ha 0 (hon 0 rfl) rfl rfl rfl; have e63 := pon ha 3 (hon 3 rfl) rfl rfl rfl; obtain ⟨v', w3, p1, p2, p3, p5⟩ := run_fapp 37 (HI.r0 (hon 0 rfl) hb) (HT1.out.below HI.bel) (by have h__ := HLN.out; first | omega | (simp; omega) | (simp; done)) HI.bel.size; exact value_ (w1 := w3) (v := v') (by rfl) rfl (exec_app rfl (by simp [Act.eval, e60]) (by simp [Act.eval, e63]) p1) (hK.out _ _ ⟨p0_, p6_, v', vb_, vc_, vd_, by rw [ha]; exact putSel_upk 4 hb rfl rfl rfl, HI.s4 (hon 0 rfl) hb (hoff 10 rfl) (hoff 14 rfl) (hoff 15 rfl) p2 p3 p5⟩)) ?_
          refine steps_cons (by rintro b a w' ⟨p0_, p6_, va_, vb_, vc_, vd_, ha, HI⟩ hb hon hoff; refine ⟨_, rfl, fun K hK => ?_⟩; have e0 := poff ha (t := 0) rfl rfl; exact value_ (v := .slice (some ⟨g, off, none⟩) i cap) (by rfl) rfl (by clear HI ha; go_simp) (hK.out _ _ ⟨p0_, p6_, va_, vb_, vc_, vd_, upk ha 5 hb rfl rfl, HI.low 5 (by decide)⟩)) ?_
          refine steps_cons (by rintro b a w' ⟨p0_, p6_, va_, vb_, vc_, vd_, ha, HI⟩ hb hon hoff; refine ⟨_, rfl, fun K hK => ?_⟩; have e7 := poff ha (t := 7) rfl rfl; exact value_ (v := .int .i64 n) (by rfl) rfl (by clear HI ha; go_simp) (hK.out _ _ ⟨p0_, p6_, va_, vb_, vc_, vd_, upk ha 6 hb rfl rfl, HI.low 6 (by decide)⟩)) ?_
          refine steps_cons (by rintro b a w' ⟨p0_, p6_, va_, vb_, vc_, vd_, ha, HI⟩ hb hon hoff; refine ⟨_, rfl, fun K hK => ?_⟩; have e65 := pon ha 5 (hon 5 rfl) rfl rfl rfl; have e66 := pon ha 6 (hon 6 rfl) rfl rfl rfl; exact value_ (v := .pointer (some ⟨g, off + n * 4, none⟩)) (by rfl) rfl (by clear HI ha; go_simp) (hK.out _ _ ⟨p0_, p6_, va_, vb_, vc_, vd_, upk ha 7 hb rfl rfl, HI.low 7 (by decide)⟩)) ?_
          refine steps_cons (by rintro b a w' ⟨p0_, p6_, va_, vb_, vc_, vd_, ha, HI⟩ hb hon hoff; refine ⟨_, rfl, fun K hK => ?_⟩; have e67 := pon ha 7 (hon 7 rfl) rfl rfl rfl; have k0_ := bc HI.bel hgl c0; have k1_ := bc HI.bel hgl c1; have k2_ := bc HI.bel hgl c2; have k3_ := bc HI.bel hgl c3; have kz_ := bz HI.bel hgl; exact value_ (v := .agg #[.int .i64 x.d, .int .i64 x.b, .int .i64 x.g, .int .i64 x.i]) (by rfl) rfl (by clear HI ha; go_simp) (hK.out _ _ ⟨p0_, p6_, va_, vb_, vc_, vd_, upk ha 8 hb rfl rfl, HI.low 8 (by decide)⟩)) ?_
          refine steps_cons (by rintro b a w' ⟨p0_, p6_, va_, vb_, vc_, vd_, ha, HI⟩ hb hon hoff; refine ⟨_, rfl, fun K hK => ?_⟩; have e68 := pon ha 8 (hon 8 rfl) rfl rfl rfl; exact value_ (w1 := w'.alloc (.cells #[.int .i64 x.d, .int .i64 x.b, .int .i64 x.g, .int .i64 x.i] 23)) (v := .slice (some ⟨w'.heap.size, 0, none⟩) 1 1) (by rfl) rfl (by clear HI ha; go_simp) (hK.out _ _ ⟨p0_, w'.heap.size, va_, vb_, vc_, vd_, by rw [ha]; exact putSel_upk 9 hb rfl rfl rfl, HI.s6 (hoff 10 rfl) (hoff 14 rfl) (hoff 15 rfl)⟩)) ?_
          refine steps_cons (by rintro b a w' ⟨p0_, p6_, va_, vb_, vc_, vd_, ha, HI⟩ hb hon hoff; refine ⟨_, rfl, fun K hK => ?_⟩; have e64 := pon ha 4 (hon 4 rfl) rfl rfl rfl; have e69 := pon ha 9 (hon 9 rfl) rfl rfl rfl; obtain ⟨v', w3, p1, p2, p3, p5⟩ := run_fapp 37 (HI.r4 (hon 4 rfl) hb) (sp1 (HI.r6 (hon 9 rfl) hb).2) (by have h__ := HLN.out; first | omega | (simp; omega) | (simp; done)) HI.bel.size; exact value_ (w1 := w3) (v := v') (by rfl) rfl (exec_app rfl (by simp [Act.eval, e64]) (by simp [Act.eval, e69]) p1) (hK.out _ _ ⟨p0_, p6_, va_, v', vc_, vd_, by rw [ha]; exact putSel_upk 10 hb rfl rfl rfl, HI.s7 (hon 4 rfl) hb (hoff 14 rfl) (hoff 15 rfl) p2 p3⟩)) ?_
          refine steps_cons (by rintro b a w' ⟨p0_, p6_, va_, vb_, vc_, vd_, ha, HI⟩ hb hon hoff; refine ⟨_, rfl, fun K hK => ?_⟩; have e6 := poffb ha (t := 6) (hoff 15 rfl) rfl rfl; exact value_ (v := .slice (some ⟨g6, 0, none⟩) n c6) (by rfl) rfl (by clear HI ha; go_simp) (hK.out _ _ ⟨p0_, p6_, va_, vb_, vc_, vd_, upk ha 11 hb rfl rfl, HI.low 11 (by decide)⟩)) ?_
          refine steps_cons (by rintro b a w' ⟨p0_, p6_, va_, vb_, vc_, vd_, ha, HI⟩ hb hon hoff; refine ⟨_, rfl, fun K hK => ?_⟩; have e8 := poff ha (t := 8) rfl rfl; exact value_ (v := .int .i64 j) (by rfl) rfl (by clear HI ha; go_simp) (hK.out _ _ ⟨p0_, p6_, va_, vb_, vc_, vd_, upk ha 12 hb rfl rfl, HI.low 12 (by decide)⟩)) ?_
          refine steps_cons (by rintro b a w' ⟨p0_, p6_, va_, vb_, vc_, vd_, ha, HI⟩ hb hon hoff; refine ⟨_, rfl, fun K hK => ?_⟩; have e71 := pon ha 11 (hon 11 rfl) rfl rfl rfl; have e72 := pon ha 12 (hon 12 rfl) rfl rfl rfl; exact value_ (v := .slice (some ⟨g6, j * 4, none⟩) (n - j) (c6 - j)) (by rfl) rfl (by clear HI ha; go_simp; try (intro h__; exfalso; omega)) (hK.out _ _ ⟨p0_, p6_, va_, vb_, vc_, vd_, upk ha 13 hb rfl rfl, HI.low 13 (by decide)⟩)) ?_
          refine steps_cons (by rintro b a w' ⟨p0_, p6_, va_, vb_, vc_, vd_, ha, HI⟩ hb hon hoff; refine ⟨_, rfl, fun K hK => ?_⟩; have e70 := pon ha 10 (hon 10 rfl) rfl rfl rfl; have e73 := pon ha 13 (hon 13 rfl) rfl rfl rfl; obtain ⟨v', w3, p1, p2, p3, p5⟩ := run_fapp 37 (HI.r7 (hon 10 rfl) hb) (HT2.out.below HI.bel) (by have h__ := HLN.out; first | omega | (simp; omega) | (simp; done)) HI.bel.size; exact value_ (w1 := w3) (v := v') (by rfl) rfl (exec_app rfl (by simp [Act.eval, e70]) (by simp [Act.eval, e73]) p1) (hK.out _ _ ⟨p0_, p6_, va_, vb_, v', vd_, by rw [ha]; exact putSel_upk 14 hb rfl rfl rfl, HI.s11 (hon 4 rfl) (hon 10 rfl) hb (hoff 15 rfl) p2 p3⟩)) ?_
          refine steps_cons (by rintro b a w' ⟨p0_, p6_, va_, vb_, vc_, vd_, ha, HI⟩ hb hon hoff; refine ⟨_, rfl, fun K hK => ?_⟩; have e74 := pon ha 14 (hon 14 rfl) rfl rfl rfl; exact value_ (w1 := w') (v := vc_) (by rfl) rfl (by clear HI ha; go_simp) (hK.out _ _ ⟨p0_, p6_, va_, vb_, vc_, vc_, by rw [ha]; exact putSel_upk 15 hb rfl rfl rfl, HI.s12⟩)) ?_
          exact steps_nil
        · rintro b a w' hall ⟨p0_, p6_, va_, vb_, vc_, vd_, ha, HI⟩
          have hb0_ := hall 0 rfl; have hb1_ := hall 1 rfl; have hb2_ := hall 2 rfl; have hb3_ := hall 3 rfl; have hb4_ := hall 4 rfl; have hb5_ := hall 5 rfl; have hb6_ := hall 6 rfl; have hb7_ := hall 7 rfl
          have hb8_ := hall 8 rfl; have hb9_ := hall 9 rfl; have hb10_ := hall 10 rfl; have hb11_ := hall 11 rfl; have hb12_ := hall 12 rfl; have hb13_ := hall 13 rfl; have hb14_ := hall 14 rfl; have hb15_ := hall 15 rfl
          subst ha
          simp only [putSel, hb0_, hb1_, hb2_, hb3_, hb4_, hb5_, hb6_, hb7_, hb8_, hb9_, hb10_, hb11_, hb12_, hb13_, hb14_, hb15_, if_true, Act.put, List.setIfInBounds_toArray, List.set_cons_zero, List.set_cons_succ]
          have hr := HI.r11 hb14_
          rw [← HI.r12 hb15_] at hr
          have hB := (below_then (below_drew (Below.refl _ wc)) (Nat.le_refl _) HI.bel : Below wc.heap.size wc w')
          clear hall HI hb0_ hb1_ hb2_ hb3_ hb4_ hb5_ hb6_ hb7_ hb8_ hb9_ hb10_ hb11_ hb12_ hb13_ hb14_ hb15_
          have HN : Side (FRow w' w2.heap.size vd_ (ws.take j ++ [x] ++ ws.drop j)) := ⟨GRow.lower hr HBW.out.size⟩
          have HBN : Side (Below w2.heap.size w2 w') := ⟨HBW.out.trans (hB.mono HBW.out.size)⟩
          clear hr hB HT1 HT2 HBW HLN HF2 c0 c1 c2 c3 hgl
          go_wp2
          go_roundw
          case rel => exact ⟨n + 1, ws.take j ++ [x] ++ ws.drop j, by simp, by omega, ⟨HBN.out.trans (((by (repeat (with_reducible first | exact Below.refl _ _ | apply below_drewN | apply below_drew | apply below_alloc))) : Below w'.heap.size w' _).mono HBN.out.size)⟩, ⟨HN.out.below (by (repeat (with_reducible first | exact Below.refl _ _ | apply below_drewN | apply below_drew | apply below_alloc)))⟩, HWN⟩
          case measure => simp [intOf]; omega
  · have hjp : ∃ J, j = J + 1 := by
      rcases j with _ | J
      · exact absurd HTT.out (by simp [stp])
      · exact ⟨J, rfl⟩
    obtain ⟨J, rfl⟩ := hjp
    have HD2 : Side (Dw (at_ (ls V i)) n J ws) := ⟨⟨by omega, fun q h1 h2 => by
      by_cases e : q = J
      · rw [e, HX2.out]; exact HTT.out.symm
      · exact HD.out.hi q (by omega) h2⟩⟩
    have hJi : (J : Int) + 1 ≤ 9223372036854775807 := by omega
    clear HTT HD HW HX2 HF2 c0 c1 c2 c3 hgl
    go_wp2
    go_roundw
    case rel => exact ⟨J, by first | rfl | (simp; done) | (simp; omega), HD2, HQ2⟩
    case measure => simp [intOf]; try omega
end Go.Proofs.Ytmjgadhknliiaaa.SoO2
