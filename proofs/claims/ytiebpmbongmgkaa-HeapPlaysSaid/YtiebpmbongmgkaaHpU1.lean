/- Package heap: the walk of HeapPlays. No condition. -/
import Derived.Test.YtiebpmbongmgkaaHpUp
import Derived.Test.YtiebpmbongmgkaaHpS
import Derived.Test.YtiebpmbongmgkaaHpT
import Derived.Test.YtiebpmbongmgkaaHpR
set_option linter.unusedVariables false
set_option linter.unusedSimpArgs false
namespace Go.Proofs.Ytiebpmbongmgkaa.HpU1
open Go.RowKit Go.Proofs.Ytiebpmbongmgkaa.Kit Go.Proofs.Ytiebpmbongmgkaa.Kit2 Go.Proofs.Ytiebpmbongmgkaa.Kit3 Go.Proofs.Ytiebpmbongmgkaa.Kit4 Go.Proofs.Ytiebpmbongmgkaa.Kit5 HpPlain Go.Maps Go.Proofs.Ytiebpmbongmgkaa.HpA Go.Proofs.Ytiebpmbongmgkaa.HpB Go.Proofs.Ytiebpmbongmgkaa.HpE Go.Proofs.Ytiebpmbongmgkaa.HpG Go.Proofs.Ytiebpmbongmgkaa.HpI Go.Proofs.Ytiebpmbongmgkaa.HpK Go.Proofs.Ytiebpmbongmgkaa.HpL Go.Proofs.Ytiebpmbongmgkaa.HpN Go.Proofs.Ytiebpmbongmgkaa.HpO Go.Proofs.Ytiebpmbongmgkaa.HpP Go.Proofs.Ytiebpmbongmgkaa.HpT Go.Proofs.Ytiebpmbongmgkaa.HpR
open Go.Proofs.YtiebpmbongmgkaaW.PrintLast
set_option maxHeartbeats 400000000 in
set_option maxRecDepth 100000 in
theorem piece : HpUp.part.1 := by
  set_option tactic.hygienic false in (intro _; intros)
  have hjli : (j : Int) < ms.length := by omega
  have hj1 : (j : Int) + 1 ≤ 9223372036854775807 := by omega
  have E9 : Side (atOf y.2.1 (its ms) (j + 1) = if (at_ (its ms) j).1 = y.2.1 then (j : Int) else atOf y.2.1 (its ms) j) := ⟨rfl⟩
  have E10 : Side (bestOf kind (its ms) (j + 1) = if tst kind (its ms) j (bestOf kind (its ms) j) = true then (j : Int) else bestOf kind (its ms) j) := ⟨rfl⟩
  have HT : Side (tst kind (its ms) j (bestOf kind (its ms) j) = (decide (bestOf kind (its ms) j < 0) || lt kind (at_ (its ms) j) (at_ (its ms) (bestOf kind (its ms) j).toNat))) := ⟨rfl⟩
  have HSP := Side.mk (bestOf_spec kind (its ms) j)
  generalize tst kind (its ms) j (bestOf kind (its ms) j) = tt at *
  obtain ⟨nb, hnb⟩ : ∃ nb, bestOf kind (its ms) (j + 1) = nb := ⟨_, rfl⟩
  obtain ⟨na, hna⟩ : ∃ na, atOf y.2.1 (its ms) (j + 1) = na := ⟨_, rfl⟩
  rw [hnb] at E10
  rw [hna] at E9
  have HNB := Side.mk hnb
  have HNA := Side.mk hna
  clear hnb hna
  generalize bestOf kind (its ms) j = bj at *
  generalize atOf y.2.1 (its ms) j = aj at *
  obtain ⟨g6, rfl, hgl, u, hu, hua, u0, u1, u2, u3, u4, u5⟩ := HA.out.pl.get j hjl
  have b1 := HA.out.bx.cell 1 _ rfl
  have hpl := HA.out.bx.lt
  go_upto_region 17 with (fail)
  obtain ⟨sb, hsb⟩ : ∃ sb, sb = (u.2.1 == y.2.1) := ⟨_, rfl⟩
  have HSB := Side.mk hsb
  clear hsb
  go_cut [49] (fun v we => v = .bool sb ∧ Side (Below wq.heap.size wq we))
  case first =>
    refine start_ (n := 8) (S := fun w' => True) (ds := []) #[false, false, false, false, false, false, false, false] (by kernel_rfl) rfl rfl trivial (fun _ => ?_)
    refine inv_at (B := [0, 0, 3, 7, 15, 0, 32, 127]) [0, 1, 2, 3, 4, 5, 6, 7] (fun a0_ b a w' => a = putSel a0_ b [(0, 42, .slice (some ⟨g6, 0, none⟩) ms.length c6), (1, 43, .int .i64 j), (2, 44, .pointer (some ⟨g6, j * 6, none⟩)), (3, 45, .pointer (some ⟨g6, j * 6 + 1, none⟩)), (4, 46, .int .i64 u.2.1), (5, 47, .pointer (some ⟨p8, 1, none⟩)), (6, 48, .int .i64 y.2.1), (7, 49, .bool sb)] ∧ Below wq.drew.heap.size wq.drew w') rfl (by kernel_rfl) (by kernel_rfl) (by kernel_rfl) ?_ ?_ ?_
    · exact ⟨by simp only [putSel, Bool.false_eq_true, if_false], Below.refl _ _⟩
    · refine steps_cons (by rintro b a w' ⟨ha, HI⟩ hb hon hoff; refine ⟨_, rfl, fun K hK => ?_⟩; have e6 := poff ha (t := 6) rfl rfl; exact value_ (v := .slice (some ⟨g6, 0, none⟩) ms.length c6) (by rfl) rfl (by clear HI ha; go_simp) (hK.out _ _ ⟨upk ha 0 hb rfl rfl, HI⟩)) ?_
      refine steps_cons (by rintro b a w' ⟨ha, HI⟩ hb hon hoff; refine ⟨_, rfl, fun K hK => ?_⟩; have e11 := poff ha (t := 11) rfl rfl; exact value_ (v := .int .i64 j) (by rfl) rfl (by clear HI ha; go_simp) (hK.out _ _ ⟨upk ha 1 hb rfl rfl, HI⟩)) ?_
      refine steps_cons (by rintro b a w' ⟨ha, HI⟩ hb hon hoff; refine ⟨_, rfl, fun K hK => ?_⟩; have e42 := pon ha 0 (hon 0 rfl) rfl rfl rfl; have e43 := pon ha 1 (hon 1 rfl) rfl rfl rfl; exact value_ (v := .pointer (some ⟨g6, j * 6, none⟩)) (by rfl) rfl (by clear HI ha; go_simp) (hK.out _ _ ⟨upk ha 2 hb rfl rfl, HI⟩)) ?_
      refine steps_cons (by rintro b a w' ⟨ha, HI⟩ hb hon hoff; refine ⟨_, rfl, fun K hK => ?_⟩; have e44 := pon ha 2 (hon 2 rfl) rfl rfl rfl; exact value_ (v := .pointer (some ⟨g6, j * 6 + 1, none⟩)) (by rfl) rfl (by clear HI ha; go_simp) (hK.out _ _ ⟨upk ha 3 hb rfl rfl, HI⟩)) ?_
      refine steps_cons (by rintro b a w' ⟨ha, HI⟩ hb hon hoff; refine ⟨_, rfl, fun K hK => ?_⟩; have e45 := pon ha 3 (hon 3 rfl) rfl rfl rfl; have k0_ := bc HI hgl u1; have kz_ := bz HI hgl; exact value_ (v := .int .i64 u.2.1) (by rfl) rfl (by clear HI ha; go_simp) (hK.out _ _ ⟨upk ha 4 hb rfl rfl, HI⟩)) ?_
      refine steps_cons (by rintro b a w' ⟨ha, HI⟩ hb hon hoff; refine ⟨_, rfl, fun K hK => ?_⟩; have e8 := poff ha (t := 8) rfl rfl; exact value_ (v := .pointer (some ⟨p8, 1, none⟩)) (by rfl) rfl (by clear HI ha; go_simp) (hK.out _ _ ⟨upk ha 5 hb rfl rfl, HI⟩)) ?_
      refine steps_cons (by rintro b a w' ⟨ha, HI⟩ hb hon hoff; refine ⟨_, rfl, fun K hK => ?_⟩; have e47 := pon ha 5 (hon 5 rfl) rfl rfl rfl; have k0_ := bc HI hpl b1; have kz_ := bz HI hpl; exact value_ (v := .int .i64 y.2.1) (by rfl) rfl (by clear HI ha; go_simp) (hK.out _ _ ⟨upk ha 6 hb rfl rfl, HI⟩)) ?_
      refine steps_cons (by rintro b a w' ⟨ha, HI⟩ hb hon hoff; refine ⟨_, rfl, fun K hK => ?_⟩; have e46 := pon ha 4 (hon 4 rfl) rfl rfl rfl; have e48 := pon ha 6 (hon 6 rfl) rfl rfl rfl; exact value_ (v := .bool sb) (by rfl) rfl (by clear HI ha; go_simp; exact HSB.out.symm) (hK.out _ _ ⟨upk ha 7 hb rfl rfl, HI⟩)) ?_
      exact steps_nil
    · rintro b a w' hall ⟨ha, HI⟩
      have hb0_ := hall 0 rfl; have hb1_ := hall 1 rfl; have hb2_ := hall 2 rfl; have hb3_ := hall 3 rfl; have hb4_ := hall 4 rfl; have hb5_ := hall 5 rfl; have hb6_ := hall 6 rfl; have hb7_ := hall 7 rfl
      subst ha
      simp only [putSel, hb0_, hb1_, hb2_, hb3_, hb4_, hb5_, hb6_, hb7_, if_true, Act.put, List.setIfInBounds_toArray, List.set_cons_zero, List.set_cons_succ]
      have hB := (below_then (below_drew (Below.refl _ wq)) (Nat.le_refl _) HI : Below wq.heap.size wq w')
      clear hall HI hb0_ hb1_ hb2_ hb3_ hb4_ hb5_ hb6_ hb7_
      refine ‹∀ (a' : Act) (w' : World), Met _ a' w' → _› _ _ ?_
      go_meet
      case rel => exact ⟨rfl, ⟨hB⟩⟩
  case rest =>
    obtain ⟨rfl, HB⟩ := hcut
    have HA2 := Side.mk (HA.out.below HB.out)
    clear HA HB u0 u1 u2 u3 u4 u5 b1 hgl hpl
    go_step
    have h9 : na = if sb = true then (j : Int) else aj := by
      rw [E9.out, hua, HSB.out]
      by_cases hs : u.2.1 = y.2.1
      · rw [if_pos hs, if_pos (by rw [hs]; exact beq_self_eq_true _)]
      · rw [if_neg hs, if_neg (by simpa using hs)]
    clear E9 HSB
    have H9 := Side.mk h9
    clear h9
    go_cut [9] (fun v wf => v = .int .i64 na ∧ wf = wc)
    case first =>
      cases sb
      · obtain rfl : na = aj := H9.out
        clear H9
        go_wp2
        go_meet
        case rel => exact ⟨rfl, rfl⟩
      · obtain rfl : na = (j : Int) := H9.out
        clear H9
        go_wp2
        go_meet
        case rel => exact ⟨rfl, rfl⟩
    case rest =>
      obtain ⟨rfl, hwc⟩ := hcut
      clear H9
      have HA3 : Side (Pb w gh kind (.slice (some ⟨g6, 0, none⟩) ms.length c6) ms p8 y wc) := by rw [hwc]; exact HA2
      clear hwc HA2
      obtain ⟨wq, hwq⟩ : ∃ wq : World, wq = wc := ⟨_, rfl⟩
      rw [← hwq] at HA3 ⊢
      clear hwq
      go_step
      go_upto_region 19 with (fail)
      go_cut [64] (fun v we => v = .bool tt ∧ Side (Below wq.heap.size wq we))
      case first =>
        have hto := HT.out
        clear HT E10
        rcases HSP.out with ⟨h1, h1'⟩ | ⟨q2, hq2, h1, -⟩
        · subst h1'
          rw [decide_eq_true (by decide), Bool.true_or] at hto
          subst hto
          clear h1
          refine start_ (n := 14) (S := fun w' => True) (ds := []) #[false, false, false, false, false, false, false, false, false, false, false, false, false, false] (by kernel_rfl) rfl rfl trivial (fun _ => ?_)
          refine inv_at (B := [0, 1, 3, 7, 7, 7, 55, 119, 7, 7, 775, 1799, 4095, 8191]) [0, 1, 2, 3, 4, 5, 6, 7, 8, 9, 10, 11, 12, 13] (fun a0_ b a w' => a = putSel a0_ b [(0, 51, .int .i64 (-1)), (1, 52, .bool true), (2, 53, .bool true), (3, 54, undef), (4, 55, undef), (5, 56, undef), (6, 57, undef), (7, 58, undef), (8, 59, undef), (9, 60, undef), (10, 61, undef), (11, 62, undef), (12, 63, undef), (13, 64, .bool true)] ∧ Below wq.drew.heap.size wq.drew w') rfl (by kernel_rfl) (by kernel_rfl) (by kernel_rfl) ?_ ?_ ?_
          · exact ⟨by simp only [putSel, Bool.false_eq_true, if_false], Below.refl _ _⟩
          · refine steps_cons (by rintro b a w' ⟨ha, HI⟩ hb hon hoff; refine ⟨_, rfl, fun K hK => ?_⟩; have e10 := poff ha (t := 10) rfl rfl; exact value_ (v := .int .i64 (-1)) (by rfl) rfl (by clear HI ha; go_simp) (hK.out _ _ ⟨upk ha 0 hb rfl rfl, HI⟩)) ?_
            refine steps_cons (by rintro b a w' ⟨ha, HI⟩ hb hon hoff; refine ⟨_, rfl, fun K hK => ?_⟩; have e51 := pon ha 0 (hon 0 rfl) rfl rfl rfl; exact value_ (v := .bool true) (by rfl) rfl (by clear HI ha; go_simp) (hK.out _ _ ⟨upk ha 1 hb rfl rfl, HI⟩)) ?_
            refine steps_cons (by rintro b a w' ⟨ha, HI⟩ hb hon hoff; refine ⟨_, rfl, fun K hK => ?_⟩; have e52 := pon ha 1 (hon 1 rfl) rfl rfl rfl; exact value_ (v := .bool true) (by rfl) rfl (by clear HI ha; go_simp) (hK.out _ _ ⟨upk ha 2 hb rfl rfl, HI⟩)) ?_
            refine steps_cons (by rintro b a w' ⟨ha, HI⟩ hb hon hoff; refine ⟨_, rfl, fun K hK => ?_⟩; have e0 := poff ha (t := 0) rfl rfl; have e53 := pon ha 2 (hon 2 rfl) rfl rfl rfl; exact off_ (wanted_off (t := 53) (u := false) rfl rfl rfl e53) (hK.out _ _ ⟨upk ha 3 hb rfl rfl, HI⟩)) ?_
            refine steps_cons (by rintro b a w' ⟨ha, HI⟩ hb hon hoff; refine ⟨_, rfl, fun K hK => ?_⟩; have e6 := poff ha (t := 6) rfl rfl; have e53 := pon ha 2 (hon 2 rfl) rfl rfl rfl; exact off_ (wanted_off (t := 53) (u := false) rfl rfl rfl e53) (hK.out _ _ ⟨upk ha 4 hb rfl rfl, HI⟩)) ?_
            refine steps_cons (by rintro b a w' ⟨ha, HI⟩ hb hon hoff; refine ⟨_, rfl, fun K hK => ?_⟩; have e11 := poff ha (t := 11) rfl rfl; have e53 := pon ha 2 (hon 2 rfl) rfl rfl rfl; exact off_ (wanted_off (t := 53) (u := false) rfl rfl rfl e53) (hK.out _ _ ⟨upk ha 5 hb rfl rfl, HI⟩)) ?_
            refine steps_cons (by rintro b a w' ⟨ha, HI⟩ hb hon hoff; refine ⟨_, rfl, fun K hK => ?_⟩; have e55 := pon ha 4 (hon 4 rfl) rfl rfl rfl; have e56 := pon ha 5 (hon 5 rfl) rfl rfl rfl; have e53 := pon ha 2 (hon 2 rfl) rfl rfl rfl; exact off_ (wanted_off (t := 53) (u := false) rfl rfl rfl e53) (hK.out _ _ ⟨upk ha 6 hb rfl rfl, HI⟩)) ?_
            refine steps_cons (by rintro b a w' ⟨ha, HI⟩ hb hon hoff; refine ⟨_, rfl, fun K hK => ?_⟩; have e57 := pon ha 6 (hon 6 rfl) rfl rfl rfl; have e53 := pon ha 2 (hon 2 rfl) rfl rfl rfl; exact off_ (wanted_off (t := 53) (u := false) rfl rfl rfl e53) (hK.out _ _ ⟨upk ha 7 hb rfl rfl, HI⟩)) ?_
            refine steps_cons (by rintro b a w' ⟨ha, HI⟩ hb hon hoff; refine ⟨_, rfl, fun K hK => ?_⟩; have e6 := poff ha (t := 6) rfl rfl; have e53 := pon ha 2 (hon 2 rfl) rfl rfl rfl; exact off_ (wanted_off (t := 53) (u := false) rfl rfl rfl e53) (hK.out _ _ ⟨upk ha 8 hb rfl rfl, HI⟩)) ?_
            refine steps_cons (by rintro b a w' ⟨ha, HI⟩ hb hon hoff; refine ⟨_, rfl, fun K hK => ?_⟩; have e10 := poff ha (t := 10) rfl rfl; have e53 := pon ha 2 (hon 2 rfl) rfl rfl rfl; exact off_ (wanted_off (t := 53) (u := false) rfl rfl rfl e53) (hK.out _ _ ⟨upk ha 9 hb rfl rfl, HI⟩)) ?_
            refine steps_cons (by rintro b a w' ⟨ha, HI⟩ hb hon hoff; refine ⟨_, rfl, fun K hK => ?_⟩; have e59 := pon ha 8 (hon 8 rfl) rfl rfl rfl; have e60 := pon ha 9 (hon 9 rfl) rfl rfl rfl; have e53 := pon ha 2 (hon 2 rfl) rfl rfl rfl; exact off_ (wanted_off (t := 53) (u := false) rfl rfl rfl e53) (hK.out _ _ ⟨upk ha 10 hb rfl rfl, HI⟩)) ?_
            refine steps_cons (by rintro b a w' ⟨ha, HI⟩ hb hon hoff; refine ⟨_, rfl, fun K hK => ?_⟩; have e61 := pon ha 10 (hon 10 rfl) rfl rfl rfl; have e53 := pon ha 2 (hon 2 rfl) rfl rfl rfl; exact off_ (wanted_off (t := 53) (u := false) rfl rfl rfl e53) (hK.out _ _ ⟨upk ha 11 hb rfl rfl, HI⟩)) ?_
            refine steps_cons (by rintro b a w' ⟨ha, HI⟩ hb hon hoff; refine ⟨_, rfl, fun K hK => ?_⟩; have e54 := pon ha 3 (hon 3 rfl) rfl rfl rfl; have e58 := pon ha 7 (hon 7 rfl) rfl rfl rfl; have e62 := pon ha 11 (hon 11 rfl) rfl rfl rfl; have e53 := pon ha 2 (hon 2 rfl) rfl rfl rfl; exact off_ (wanted_off (t := 53) (u := false) rfl rfl rfl e53) (hK.out _ _ ⟨upk ha 12 hb rfl rfl, HI⟩)) ?_
            refine steps_cons (by rintro b a w' ⟨ha, HI⟩ hb hon hoff; refine ⟨_, rfl, fun K hK => ?_⟩; have e53 := pon ha 2 (hon 2 rfl) rfl rfl rfl; have e63 := pon ha 12 (hon 12 rfl) rfl rfl rfl; exact value_ (v := .bool true) (by rfl) rfl (by clear HI ha; go_simp) (hK.out _ _ ⟨upk ha 13 hb rfl rfl, HI⟩)) ?_
            exact steps_nil
          · rintro b a w' hall ⟨ha, HI⟩
            have hb0_ := hall 0 rfl; have hb1_ := hall 1 rfl; have hb2_ := hall 2 rfl; have hb3_ := hall 3 rfl; have hb4_ := hall 4 rfl; have hb5_ := hall 5 rfl; have hb6_ := hall 6 rfl; have hb7_ := hall 7 rfl
            have hb8_ := hall 8 rfl; have hb9_ := hall 9 rfl; have hb10_ := hall 10 rfl; have hb11_ := hall 11 rfl; have hb12_ := hall 12 rfl; have hb13_ := hall 13 rfl
            subst ha
            simp only [putSel, hb0_, hb1_, hb2_, hb3_, hb4_, hb5_, hb6_, hb7_, hb8_, hb9_, hb10_, hb11_, hb12_, hb13_, if_true, Act.put, List.setIfInBounds_toArray, List.set_cons_zero, List.set_cons_succ]
            have hB := (below_then (below_drew (Below.refl _ wq)) (Nat.le_refl _) HI : Below wq.heap.size wq w')
            clear hall HI hb0_ hb1_ hb2_ hb3_ hb4_ hb5_ hb6_ hb7_ hb8_ hb9_ hb10_ hb11_ hb12_ hb13_
            refine ‹∀ (a' : Act) (w' : World), Met _ a' w' → _› _ _ ?_
            go_meet
            case rel => exact ⟨rfl, ⟨hB⟩⟩
        · subst h1
          rw [decide_eq_false (by omega), Bool.false_or, Int.toNat_natCast] at hto
          obtain ⟨g6', hg6, hgl, u, hu, hua, u0, u1, u2, u3, u4, u5⟩ := HA3.out.pl.get j hjl
          obtain ⟨g6'', hg6'', -, e, he, hea, e0, e1, e2, e3, e4, e5⟩ := HA3.out.pl.get q2 (by omega)
          obtain rfl : g6 = g6' := by simpa using hg6
          obtain rfl : g6 = g6'' := by simpa using hg6''
          rw [hua, hea] at hto
          have HTO := Side.mk hto
          have hq2n : (0 : Int) ≤ q2 := by omega
          have hq2i : (q2 : Int) < ms.length := by omega
          have CL := Side.mk (fun w' => lawless_at kind u.1 e.1 u.2 e.2 w')
          rw [← hto] at CL
          clear HSP hg6 hg6'' hto hu he hua hea hq2
          refine start_ (n := 14) (S := fun w' => True) (ds := []) #[false, false, false, false, false, false, false, false, false, false, false, false, false, false] (by kernel_rfl) rfl rfl trivial (fun _ => ?_)
          refine inv_at (B := [0, 1, 3, 7, 7, 7, 55, 119, 7, 7, 775, 1799, 4095, 8191]) [0, 1, 2, 3, 4, 5, 6, 7, 8, 9, 10, 11, 12, 13] (fun a0_ b a w' => a = putSel a0_ b [(0, 51, .int .i64 q2), (1, 52, .bool false), (2, 53, .bool false), (3, 54, .int .i64 kind), (4, 55, .slice (some ⟨g6, 0, none⟩) ms.length c6), (5, 56, .int .i64 j), (6, 57, .pointer (some ⟨g6, j * 6, none⟩)), (7, 58, dv u.1 u.2), (8, 59, .slice (some ⟨g6, 0, none⟩) ms.length c6), (9, 60, .int .i64 q2), (10, 61, .pointer (some ⟨g6, q2 * 6, none⟩)), (11, 62, dv e.1 e.2), (12, 63, .bool tt), (13, 64, .bool tt)] ∧ Below wq.drew.heap.size wq.drew w') rfl (by kernel_rfl) (by kernel_rfl) (by kernel_rfl) ?_ ?_ ?_
          · exact ⟨by simp only [putSel, Bool.false_eq_true, if_false], Below.refl _ _⟩
          · refine steps_cons (by rintro b a w' ⟨ha, HI⟩ hb hon hoff; refine ⟨_, rfl, fun K hK => ?_⟩; have e10 := poff ha (t := 10) rfl rfl; exact value_ (v := .int .i64 q2) (by rfl) rfl (by clear HI ha; go_simp) (hK.out _ _ ⟨upk ha 0 hb rfl rfl, HI⟩)) ?_
            refine steps_cons (by rintro b a w' ⟨ha, HI⟩ hb hon hoff; refine ⟨_, rfl, fun K hK => ?_⟩; have e51 := pon ha 0 (hon 0 rfl) rfl rfl rfl; exact value_ (v := .bool false) (by rfl) rfl (by clear HI ha; go_simp) (hK.out _ _ ⟨upk ha 1 hb rfl rfl, HI⟩)) ?_
            refine steps_cons (by rintro b a w' ⟨ha, HI⟩ hb hon hoff; refine ⟨_, rfl, fun K hK => ?_⟩; have e52 := pon ha 1 (hon 1 rfl) rfl rfl rfl; exact value_ (v := .bool false) (by rfl) rfl (by clear HI ha; go_simp) (hK.out _ _ ⟨upk ha 2 hb rfl rfl, HI⟩)) ?_
            refine steps_cons (by rintro b a w' ⟨ha, HI⟩ hb hon hoff; refine ⟨_, rfl, fun K hK => ?_⟩; have e0 := poff ha (t := 0) rfl rfl; have e53 := pon ha 2 (hon 2 rfl) rfl rfl rfl; exact value_ (v := .int .i64 kind) (wanted_on (t := 53) (u := false) rfl rfl rfl e53) rfl (by clear HI ha; go_simp) (hK.out _ _ ⟨upk ha 3 hb rfl rfl, HI⟩)) ?_
            refine steps_cons (by rintro b a w' ⟨ha, HI⟩ hb hon hoff; refine ⟨_, rfl, fun K hK => ?_⟩; have e6 := poff ha (t := 6) rfl rfl; have e53 := pon ha 2 (hon 2 rfl) rfl rfl rfl; exact value_ (v := .slice (some ⟨g6, 0, none⟩) ms.length c6) (wanted_on (t := 53) (u := false) rfl rfl rfl e53) rfl (by clear HI ha; go_simp) (hK.out _ _ ⟨upk ha 4 hb rfl rfl, HI⟩)) ?_
            refine steps_cons (by rintro b a w' ⟨ha, HI⟩ hb hon hoff; refine ⟨_, rfl, fun K hK => ?_⟩; have e11 := poff ha (t := 11) rfl rfl; have e53 := pon ha 2 (hon 2 rfl) rfl rfl rfl; exact value_ (v := .int .i64 j) (wanted_on (t := 53) (u := false) rfl rfl rfl e53) rfl (by clear HI ha; go_simp) (hK.out _ _ ⟨upk ha 5 hb rfl rfl, HI⟩)) ?_
            refine steps_cons (by rintro b a w' ⟨ha, HI⟩ hb hon hoff; refine ⟨_, rfl, fun K hK => ?_⟩; have e55 := pon ha 4 (hon 4 rfl) rfl rfl rfl; have e56 := pon ha 5 (hon 5 rfl) rfl rfl rfl; have e53 := pon ha 2 (hon 2 rfl) rfl rfl rfl; exact value_ (v := .pointer (some ⟨g6, j * 6, none⟩)) (wanted_on (t := 53) (u := false) rfl rfl rfl e53) rfl (by clear HI ha; go_simp) (hK.out _ _ ⟨upk ha 6 hb rfl rfl, HI⟩)) ?_
            refine steps_cons (by rintro b a w' ⟨ha, HI⟩ hb hon hoff; refine ⟨_, rfl, fun K hK => ?_⟩; have e57 := pon ha 6 (hon 6 rfl) rfl rfl rfl; have e53 := pon ha 2 (hon 2 rfl) rfl rfl rfl; have k0_ := bc HI hgl u0; have k1_ := bc HI hgl u1; have k2_ := bc HI hgl u2; have k3_ := bc HI hgl u3; have k4_ := bc HI hgl u4; have k5_ := bc HI hgl u5; have kz_ := bz HI hgl; exact value_ (v := dv u.1 u.2) (wanted_on (t := 53) (u := false) rfl rfl rfl e53) rfl (by clear HI ha; go_simp) (hK.out _ _ ⟨upk ha 7 hb rfl rfl, HI⟩)) ?_
            refine steps_cons (by rintro b a w' ⟨ha, HI⟩ hb hon hoff; refine ⟨_, rfl, fun K hK => ?_⟩; have e6 := poff ha (t := 6) rfl rfl; have e53 := pon ha 2 (hon 2 rfl) rfl rfl rfl; exact value_ (v := .slice (some ⟨g6, 0, none⟩) ms.length c6) (wanted_on (t := 53) (u := false) rfl rfl rfl e53) rfl (by clear HI ha; go_simp) (hK.out _ _ ⟨upk ha 8 hb rfl rfl, HI⟩)) ?_
            refine steps_cons (by rintro b a w' ⟨ha, HI⟩ hb hon hoff; refine ⟨_, rfl, fun K hK => ?_⟩; have e10 := poff ha (t := 10) rfl rfl; have e53 := pon ha 2 (hon 2 rfl) rfl rfl rfl; exact value_ (v := .int .i64 q2) (wanted_on (t := 53) (u := false) rfl rfl rfl e53) rfl (by clear HI ha; go_simp) (hK.out _ _ ⟨upk ha 9 hb rfl rfl, HI⟩)) ?_
            refine steps_cons (by rintro b a w' ⟨ha, HI⟩ hb hon hoff; refine ⟨_, rfl, fun K hK => ?_⟩; have e59 := pon ha 8 (hon 8 rfl) rfl rfl rfl; have e60 := pon ha 9 (hon 9 rfl) rfl rfl rfl; have e53 := pon ha 2 (hon 2 rfl) rfl rfl rfl; exact value_ (v := .pointer (some ⟨g6, q2 * 6, none⟩)) (wanted_on (t := 53) (u := false) rfl rfl rfl e53) rfl (by clear HI ha; go_simp) (hK.out _ _ ⟨upk ha 10 hb rfl rfl, HI⟩)) ?_
            refine steps_cons (by rintro b a w' ⟨ha, HI⟩ hb hon hoff; refine ⟨_, rfl, fun K hK => ?_⟩; have e61 := pon ha 10 (hon 10 rfl) rfl rfl rfl; have e53 := pon ha 2 (hon 2 rfl) rfl rfl rfl; have k0_ := bc HI hgl e0; have k1_ := bc HI hgl e1; have k2_ := bc HI hgl e2; have k3_ := bc HI hgl e3; have k4_ := bc HI hgl e4; have k5_ := bc HI hgl e5; have kz_ := bz HI hgl; exact value_ (v := dv e.1 e.2) (wanted_on (t := 53) (u := false) rfl rfl rfl e53) rfl (by clear HI ha; go_simp) (hK.out _ _ ⟨upk ha 11 hb rfl rfl, HI⟩)) ?_
            refine steps_cons (by rintro b a w' ⟨ha, HI⟩ hb hon hoff; refine ⟨_, rfl, fun K hK => ?_⟩; have e54 := pon ha 3 (hon 3 rfl) rfl rfl rfl; have e58 := pon ha 7 (hon 7 rfl) rfl rfl rfl; have e62 := pon ha 11 (hon 11 rfl) rfl rfl rfl; have e53 := pon ha 2 (hon 2 rfl) rfl rfl rfl; refine goes_ Try.func14 (by kernel_rfl) rfl #[.int .i64 kind, dv u.1 u.2, dv e.1 e.2] (wanted_on (t := 53) (u := false) rfl rfl rfl e53) rfl rfl (by simp [Act.eval, e54, e58, e62, e53]) ((CL.out w').mono ?_); rintro e_ w'' ⟨rfl, hbc⟩; exact ⟨_, rfl, hK.out _ _ ⟨upk ha 12 hb rfl rfl, below_then HI HI.size hbc⟩⟩) ?_
            refine steps_cons (by rintro b a w' ⟨ha, HI⟩ hb hon hoff; refine ⟨_, rfl, fun K hK => ?_⟩; have e53 := pon ha 2 (hon 2 rfl) rfl rfl rfl; have e63 := pon ha 12 (hon 12 rfl) rfl rfl rfl; exact value_ (v := .bool tt) (by rfl) rfl (by clear HI ha; go_simp) (hK.out _ _ ⟨upk ha 13 hb rfl rfl, HI⟩)) ?_
            exact steps_nil
          · rintro b a w' hall ⟨ha, HI⟩
            have hb0_ := hall 0 rfl; have hb1_ := hall 1 rfl; have hb2_ := hall 2 rfl; have hb3_ := hall 3 rfl; have hb4_ := hall 4 rfl; have hb5_ := hall 5 rfl; have hb6_ := hall 6 rfl; have hb7_ := hall 7 rfl
            have hb8_ := hall 8 rfl; have hb9_ := hall 9 rfl; have hb10_ := hall 10 rfl; have hb11_ := hall 11 rfl; have hb12_ := hall 12 rfl; have hb13_ := hall 13 rfl
            subst ha
            simp only [putSel, hb0_, hb1_, hb2_, hb3_, hb4_, hb5_, hb6_, hb7_, hb8_, hb9_, hb10_, hb11_, hb12_, hb13_, if_true, Act.put, List.setIfInBounds_toArray, List.set_cons_zero, List.set_cons_succ]
            have hB := (below_then (below_drew (Below.refl _ wq)) (Nat.le_refl _) HI : Below wq.heap.size wq w')
            clear hall HI hb0_ hb1_ hb2_ hb3_ hb4_ hb5_ hb6_ hb7_ hb8_ hb9_ hb10_ hb11_ hb12_ hb13_
            refine ‹∀ (a' : Act) (w' : World), Met _ a' w' → _› _ _ ?_
            go_meet
            case rel => exact ⟨rfl, ⟨hB⟩⟩
      case rest =>
        obtain ⟨rfl, HB⟩ := hcut
        have HA4 := Side.mk (HA3.out.below HB.out)
        clear HA3 HB HT HSP
        go_step
        have H10 := E10
        clear E10
        cases tt
        · obtain rfl : nb = bj := H10.out
          clear H10
          go_wp2
          go_roundw
          case rel => exact ⟨j + 1, by simp, by omega, by rw [HNA.out], by rw [HNB.out], HA4⟩
          case measure => simp [intOf]; omega
        · obtain rfl : nb = (j : Int) := H10.out
          clear H10
          go_wp2
          go_roundw
          case rel => exact ⟨j + 1, by simp, by omega, by rw [HNA.out], by rw [HNB.out], HA4⟩
          case measure => simp [intOf]; omega
end Go.Proofs.Ytiebpmbongmgkaa.HpU1
