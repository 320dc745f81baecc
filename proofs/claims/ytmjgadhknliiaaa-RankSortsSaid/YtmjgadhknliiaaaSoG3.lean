/- slices.symMergeCmpFunc over ranks: a piece. No condition. -/
import Derived.Test.YtmjgadhknliiaaaSoGp
set_option linter.unusedVariables false
set_option linter.unusedSimpArgs false
namespace Go.Proofs.Ytmjgadhknliiaaa.SoG3
open Go.RowKit Go.Proofs.Ytmjgadhknliiaaa.Kit Go.Proofs.Ytmjgadhknliiaaa.Kit3 Go.Proofs.Ytmjgadhknliiaaa.Kit4 Go.Proofs.Ytmjgadhknliiaaa.Kit5 Go.Proofs.Ytmjgadhknliiaaa.Rank Go.Proofs.Ytmjgadhknliiaaa.SoA Go.Proofs.Ytmjgadhknliiaaa.SoD Go.Proofs.Ytmjgadhknliiaaa.SoC Go.Proofs.Ytmjgadhknliiaaa.SoE Go.Proofs.Ytmjgadhknliiaaa.SoF SoPlain Go.Proofs.Ytmjgadhknliiaaa.SoGp
open Go.Proofs.YtmjgadhknliiaaaW.PrintLast
set_option maxHeartbeats 400000000 in
set_option maxRecDepth 100000 in
theorem piece : SoGp.part.2.2.1 := by
  set_option tactic.hygienic false in (intro _; intros)
  obtain ⟨q2, hq⟩ : ∃ q2 : Bool, q2 = (decide (la < s) && decide (s < mid)) := ⟨_, rfl⟩
  obtain ⟨wz, hwz⟩ : ∃ wz : World, wz = wc := ⟨_, rfl⟩
  rw [← hwz] at HM4 HC4 ⊢
  clear hwz
  go_upto_region 41 with (fail)
  go_cut [199] (fun v we => v = .bool q2 ∧ we = wz)
  case first =>
    clear HI O1 O2 HMID HM4 HC4 HN
    by_cases c1 : la < s
    · have c1i : (la : Int) < s := by omega
      by_cases c2 : s < mid
      · obtain rfl : q2 = true := by rw [hq, decide_eq_true c1, decide_eq_true c2]; rfl
        have c2i : (s : Int) < mid := by omega
        clear hq
        go_wp2
        go_meet
        case rel => exact ⟨by first | rfl | simp [c1i, c2i] | simp [c1, c2], rfl⟩
      · obtain rfl : q2 = false := by rw [hq, decide_eq_false c2, Bool.and_false]
        have c2i : ¬ (s : Int) < mid := by omega
        clear hq
        go_wp2
        go_meet
        case rel => exact ⟨by first | rfl | simp [c1i, c2i] | simp [c1, c2], rfl⟩
    · obtain rfl : q2 = false := by rw [hq, decide_eq_false c1, Bool.false_and]
      have c1i : ¬ (la : Int) < s := by omega
      clear hq
      go_wp2
      go_meet
      case rel => exact ⟨by first | rfl | simp [c1i] | simp [c1], rfl⟩
  case rest =>
  obtain ⟨rfl, hww⟩ := hcut
  have HM5 : Side (M wc B g n cap ys) := ⟨by rw [hww]; exact HM4.out⟩
  have HC5 : Side (Chg w wc (fun k => k = g)) := ⟨by rw [hww]; exact HC4.out⟩
  have HQ2 := Side.mk hq
  clear hww HM4 HC4 hq
  go_step
  go_cut [199] (fun v we => ∃ zs : List R, Side (M we B g n cap zs) ∧ Side (Chg w we (fun k => k = g)) ∧ Side (Stb lt n (at_ xs0) (at_ zs) ∧ Srt lt (at_ zs) la mid ∧ Srt lt (at_ zs) mid e ∧ Srt lt (at_ zs) e lb ∧ (∀ p q, la ≤ p → p < mid → mid ≤ q → q < lb → lt (at_ zs q) (at_ zs p) = false) ∧ (∀ p, p < la ∨ lb ≤ p → at_ zs p = at_ xs0 p) ∧ Frm (at_ xs0) (at_ zs) la lb))
  case first =>
    cases q2
    · have HS : Side _ := ⟨HN.out.left f1 f6 f7 f4 (Mrg.skip (by
        have h := HQ2.out
        by_cases c1 : la < s
        · rw [decide_eq_true c1, Bool.true_and] at h
          have c2 := of_decide_eq_false h.symm
          right; omega
        · left; omega) HN.out.s1 HN.out.s2)⟩
      clear HQ2 HN HI O1 O2 HMID
      go_wp2
      go_meet
      case rel => exact ⟨ys, HM5, HC5, HS⟩
    · have h := HQ2.out
      have hh : la < s ∧ s < mid := by simpa using h.symm
      have RO := fun w' (hm : M w' B g n cap ys) => HI.out w' ys la s mid hm hh.1 hh.2 (by omega) (by omega) HN.out.s1 HN.out.s2
      clear h HQ2
      go_wp2_with fail
      refine (RO _ (HM5.out.below (by (repeat (with_reducible first | exact Below.refl _ _ | apply below_drewN | apply below_drew | apply below_alloc))))).mono ?_
      rintro e_ w5 ⟨rfl, zs, hm, hc, hs⟩
      have HS := Side.mk (HN.out.left f1 f6 f7 f4 hs)
      have HM6 := Side.mk hm
      have HC6 : Side (Chg w w5 (fun k => k = g)) := ⟨(HC5.out.trans (Chg.of_below (by (repeat (with_reducible first | exact Below.refl _ _ | apply below_drewN | apply below_drew | apply below_alloc)))) (fun _ _ h => h)).trans hc (fun _ _ h => h)⟩
      clear hm hc hs RO HI O1 O2 HMID HM5 HC5 HN
      go_wp2
      go_meet
      case rel => exact ⟨zs, HM6, HC6, HS⟩
  case rest =>
  obtain ⟨zs, HM6, HC6, HS⟩ := hcut
  clear HM5 HC5 HQ2 HN
  obtain ⟨q3, hq⟩ : ∃ q3 : Bool, q3 = (decide (mid < e) && decide (e < lb)) := ⟨_, rfl⟩
  obtain ⟨wz, hwz⟩ : ∃ wz : World, wz = wc := ⟨_, rfl⟩
  rw [← hwz] at HM6 HC6 ⊢
  clear hwz
  go_upto_region 43 with (fail)
  go_cut [213] (fun v we => v = .bool q3 ∧ we = wz)
  case first =>
    clear HI O1 O2 HMID HM6 HC6 HS
    by_cases c1 : mid < e
    · have c1i : (mid : Int) < e := by omega
      by_cases c2 : e < lb
      · obtain rfl : q3 = true := by rw [hq, decide_eq_true c1, decide_eq_true c2]; rfl
        have c2i : (e : Int) < lb := by omega
        clear hq
        go_wp2
        go_meet
        case rel => exact ⟨by first | rfl | simp [c1i, c2i] | simp [c1, c2], rfl⟩
      · obtain rfl : q3 = false := by rw [hq, decide_eq_false c2, Bool.and_false]
        have c2i : ¬ (e : Int) < lb := by omega
        clear hq
        go_wp2
        go_meet
        case rel => exact ⟨by first | rfl | simp [c1i, c2i] | simp [c1, c2], rfl⟩
    · obtain rfl : q3 = false := by rw [hq, decide_eq_false c1, Bool.false_and]
      have c1i : ¬ (mid : Int) < e := by omega
      clear hq
      go_wp2
      go_meet
      case rel => exact ⟨by first | rfl | simp [c1i] | simp [c1], rfl⟩
  case rest =>
  obtain ⟨rfl, hww⟩ := hcut
  have HM7 : Side (M wc B g n cap zs) := ⟨by rw [hww]; exact HM6.out⟩
  have HC7 : Side (Chg w wc (fun k => k = g)) := ⟨by rw [hww]; exact HC6.out⟩
  have HQ3 := Side.mk hq
  clear hww HM6 HC6 hq
  go_step
  obtain ⟨g1, g2, g3, g4, g5, g6, g7⟩ := HS.out
  have hmb : mid ≤ lb := by omega
  have hlm : la ≤ mid := by omega
  cases q3
  · have HG : Side (Mrg lt n (at_ xs0) (at_ zs) la lb) := ⟨mrg_join hlm hmb g1 g2 g5 g6 g7 (Mrg.skip (by
      have h := HQ3.out
      by_cases c1 : mid < e
      · rw [decide_eq_true c1, Bool.true_and] at h
        have c2 := of_decide_eq_false h.symm
        right; omega
      · left; omega) g3 g4)⟩
    clear HQ3 g1 g2 g3 g4 g5 g6 g7 HS HI O1 O2 HMID
    go_wp2
    exact bodyPost_end (results_none rfl _ _ _) rfl ⟨rfl, zs, HM7.out.below (by (repeat (with_reducible first | exact Below.refl _ _ | apply below_drewN | apply below_drew | apply below_alloc))), HC7.out.trans (Chg.of_below (by (repeat (with_reducible first | exact Below.refl _ _ | apply below_drewN | apply below_drew | apply below_alloc)))) (fun _ _ h => h), HG.out⟩
  · have h := HQ3.out
    have hh : mid < e ∧ e < lb := by simpa using h.symm
    have RO := fun w' (hm : M w' B g n cap zs) => HI.out w' zs mid e lb hm hh.1 hh.2 (by omega) (by omega) g3 g4
    have HJ := Side.mk (fun (vs : List R) (m : Mrg lt n (at_ zs) (at_ vs) mid lb) => mrg_join hlm hmb g1 g2 g5 g6 g7 m)
    clear h HQ3 g1 g2 g3 g4 g5 g6 g7 HS HI O1 O2 HMID
    go_wp2_with fail
    refine (RO _ (HM7.out.below (by (repeat (with_reducible first | exact Below.refl _ _ | apply below_drewN | apply below_drew | apply below_alloc))))).mono ?_
    rintro e_ w5 ⟨rfl, vs, hm, hc, hs⟩
    go_wp2_with fail
    exact bodyPost_end (results_none rfl _ _ _) rfl ⟨rfl, vs, hm, (HC7.out.trans (Chg.of_below (by (repeat (with_reducible first | exact Below.refl _ _ | apply below_drewN | apply below_drew | apply below_alloc)))) (fun _ _ h => h)).trans hc (fun _ _ h => h), HJ.out vs hs⟩
end Go.Proofs.Ytmjgadhknliiaaa.SoG3
