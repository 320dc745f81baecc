/- slices.stableCmpFunc over ranks. No condition but that there are at most 300. -/
import Derived.Test.YtmjgadhknliiaaaSoH
import Derived.Test.YtmjgadhknliiaaaSoI
set_option linter.unusedVariables false
set_option linter.unusedSimpArgs false
namespace Go.Proofs.Ytmjgadhknliiaaa.SoJ
open Go.RowKit Go.Proofs.Ytmjgadhknliiaaa.Kit Go.Proofs.Ytmjgadhknliiaaa.Kit3 Go.Proofs.Ytmjgadhknliiaaa.Kit4 Go.Proofs.Ytmjgadhknliiaaa.Kit5 Go.Proofs.Ytmjgadhknliiaaa.Rank Go.Proofs.Ytmjgadhknliiaaa.SoA Go.Proofs.Ytmjgadhknliiaaa.SoD SoPlain
open Go.Proofs.YtmjgadhknliiaaaW.PrintLast
theorem sym_at (w : World) (B g n cap : Nat) (xs0 : List R) (la lm lb : Nat) (h : M w B g n cap xs0) (h1 : la < lm) (h2 : lm < lb) (hb : lb ≤ n) (o1 : Srt lt (at_ xs0) la lm) (o2 : Srt lt (at_ xs0) lm lb) :
    Calls Try.prog 32 #[.slice (some ⟨g, 0, none⟩) n cap, .int .i64 la, .int .i64 lm, .int .i64 lb, .func (.func 20) #[] #[]] w fun r w' => r = .returned (.tuple #[]) ∧ ∃ ys, M w' B g n cap ys ∧ Chg w w' (fun k => k = g) ∧ Mrg lt n (at_ xs0) (at_ ys) la lb :=
  SoH.sym_at B g n cap (lb - la + 1) w xs0 la lm lb h h1 h2 hb (by omega) o1 o2
set_option maxHeartbeats 8000000 in
set_option maxRecDepth 100000 in
theorem stable_at (w : World) (B g n cap : Nat) (xs0 : List R) (h : M w B g n cap xs0) (hn : n ≤ 300) :
    Calls Try.prog 29 #[.slice (some ⟨g, 0, none⟩) n cap, .int .i64 n, .func (.func 20) #[] #[]] w fun r w' => r = .returned (.tuple #[]) ∧ ∃ ys, M w' B g n cap ys ∧ Chg w w' (fun k => k = g) ∧ Stb lt n (at_ xs0) (at_ ys) ∧ Srt lt (at_ ys) 0 n := by
  have HM0 := Side.mk h
  have hni : (n : Int) ≤ 300 := by omega
  clear h
  go_enter Try.func29, Try.ntmps29
  go_wp2_with fail
  go_loopw [7, 8] (fun v7 v8 wr => ∃ (c : Nat) (xs : List R), v7 = .int .i64 (c : Int) ∧ v8 = .int .i64 ((c + 20 : Nat) : Int) ∧ c ≤ n ∧ c % 20 = 0 ∧ Side (M wr B g n cap xs) ∧ Side (Chg w wr (fun k => k = g)) ∧ Side (Stb lt n (at_ xs0) (at_ xs)) ∧ Side (BU lt 20 (at_ xs) c)) (fun v7 _ _ => (n - intOf v7).toNat)
  case atStart => exact ⟨0, xs0, rfl, rfl, Nat.zero_le _, rfl, ⟨HM0.out.below (by (repeat (with_reducible first | exact Below.refl _ _ | apply below_drewN | apply below_drew | apply below_alloc)))⟩, ⟨Chg.of_below (by (repeat (with_reducible first | exact Below.refl _ _ | apply below_drewN | apply below_drew | apply below_alloc)))⟩, ⟨Stb.refl _ _⟩, ⟨bu_zero _ _⟩⟩
  case round =>
    clear HM0
    obtain ⟨c, xs, rfl, rfl, hc, hcm, HM, HC, HT, HU⟩ := hrel
    obtain ⟨wz, hwz⟩ : ∃ wz : World, wz = wr := ⟨_, rfl⟩
    rw [← hwz] at HM HC ⊢
    clear hwz
    obtain ⟨d, hd⟩ : ∃ d, d = c + 20 := ⟨_, rfl⟩
    rw [← hd]
    have hd1 : (d : Int) + 20 ≤ 9223372036854775807 := by omega
    have hd0 : (0 : Int) ≤ d := by omega
    have HCM := Side.mk hcm
    have HD := Side.mk hd
    clear hcm
    by_cases hdn : d ≤ n
    · have hdi : (d : Int) ≤ n := by omega
      have IO := fun w' (hm : M w' B g n cap xs) => insertion_at w' B g n cap xs hm c d (by omega) hdn
      clear hd
      go_wp2_with fail
      refine (IO _ (HM.out.below (by (repeat (with_reducible first | exact Below.refl _ _ | apply below_drewN | apply below_drew | apply below_alloc))))).mono ?_
      rintro e w2 ⟨rfl, ys, hm, hch, ht, ho, hout⟩
      have HM2 := Side.mk hm
      have HC2 : Side (Chg w w2 (fun k => k = g)) := ⟨(HC.out.trans (Chg.of_below (by (repeat (with_reducible first | exact Below.refl _ _ | apply below_drewN | apply below_drew | apply below_alloc)))) (fun _ _ h => h)).trans hch (fun _ _ h => h)⟩
      have HT2 := Side.mk (HT.out.trans ht)
      have HU2 : Side (BU lt 20 (at_ ys) d) := ⟨by have hd := HD.out; exact bu_ins HU.out HCM.out (by omega) (by omega) ho hout⟩
      have hdm : d % 20 = 0 := by have := HD.out; have := HCM.out; omega
      clear hm hch ht ho hout IO HM HC HT HU
      go_wp2
      go_roundw
      case rel => exact ⟨d, ys, rfl, by simp, hdn, hdm, HM2, HC2, HT2, HU2⟩
      case measure => have := HD.out; simp [intOf]; omega
    · have hdi : ¬ (d : Int) ≤ n := by omega
      have IO := fun w' (hm : M w' B g n cap xs) => insertion_at w' B g n cap xs hm c n hc (Nat.le_refl _)
      clear hd
      go_wp2_with fail
      refine (IO _ (HM.out.below (by (repeat (with_reducible first | exact Below.refl _ _ | apply below_drewN | apply below_drew | apply below_alloc))))).mono ?_
      rintro e w2 ⟨rfl, ys, hm, hch, ht, ho, hout⟩
      have HM2 := Side.mk hm
      have HC2 : Side (Chg w w2 (fun k => k = g)) := ⟨(HC.out.trans (Chg.of_below (by (repeat (with_reducible first | exact Below.refl _ _ | apply below_drewN | apply below_drew | apply below_alloc)))) (fun _ _ h => h)).trans hch (fun _ _ h => h)⟩
      have HT2 := Side.mk (HT.out.trans ht)
      have HU2 : Side (BU lt 20 (at_ ys) n) := ⟨by have hd := HD.out; exact bu_ins HU.out HCM.out (by omega) hc ho hout⟩
      clear hm hch ht ho hout IO HM HC HT HU hd1 hd0 hdn hdi hc HCM HD
      go_wp2_with fail
      go_loopw [6] (fun v6 wr => ∃ (s : Nat) (xs : List R), v6 = .int .i64 (s : Int) ∧ 0 < s ∧ s ≤ 600 ∧ (Sz s ∨ n ≤ s) ∧ Side (M wr B g n cap xs) ∧ Side (Chg w wr (fun k => k = g)) ∧ Side (Stb lt n (at_ xs0) (at_ xs)) ∧ Side (BU lt s (at_ xs) n)) (fun v6 _ => (n - intOf v6).toNat)
      case atStart => exact ⟨20, ys, rfl, by decide, by decide, .inl (.inl rfl), ⟨HM2.out.below (by (repeat (with_reducible first | exact Below.refl _ _ | apply below_drewN | apply below_drew | apply below_alloc)))⟩, ⟨HC2.out.trans (Chg.of_below (by (repeat (with_reducible first | exact Below.refl _ _ | apply below_drewN | apply below_drew | apply below_alloc)))) (fun _ _ h => h)⟩, HT2, HU2⟩
      case round =>
        clear HM2 HC2 HT2 HU2
        obtain ⟨s, xs, rfl, hs0, hs6, hsz, HM, HC, HT, HU⟩ := hrel
        obtain ⟨wo, hwo⟩ : ∃ wo : World, wo = wr := ⟨_, rfl⟩
        rw [← hwo] at HM HC ⊢
        clear hwo
        have hsi0 : (0 : Int) ≤ s := by omega
        have hsi6 : (s : Int) ≤ 600 := by omega
        by_cases hsn : s < n
        · have hsni : (s : Int) < n := by omega
          have hz : Sz s := by
            rcases hsz with h | h
            · exact h
            · omega
          have HZ := Side.mk hz
          clear hsz hz
          have hs2a : (0 : Int) ≤ 2 * (s : Int) := by omega
          have hs2b : 2 * (s : Int) ≤ 9223372036854775807 := by omega
          have hs2c : (s : Int) * 2 ≤ 9223372036854775807 := by omega
          have hs2d : (0 : Int) ≤ (s : Int) * 2 := by omega
          go_wp2_with fail
          go_loopw [7, 8] (fun v7 v8 wr => ∃ (c d : Nat) (xs : List R), v7 = .int .i64 (c : Int) ∧ v8 = .int .i64 (d : Int) ∧ c ≤ n ∧ Side (d = c + 2 * s) ∧ Side (c % (2 * s) = 0) ∧ Side (M wr B g n cap xs) ∧ Side (Chg w wr (fun k => k = g)) ∧ Side (Stb lt n (at_ xs0) (at_ xs)) ∧ Side (BU lt (2 * s) (at_ xs) c) ∧ Side (BT lt s (at_ xs) c n)) (fun v7 _ _ => (n - intOf v7).toNat)
          case atStart => exact ⟨0, 2 * s, xs, rfl, by simp, Nat.zero_le _, ⟨by omega⟩, ⟨Nat.zero_mod _⟩, ⟨HM.out.below (by (repeat (with_reducible first | exact Below.refl _ _ | apply below_drewN | apply below_drew | apply below_alloc)))⟩, ⟨HC.out.trans (Chg.of_below (by (repeat (with_reducible first | exact Below.refl _ _ | apply below_drewN | apply below_drew | apply below_alloc)))) (fun _ _ h => h)⟩, HT, ⟨bu_zero _ _⟩, ⟨bt_start HU.out⟩⟩
          case round =>
            clear HM HC HT HU
            obtain ⟨c, d, xs, rfl, rfl, hc, HD, HCM, HM, HC, HT, HU, HV⟩ := hrel
            obtain ⟨wz, hwz⟩ : ∃ wz : World, wz = wr := ⟨_, rfl⟩
            rw [← hwz] at HM HC ⊢
            clear hwz
            have hci : (c : Int) ≤ 300 := by omega
            have hc0 : (0 : Int) ≤ c := by omega
            have hcs : (c : Int) + s ≤ 9223372036854775807 := by omega
            have hcs0 : (0 : Int) ≤ (c : Int) + s := by omega
            have hd1 : (d : Int) + 2 * s ≤ 9223372036854775807 := by have := HD.out; omega
            have hd0 : (0 : Int) ≤ (d : Int) + 2 * s := by omega
            by_cases hdn : d ≤ n
            · have hdi : (d : Int) ≤ n := by omega
              have SO := fun w' (hm : M w' B g n cap xs) => sym_at w' B g n cap xs c (c + s) d hm (by omega) (by have := HD.out; omega) hdn (bt_left HZ.out HV.out HCM.out (Nat.le_refl _) (by have := HD.out; omega)) (bt_right HZ.out HV.out HCM.out (by have := HD.out; omega) hdn)
              simp only [Int.natCast_add] at SO
              go_wp2_with fail
              refine (SO _ (HM.out.below (by (repeat (with_reducible first | exact Below.refl _ _ | apply below_drewN | apply below_drew | apply below_alloc))))).mono ?_
              rintro e w2 ⟨rfl, ys, hm, hch, hg⟩
              have HM2 := Side.mk hm
              have HC2 : Side (Chg w w2 (fun k => k = g)) := ⟨(HC.out.trans (Chg.of_below (by (repeat (with_reducible first | exact Below.refl _ _ | apply below_drewN | apply below_drew | apply below_alloc)))) (fun _ _ h => h)).trans hch (fun _ _ h => h)⟩
              have HT2 := Side.mk (HT.out.trans hg.stb)
              have HU2 : Side (BU lt (2 * s) (at_ ys) d) := ⟨bu_more HZ.out HU.out HCM.out (by have := HD.out; omega) (by have := HD.out; omega) hg.srt hg.out⟩
              have HV2 : Side (BT lt s (at_ ys) d n) := ⟨bt_more HV.out (by have := HD.out; omega) hg.out⟩
              have HCM2 : Side (d % (2 * s) = 0) := ⟨by rw [HD.out]; exact mod_more HZ.out HCM.out⟩
              clear hm hch hg SO HM HC HT HU HV
              go_wp2
              go_roundw
              case rel => exact ⟨d, d + 2 * s, ys, rfl, by simp, hdn, ⟨rfl⟩, HCM2, HM2, HC2, HT2, HU2, HV2⟩
              case measure => have := HD.out; simp [intOf]; omega
            · have hdi : ¬ (d : Int) ≤ n := by omega
              by_cases hm : c + s < n
              · have hmi : (c : Int) + s < n := by omega
                have SO := fun w' (hm : M w' B g n cap xs) => sym_at w' B g n cap xs c (c + s) n hm (by omega) (by omega) (Nat.le_refl _) (bt_left HZ.out HV.out HCM.out (Nat.le_refl _) (by omega)) (bt_right HZ.out HV.out HCM.out (by have := HD.out; omega) (Nat.le_refl _))
                simp only [Int.natCast_add] at SO
                go_wp2_with fail
                refine (SO _ (HM.out.below (by (repeat (with_reducible first | exact Below.refl _ _ | apply below_drewN | apply below_drew | apply below_alloc))))).mono ?_
                rintro e w2 ⟨rfl, ys, hm, hch, hg⟩
                have HM2 := Side.mk hm
                have HC2 : Side (Chg w w2 (fun k => k = g)) := ⟨(HC.out.trans (Chg.of_below (by (repeat (with_reducible first | exact Below.refl _ _ | apply below_drewN | apply below_drew | apply below_alloc)))) (fun _ _ h => h)).trans hch (fun _ _ h => h)⟩
                have HT2 := Side.mk (HT.out.trans hg.stb)
                have HU2 : Side (BU lt (s * 2) (at_ ys) n) := ⟨by rw [Nat.mul_comm]; exact bu_more HZ.out HU.out HCM.out hc (by have := HD.out; omega) hg.srt hg.out⟩
                have HZ2 := sz_two HZ.out hsn hn
                clear hm hch hg SO HM HC HT HU HV HZ HD HCM
                go_wp2
                go_roundw
                case rel => exact ⟨s * 2, ys, by simp, by omega, by omega, HZ2, HM2, HC2, HT2, HU2⟩
                case measure => simp [intOf]; omega
              · have hmi : ¬ (c : Int) + s < n := by omega
                have HM2 : Side (∀ w', Below wz.heap.size wz w' → M w' B g n cap xs) := ⟨fun w' hb => HM.out.below hb⟩
                have HC2 : Side (∀ w', Below wz.heap.size wz w' → Chg w w' (fun k => k = g)) := ⟨fun w' hb => HC.out.trans (Chg.of_below hb) (fun _ _ h => h)⟩
                have HU2 : Side (BU lt (s * 2) (at_ xs) n) := ⟨by rw [Nat.mul_comm]; exact bu_more HZ.out HU.out HCM.out hc (by omega) (bt_left HZ.out HV.out HCM.out (by omega) (Nat.le_refl _)) (fun _ _ => rfl)⟩
                have HZ2 := sz_two HZ.out hsn hn
                clear HM HC HU HV HZ HD HCM
                go_wp2
                go_roundw
                case rel => exact ⟨s * 2, xs, by simp, by omega, by omega, HZ2, ⟨HM2.out _ (by (repeat (with_reducible first | exact Below.refl _ _ | apply below_drewN | apply below_drew | apply below_alloc)))⟩, ⟨HC2.out _ (by (repeat (with_reducible first | exact Below.refl _ _ | apply below_drewN | apply below_drew | apply below_alloc)))⟩, HT, HU2⟩
                case measure => simp [intOf]; omega
        · have hsni : ¬ (s : Int) < n := by omega
          have HG : Side (Srt lt (at_ xs) 0 n) := ⟨bu_all (by omega) HU.out⟩
          go_wp2_with fail
          exact bodyPost_end (results_none rfl _ _ _) rfl ⟨rfl, xs, HM.out.below (by (repeat (with_reducible first | exact Below.refl _ _ | apply below_drewN | apply below_drew | apply below_alloc))), HC.out.trans (Chg.of_below (by (repeat (with_reducible first | exact Below.refl _ _ | apply below_drewN | apply below_drew | apply below_alloc)))) (fun _ _ h => h), HT.out, HG.out⟩
end Go.Proofs.Ytmjgadhknliiaaa.SoJ
