/- Package heap: the walk of HeapPlays. No condition. -/
import Derived.Test.YtiebpmbongmgkaaHpS
import Derived.Test.YtiebpmbongmgkaaHpT
import Derived.Test.YtiebpmbongmgkaaHpR
set_option linter.unusedVariables false
set_option linter.unusedSimpArgs false
namespace Go.Proofs.Ytiebpmbongmgkaa.HpUp
open Go.RowKit Go.Proofs.Ytiebpmbongmgkaa.Kit Go.Proofs.Ytiebpmbongmgkaa.Kit2 Go.Proofs.Ytiebpmbongmgkaa.Kit3 Go.Proofs.Ytiebpmbongmgkaa.Kit4 Go.Proofs.Ytiebpmbongmgkaa.Kit5 HpPlain Go.Maps Go.Proofs.Ytiebpmbongmgkaa.HpA Go.Proofs.Ytiebpmbongmgkaa.HpB Go.Proofs.Ytiebpmbongmgkaa.HpE Go.Proofs.Ytiebpmbongmgkaa.HpG Go.Proofs.Ytiebpmbongmgkaa.HpI Go.Proofs.Ytiebpmbongmgkaa.HpK Go.Proofs.Ytiebpmbongmgkaa.HpL Go.Proofs.Ytiebpmbongmgkaa.HpN Go.Proofs.Ytiebpmbongmgkaa.HpO Go.Proofs.Ytiebpmbongmgkaa.HpP Go.Proofs.Ytiebpmbongmgkaa.HpT Go.Proofs.Ytiebpmbongmgkaa.HpR
open Go.Proofs.YtiebpmbongmgkaaW.PrintLast
structure Hole (G : Prop) : Prop where
  out : G
set_option maxHeartbeats 400000000 in
set_option maxRecDepth 100000 in
noncomputable def part : (G1 : Prop) ×' (G2 : Prop) ×' (G3 : Prop) ×' (G4 : Prop) ×' (G5 : Prop) ×' (G6 : Prop) ×' (G7 : Prop) ×' (G8 : Prop) ×' (G9 : Prop) ×' (Hole G1 → Hole G2 → Hole G3 → Hole G4 → Hole G5 → Hole G6 → Hole G7 → Hole G8 → Hole G9 → ∀ (kind : Int) (a : Option Addr) (len cap : Nat) (V : Nat → Nat → Value) (w : World), InRow DK w a len V → len ≤ maxLen →
    Calls Try.prog 4 #[.int .i64 kind, .slice a len cap] w fun r w' => r = .returned (.bool true) ∧ Below w.heap.size w w') := by
  apply PSigma.mk
  apply PSigma.mk
  apply PSigma.mk
  apply PSigma.mk
  apply PSigma.mk
  apply PSigma.mk
  apply PSigma.mk
  apply PSigma.mk
  apply PSigma.mk
  · intro k1 k2 k3 k4 k5 k6 k7 k8 k9
    intro kind a len cap V w hrow hlen
    have HROW := Side.mk hrow
    have hl : (len : Int) ≤ 9223372036854775807 := by unfold maxLen at hlen; omega
    clear hrow hlen
    by_cases hbig : 200 < len
    · have hb3 : (200 : Int) < len := by omega
      clear hbig
      go_enter Try.func4, Try.ntmps4
      go_wp2_with fail
      refine (awake_at _).mono ?_
      rintro e w1 ⟨rfl, hb⟩
      have HB := Side.mk hb
      clear hb
      go_wp2
      go_ret
      exact ⟨rfl, HB.out⟩
    have hb3 : ¬ (200 : Int) < len := by omega
    go_enter Try.func4, Try.ntmps4
    go_wp2_with fail
    refine (awake_at _).mono ?_
    rintro e wa ⟨rfl, hb⟩
    have HB := Side.mk hb
    clear hb
    go_wp2_with fail
    refine (New_at _ kind).mono ?_
    rintro e w1 ⟨rfl, rfl⟩
    have S0 := Side.mk (St.start HB.out kind)
    generalize wa.heap.size + 1 = gh at *
    generalize (wa.alloc (.map #[] 0)).alloc (.cells #[.int .i64 kind, .slice none 0 0, .map (some wa.heap.size)] 53) = w1 at *
    clear HB
    have P0 : Side (Pl w gh kind (.slice none 0 0) [] w1) := ⟨⟨S0.out, GRow.nil _ _⟩⟩
    clear S0
    go_wp2_with fail
    go_loopw [6, 7] (fun v6 v7 wr => ∃ (i : Nat) (ms : List De), v7 = .int .i64 (i : Int) ∧ i ≤ len ∧ ms.length ≤ i ∧ Side (Pl w gh kind v6 ms wr)) (fun _ v7 _ => (len - intOf v7).toNat)
    case atStart => exact ⟨0, [], rfl, Nat.zero_le _, Nat.le_refl _, P0⟩
    case round =>
      clear P0
      obtain ⟨i, ms, rfl, hi, hms, HP⟩ := hrel
      obtain ⟨a6, c6, rfl, -, -⟩ := HP.out.row.shape E6
      have hi0 : (0 : Int) ≤ i := by omega
      obtain ⟨wp, hwp⟩ : ∃ wp : World, wp = wr := ⟨_, rfl⟩
      rw [← hwp] at HP ⊢
      clear hwp
      by_cases hlt : i < len
      · have hii : (i : Int) < len := by omega
        have hi1 : (i : Int) + 1 ≤ 9223372036854775807 := by omega
        obtain ⟨gb, off, rfl, hgw, hgl, c0, c1, c2, c3, c4, c5, hwf⟩ := row6 HROW.out HP.out.st.below i hlt
        obtain ⟨y, hy⟩ : ∃ y, y = Y V i := ⟨_, rfl⟩
        rw [← hy] at c0 c1 c2 c3 c4 c5 hwf
        clear hy
        go_upto_region 13 with (fail)
        have HB1 := Side.mk (Pb.start HP.out y)
        generalize wp.heap.size = p8 at *
        generalize wp.alloc _ = wb at *
        clear c0 c1 c2 c3 c4 c5 hgl HP hgw
        have HWF := Side.mk hwf
        clear hwf
        go_wp2_with fail
        go_loopw [9, 10, 11] (fun v9 v10 v11 wr2 => ∃ j : Nat, v11 = .int .i64 (j : Int) ∧ j ≤ ms.length ∧ v9 = .int .i64 (atOf y.2.1 (its ms) j) ∧ v10 = .int .i64 (bestOf kind (its ms) j) ∧ Side (Pb w gh kind (.slice a6 ms.length c6) ms p8 y wr2)) (fun _ _ v11 _ => (ms.length - intOf v11).toNat)
        case atStart => exact ⟨0, rfl, by omega, rfl, rfl, HB1⟩
        case round =>
          clear HB1
          obtain ⟨j, rfl, hj, rfl, rfl, HA⟩ := hrel
          obtain ⟨wq, hwq⟩ : ∃ wq : World, wq = wr := ⟨_, rfl⟩
          rw [← hwq] at HA ⊢
          clear hwq
          have hj0 : (0 : Int) ≤ j := by omega
          by_cases hjl : j < ms.length
          · repeat (rename_i x_; revert x_)
            (try revert Addr); (try revert Below); (try revert Calls); (try revert DK); (try revert De); (try revert E6); (try revert GRow); (try revert Go); (try revert HA); (try revert HA'); (try revert HAT); (try revert HB); (try revert HB'); (try revert HB1); (try revert HBB); (try revert HC); (try revert HDD); (try revert HE0); (try revert HOLE1); (try revert HOLE2)
            (try revert HOLE3); (try revert HOLE4); (try revert HOLE5); (try revert HOLE6); (try revert HOLE7); (try revert HOLE8); (try revert HOLE9); (try revert HP); (try revert HP2); (try revert HPP); (try revert HROW); (try revert HTOP); (try revert HWF); (try revert InRow); (try revert List); (try revert No); (try revert P0); (try revert Pb); (try revert Pc); (try revert Pl)
            (try revert S0); (try revert St); (try revert Try); (try revert V); (try revert Value); (try revert World); (try revert Y); (try revert a); (try revert a6); (try revert a7); (try revert aj); (try revert apply); (try revert atOf); (try revert b0); (try revert bb); (try revert bj); (try revert c0); (try revert c1); (try revert c2); (try revert c3)
            (try revert c4); (try revert c5); (try revert c6); (try revert c7); (try revert cap); (try revert cases); (try revert d); (try revert e); (try revert e0); (try revert gb); (try revert gh); (try revert h); (try revert h0); (try revert h1); (try revert h2); (try revert h3); (try revert h4); (try revert h5); (try revert h6); (try revert hb)
            (try revert hb3); (try revert hbb); (try revert hbig); (try revert hcase); (try revert hcut); (try revert hd); (try revert hd5); (try revert hdd); (try revert he0); (try revert heap); (try revert hgl); (try revert hgw); (try revert hi); (try revert hi0); (try revert hi1); (try revert hii); (try revert hj); (try revert hj0); (try revert hjl); (try revert hjl')
            (try revert hl); (try revert hlen); (try revert hlt); (try revert hm); (try revert hm2); (try revert hml); (try revert hms); (try revert ho); (try revert hpl); (try revert hq); (try revert hrel); (try revert hrow); (try revert ht); (try revert hu); (try revert hw1); (try revert hw2); (try revert hwf); (try revert hwp); (try revert hwq); (try revert hww)
            (try revert hy); (try revert i); (try revert intOf); (try revert its); (try revert j); (try revert kind); (try revert len); (try revert ms); (try revert ms2); (try revert none); (try revert o); (try revert of); (try revert off); (try revert p8); (try revert q); (try revert r); (try revert rest); (try revert round); (try revert row6); (try revert some)
            (try revert the); (try revert u); (try revert v); (try revert v10); (try revert v11); (try revert v12); (try revert v6); (try revert v7); (try revert v9); (try revert w); (try revert w'); (try revert w1); (try revert w3); (try revert wa); (try revert walk); (try revert wb); (try revert wc); (try revert we); (try revert wp); (try revert wq)
            (try revert wr); (try revert wr2); (try revert y); (try revert u0); (try revert u1); (try revert u2); (try revert u3); (try revert u4); (try revert u5); (try revert u6); (try revert u7); (try revert u8); (try revert u9); (try revert u10); (try revert u11); (try revert u12); (try revert u13); (try revert u14); (try revert u15); (try revert u16)
            (try revert u17); (try revert u18); (try revert u19); (try revert u20); (try revert u21); (try revert u22); (try revert u23); (try revert u24); (try revert u25); (try revert u26); (try revert u27); (try revert u28); (try revert u29); (try revert u30); (try revert u31); (try revert u32); (try revert u33); (try revert u34); (try revert u35); (try revert u36)
            (try revert u37); (try revert u38); (try revert u39); (try revert u40); (try revert u41); (try revert u42); (try revert u43); (try revert u44); (try revert u45); (try revert u46); (try revert u47); (try revert u48); (try revert u49); (try revert u50); (try revert u51); (try revert u52); (try revert u53); (try revert u54); (try revert u55); (try revert u56)
            (try revert u57); (try revert u58); (try revert u59); (try revert u60); (try revert u61); (try revert u62); (try revert u63); (try revert u64); (try revert u65); (try revert u66); (try revert u67); (try revert u68); (try revert u69); (try revert u70); (try revert u71); (try revert u72); (try revert u73); (try revert u74); (try revert u75); (try revert u76)
            (try revert u77); (try revert u78); (try revert u79); (try revert u80); (try revert u81); (try revert u82); (try revert u83); (try revert u84); (try revert u85); (try revert u86); (try revert u87); (try revert u88); (try revert u89); (try revert u90); (try revert u91); (try revert u92); (try revert u93); (try revert u94); (try revert u95); (try revert u96)
            (try revert u97); (try revert u98); (try revert u99); (try revert u100); (try revert u101); (try revert u102); (try revert u103); (try revert u104); (try revert u105); (try revert u106); (try revert u107); (try revert u108); (try revert u109); (try revert u110); (try revert u111); (try revert u112); (try revert u113); (try revert u114); (try revert u115); (try revert u116)
            (try revert u117); (try revert u118); (try revert u119); (try revert u120); (try revert u121); (try revert u122); (try revert u123); (try revert u124); (try revert u125); (try revert u126); (try revert u127); (try revert u128); (try revert u129); (try revert u130); (try revert u131); (try revert u132); (try revert u133); (try revert u134); (try revert u135); (try revert u136)
            (try revert u137); (try revert u138); (try revert u139); (try revert u140); (try revert u141); (try revert u142); (try revert u143); (try revert u144); (try revert u145); (try revert u146); (try revert u147); (try revert u148); (try revert u149); (try revert u150); (try revert u151); (try revert u152); (try revert u153); (try revert u154); (try revert u155); (try revert u156)
            (try revert u157); (try revert u158); (try revert u159); (try revert u160); (try revert u161); (try revert u162); (try revert u163); (try revert u164); (try revert u165); (try revert u166); (try revert u167); (try revert u168); (try revert u169); (try revert u170); (try revert u171); (try revert u172); (try revert u173); (try revert u174); (try revert u175); (try revert u176)
            (try revert u177); (try revert u178); (try revert u179); (try revert u180); (try revert u181); (try revert u182); (try revert u183); (try revert u184); (try revert u185); (try revert u186); (try revert u187); (try revert u188); (try revert u189); (try revert u190); (try revert u191); (try revert u192); (try revert u193); (try revert u194); (try revert u195); (try revert u196)
            (try revert u197); (try revert u198); (try revert u199)
            exact k1.out
          · clear k1
            have hjl' : ¬ (j : Int) < ms.length := by omega
            obtain rfl : j = ms.length := by omega
            have HTOP := Side.mk (scan_tops kind ms HA.out.pl.st.nd)
            have HAT := Side.mk (scan_at y.2.1 ms HA.out.pl.st.nd)
            rw [its_len] at HTOP HAT
            generalize bestOf kind (its ms) ms.length = bj at *
            generalize atOf y.2.1 (its ms) ms.length = aj at *
            have hml : (its ms).length ≤ 90000 := by rw [its_len]; omega
            clear hj hjl
            have b0 := HA.out.bx.cell 0 _ rfl
            have hpl := HA.out.bx.lt
            go_upto_block 4 with (fail)
            clear hjl'
            generalize hdd : y.1 = d at b0 ⊢
            have HDD := Side.mk hdd
            clear hdd
            go_cut [6, 12] (fun v6 v12 we => ∃ (ms2 : List De) (o : Int), v12 = .int .i64 o ∧ (o = -1 ∨ ∃ q : Nat, q < ms2.length ∧ o = q) ∧ ms2.length ≤ i + 1 ∧ Side (Pc w gh kind v6 ms2 o we))
            case first =>
              go_upto_region 23 with (fail)
              obtain ⟨e0, he0⟩ : ∃ e0, e0 = (d == 0) := ⟨_, rfl⟩
              have HE0 := Side.mk he0
              clear he0
              go_cut [68] (fun v we => v = .bool e0 ∧ we = wq)
              case first =>
                clear HTOP HAT HA HWF hml b0 hpl HDD
                go_wp2
                go_meet
                case rel => exact ⟨by rw [HE0.out], rfl⟩
              case rest =>
              obtain ⟨rfl, hww⟩ := hcut
              have HA' : Side (Pb w gh kind (.slice a6 ms.length c6) ms p8 y wc) := ⟨by rw [hww]; exact HA.out⟩
              clear hww HA b0 hpl
              go_step
              obtain ⟨bb, hbb⟩ : ∃ bb : Bool, bb = decide (d = 0 ∨ d = 1 ∨ d = 2 ∨ d = 3) := ⟨_, rfl⟩
              have HBB := Side.mk hbb
              clear hbb
              go_cut [68] (fun v we => v = .bool bb ∧ we = wc)
              case first =>
                clear HTOP HAT HA' HWF hml HDD
                have hd5 : d = 0 ∨ d = 1 ∨ d = 2 ∨ d = 3 ∨ (¬ d = 0 ∧ ¬ d = 1 ∧ ¬ d = 2 ∧ ¬ d = 3) := by omega
                rcases hd5 with rfl | rfl | rfl | rfl | ⟨h0, h1, h2, h3⟩
                · obtain rfl : bb = true := HBB.out
                  obtain rfl : e0 = true := HE0.out
                  go_wp2
                  go_meet
                  case rel => exact ⟨rfl, rfl⟩
                · obtain rfl : bb = true := HBB.out
                  obtain rfl : e0 = false := HE0.out
                  go_wp2
                  go_meet
                  case rel => exact ⟨rfl, rfl⟩
                · obtain rfl : bb = true := HBB.out
                  obtain rfl : e0 = false := HE0.out
                  go_wp2
                  go_meet
                  case rel => exact ⟨rfl, rfl⟩
                · obtain rfl : bb = true := HBB.out
                  obtain rfl : e0 = false := HE0.out
                  go_wp2
                  go_meet
                  case rel => exact ⟨rfl, rfl⟩
                · obtain rfl : bb = false := by rw [HBB.out]; simp [h0, h1, h2, h3]
                  obtain rfl : e0 = false := by rw [HE0.out]; simp [h0]
                  clear HBB HE0
                  go_upto_region 24 with (fail)
                  go_cut [68] (fun v we => v = .bool false ∧ we = wc)
                  case first =>
                    go_wp2
                    go_meet
                    case rel => exact ⟨by simp [h1], rfl⟩
                  case rest =>
                  obtain ⟨rfl, hw1⟩ := hcut
                  go_step
                  go_upto_region 25 with (fail)
                  go_cut [68] (fun v we => v = .bool false ∧ we = wc)
                  case first =>
                    go_wp2
                    go_meet
                    case rel => exact ⟨by simp [h2], by first | rfl | exact hw1 | exact hw1.symm⟩
                  case rest =>
                  obtain ⟨rfl, hw2⟩ := hcut
                  go_step
                  go_wp2
                  go_meet
                  case rel => exact ⟨by simp [h3], by first | rfl | exact hw1 | exact hw1.symm | exact hw2 | exact hw2.symm | (rw [hw2, hw1])⟩
              case rest =>
              obtain ⟨rfl, hww⟩ := hcut
              have HA : Side (Pb w gh kind (.slice a6 ms.length c6) ms p8 y wc) := ⟨by rw [hww]; exact HA'.out⟩
              clear hww HA' HE0
              obtain ⟨wq, hwq⟩ : ∃ wq : World, wq = wc := ⟨_, rfl⟩
              rw [← hwq] at HA ⊢
              clear hwq
              have hpl := HA.out.bx.lt
              have b0 := HA.out.bx.cell 0 _ rfl
              rw [HDD.out] at b0
              go_step
              cases bb
              · have hcase : (d = 4 ∨ d = 5) ∨ d = 6 ∨ (¬ d = 0 ∧ ¬ d = 1 ∧ ¬ d = 2 ∧ ¬ d = 3 ∧ ¬ d = 4 ∧ ¬ d = 5 ∧ ¬ d = 6) := by
                  have h := of_decide_eq_false HBB.out.symm
                  omega
                clear HBB
                rcases hcase with hd | rfl | ⟨h0, h1, h2, h3, h4, h5, h6⟩
                · rcases hd with rfl | rfl
                  · rcases HTOP.out with ⟨rfl, ht, hm⟩ | ⟨q, u, hq, hu, rfl, ht, hm⟩
                    · repeat (rename_i x_; revert x_)
                      (try revert Addr); (try revert Below); (try revert Calls); (try revert DK); (try revert De); (try revert E6); (try revert GRow); (try revert Go); (try revert HA); (try revert HA'); (try revert HAT); (try revert HB); (try revert HB'); (try revert HB1); (try revert HBB); (try revert HC); (try revert HDD); (try revert HE0); (try revert HOLE1); (try revert HOLE2)
                      (try revert HOLE3); (try revert HOLE4); (try revert HOLE5); (try revert HOLE6); (try revert HOLE7); (try revert HOLE8); (try revert HOLE9); (try revert HP); (try revert HP2); (try revert HPP); (try revert HROW); (try revert HTOP); (try revert HWF); (try revert InRow); (try revert List); (try revert No); (try revert P0); (try revert Pb); (try revert Pc); (try revert Pl)
                      (try revert S0); (try revert St); (try revert Try); (try revert V); (try revert Value); (try revert World); (try revert Y); (try revert a); (try revert a6); (try revert a7); (try revert aj); (try revert apply); (try revert atOf); (try revert b0); (try revert bb); (try revert bj); (try revert c0); (try revert c1); (try revert c2); (try revert c3)
                      (try revert c4); (try revert c5); (try revert c6); (try revert c7); (try revert cap); (try revert cases); (try revert d); (try revert e); (try revert e0); (try revert gb); (try revert gh); (try revert h); (try revert h0); (try revert h1); (try revert h2); (try revert h3); (try revert h4); (try revert h5); (try revert h6); (try revert hb)
                      (try revert hb3); (try revert hbb); (try revert hbig); (try revert hcase); (try revert hcut); (try revert hd); (try revert hd5); (try revert hdd); (try revert he0); (try revert heap); (try revert hgl); (try revert hgw); (try revert hi); (try revert hi0); (try revert hi1); (try revert hii); (try revert hj); (try revert hj0); (try revert hjl); (try revert hjl')
                      (try revert hl); (try revert hlen); (try revert hlt); (try revert hm); (try revert hm2); (try revert hml); (try revert hms); (try revert ho); (try revert hpl); (try revert hq); (try revert hrel); (try revert hrow); (try revert ht); (try revert hu); (try revert hw1); (try revert hw2); (try revert hwf); (try revert hwp); (try revert hwq); (try revert hww)
                      (try revert hy); (try revert i); (try revert intOf); (try revert its); (try revert j); (try revert kind); (try revert len); (try revert ms); (try revert ms2); (try revert none); (try revert o); (try revert of); (try revert off); (try revert p8); (try revert q); (try revert r); (try revert rest); (try revert round); (try revert row6); (try revert some)
                      (try revert the); (try revert u); (try revert v); (try revert v10); (try revert v11); (try revert v12); (try revert v6); (try revert v7); (try revert v9); (try revert w); (try revert w'); (try revert w1); (try revert w3); (try revert wa); (try revert walk); (try revert wb); (try revert wc); (try revert we); (try revert wp); (try revert wq)
                      (try revert wr); (try revert wr2); (try revert y); (try revert u0); (try revert u1); (try revert u2); (try revert u3); (try revert u4); (try revert u5); (try revert u6); (try revert u7); (try revert u8); (try revert u9); (try revert u10); (try revert u11); (try revert u12); (try revert u13); (try revert u14); (try revert u15); (try revert u16)
                      (try revert u17); (try revert u18); (try revert u19); (try revert u20); (try revert u21); (try revert u22); (try revert u23); (try revert u24); (try revert u25); (try revert u26); (try revert u27); (try revert u28); (try revert u29); (try revert u30); (try revert u31); (try revert u32); (try revert u33); (try revert u34); (try revert u35); (try revert u36)
                      (try revert u37); (try revert u38); (try revert u39); (try revert u40); (try revert u41); (try revert u42); (try revert u43); (try revert u44); (try revert u45); (try revert u46); (try revert u47); (try revert u48); (try revert u49); (try revert u50); (try revert u51); (try revert u52); (try revert u53); (try revert u54); (try revert u55); (try revert u56)
                      (try revert u57); (try revert u58); (try revert u59); (try revert u60); (try revert u61); (try revert u62); (try revert u63); (try revert u64); (try revert u65); (try revert u66); (try revert u67); (try revert u68); (try revert u69); (try revert u70); (try revert u71); (try revert u72); (try revert u73); (try revert u74); (try revert u75); (try revert u76)
                      (try revert u77); (try revert u78); (try revert u79); (try revert u80); (try revert u81); (try revert u82); (try revert u83); (try revert u84); (try revert u85); (try revert u86); (try revert u87); (try revert u88); (try revert u89); (try revert u90); (try revert u91); (try revert u92); (try revert u93); (try revert u94); (try revert u95); (try revert u96)
                      (try revert u97); (try revert u98); (try revert u99); (try revert u100); (try revert u101); (try revert u102); (try revert u103); (try revert u104); (try revert u105); (try revert u106); (try revert u107); (try revert u108); (try revert u109); (try revert u110); (try revert u111); (try revert u112); (try revert u113); (try revert u114); (try revert u115); (try revert u116)
                      (try revert u117); (try revert u118); (try revert u119); (try revert u120); (try revert u121); (try revert u122); (try revert u123); (try revert u124); (try revert u125); (try revert u126); (try revert u127); (try revert u128); (try revert u129); (try revert u130); (try revert u131); (try revert u132); (try revert u133); (try revert u134); (try revert u135); (try revert u136)
                      (try revert u137); (try revert u138); (try revert u139); (try revert u140); (try revert u141); (try revert u142); (try revert u143); (try revert u144); (try revert u145); (try revert u146); (try revert u147); (try revert u148); (try revert u149); (try revert u150); (try revert u151); (try revert u152); (try revert u153); (try revert u154); (try revert u155); (try revert u156)
                      (try revert u157); (try revert u158); (try revert u159); (try revert u160); (try revert u161); (try revert u162); (try revert u163); (try revert u164); (try revert u165); (try revert u166); (try revert u167); (try revert u168); (try revert u169); (try revert u170); (try revert u171); (try revert u172); (try revert u173); (try revert u174); (try revert u175); (try revert u176)
                      (try revert u177); (try revert u178); (try revert u179); (try revert u180); (try revert u181); (try revert u182); (try revert u183); (try revert u184); (try revert u185); (try revert u186); (try revert u187); (try revert u188); (try revert u189); (try revert u190); (try revert u191); (try revert u192); (try revert u193); (try revert u194); (try revert u195); (try revert u196)
                      (try revert u197); (try revert u198); (try revert u199)
                      exact k2.out
                    · repeat (rename_i x_; revert x_)
                      (try revert Addr); (try revert Below); (try revert Calls); (try revert DK); (try revert De); (try revert E6); (try revert GRow); (try revert Go); (try revert HA); (try revert HA'); (try revert HAT); (try revert HB); (try revert HB'); (try revert HB1); (try revert HBB); (try revert HC); (try revert HDD); (try revert HE0); (try revert HOLE1); (try revert HOLE2)
                      (try revert HOLE3); (try revert HOLE4); (try revert HOLE5); (try revert HOLE6); (try revert HOLE7); (try revert HOLE8); (try revert HOLE9); (try revert HP); (try revert HP2); (try revert HPP); (try revert HROW); (try revert HTOP); (try revert HWF); (try revert InRow); (try revert List); (try revert No); (try revert P0); (try revert Pb); (try revert Pc); (try revert Pl)
                      (try revert S0); (try revert St); (try revert Try); (try revert V); (try revert Value); (try revert World); (try revert Y); (try revert a); (try revert a6); (try revert a7); (try revert aj); (try revert apply); (try revert atOf); (try revert b0); (try revert bb); (try revert bj); (try revert c0); (try revert c1); (try revert c2); (try revert c3)
                      (try revert c4); (try revert c5); (try revert c6); (try revert c7); (try revert cap); (try revert cases); (try revert d); (try revert e); (try revert e0); (try revert gb); (try revert gh); (try revert h); (try revert h0); (try revert h1); (try revert h2); (try revert h3); (try revert h4); (try revert h5); (try revert h6); (try revert hb)
                      (try revert hb3); (try revert hbb); (try revert hbig); (try revert hcase); (try revert hcut); (try revert hd); (try revert hd5); (try revert hdd); (try revert he0); (try revert heap); (try revert hgl); (try revert hgw); (try revert hi); (try revert hi0); (try revert hi1); (try revert hii); (try revert hj); (try revert hj0); (try revert hjl); (try revert hjl')
                      (try revert hl); (try revert hlen); (try revert hlt); (try revert hm); (try revert hm2); (try revert hml); (try revert hms); (try revert ho); (try revert hpl); (try revert hq); (try revert hrel); (try revert hrow); (try revert ht); (try revert hu); (try revert hw1); (try revert hw2); (try revert hwf); (try revert hwp); (try revert hwq); (try revert hww)
                      (try revert hy); (try revert i); (try revert intOf); (try revert its); (try revert j); (try revert kind); (try revert len); (try revert ms); (try revert ms2); (try revert none); (try revert o); (try revert of); (try revert off); (try revert p8); (try revert q); (try revert r); (try revert rest); (try revert round); (try revert row6); (try revert some)
                      (try revert the); (try revert u); (try revert v); (try revert v10); (try revert v11); (try revert v12); (try revert v6); (try revert v7); (try revert v9); (try revert w); (try revert w'); (try revert w1); (try revert w3); (try revert wa); (try revert walk); (try revert wb); (try revert wc); (try revert we); (try revert wp); (try revert wq)
                      (try revert wr); (try revert wr2); (try revert y); (try revert u0); (try revert u1); (try revert u2); (try revert u3); (try revert u4); (try revert u5); (try revert u6); (try revert u7); (try revert u8); (try revert u9); (try revert u10); (try revert u11); (try revert u12); (try revert u13); (try revert u14); (try revert u15); (try revert u16)
                      (try revert u17); (try revert u18); (try revert u19); (try revert u20); (try revert u21); (try revert u22); (try revert u23); (try revert u24); (try revert u25); (try revert u26); (try revert u27); (try revert u28); (try revert u29); (try revert u30); (try revert u31); (try revert u32); (try revert u33); (try revert u34); (try revert u35); (try revert u36)
                      (try revert u37); (try revert u38); (try revert u39); (try revert u40); (try revert u41); (try revert u42); (try revert u43); (try revert u44); (try revert u45); (try revert u46); (try revert u47); (try revert u48); (try revert u49); (try revert u50); (try revert u51); (try revert u52); (try revert u53); (try revert u54); (try revert u55); (try revert u56)
                      (try revert u57); (try revert u58); (try revert u59); (try revert u60); (try revert u61); (try revert u62); (try revert u63); (try revert u64); (try revert u65); (try revert u66); (try revert u67); (try revert u68); (try revert u69); (try revert u70); (try revert u71); (try revert u72); (try revert u73); (try revert u74); (try revert u75); (try revert u76)
                      (try revert u77); (try revert u78); (try revert u79); (try revert u80); (try revert u81); (try revert u82); (try revert u83); (try revert u84); (try revert u85); (try revert u86); (try revert u87); (try revert u88); (try revert u89); (try revert u90); (try revert u91); (try revert u92); (try revert u93); (try revert u94); (try revert u95); (try revert u96)
                      (try revert u97); (try revert u98); (try revert u99); (try revert u100); (try revert u101); (try revert u102); (try revert u103); (try revert u104); (try revert u105); (try revert u106); (try revert u107); (try revert u108); (try revert u109); (try revert u110); (try revert u111); (try revert u112); (try revert u113); (try revert u114); (try revert u115); (try revert u116)
                      (try revert u117); (try revert u118); (try revert u119); (try revert u120); (try revert u121); (try revert u122); (try revert u123); (try revert u124); (try revert u125); (try revert u126); (try revert u127); (try revert u128); (try revert u129); (try revert u130); (try revert u131); (try revert u132); (try revert u133); (try revert u134); (try revert u135); (try revert u136)
                      (try revert u137); (try revert u138); (try revert u139); (try revert u140); (try revert u141); (try revert u142); (try revert u143); (try revert u144); (try revert u145); (try revert u146); (try revert u147); (try revert u148); (try revert u149); (try revert u150); (try revert u151); (try revert u152); (try revert u153); (try revert u154); (try revert u155); (try revert u156)
                      (try revert u157); (try revert u158); (try revert u159); (try revert u160); (try revert u161); (try revert u162); (try revert u163); (try revert u164); (try revert u165); (try revert u166); (try revert u167); (try revert u168); (try revert u169); (try revert u170); (try revert u171); (try revert u172); (try revert u173); (try revert u174); (try revert u175); (try revert u176)
                      (try revert u177); (try revert u178); (try revert u179); (try revert u180); (try revert u181); (try revert u182); (try revert u183); (try revert u184); (try revert u185); (try revert u186); (try revert u187); (try revert u188); (try revert u189); (try revert u190); (try revert u191); (try revert u192); (try revert u193); (try revert u194); (try revert u195); (try revert u196)
                      (try revert u197); (try revert u198); (try revert u199)
                      exact k3.out
                  · rcases HTOP.out with ⟨rfl, ht, hm⟩ | ⟨q, u, hq, hu, rfl, ht, hm⟩
                    · repeat (rename_i x_; revert x_)
                      (try revert Addr); (try revert Below); (try revert Calls); (try revert DK); (try revert De); (try revert E6); (try revert GRow); (try revert Go); (try revert HA); (try revert HA'); (try revert HAT); (try revert HB); (try revert HB'); (try revert HB1); (try revert HBB); (try revert HC); (try revert HDD); (try revert HE0); (try revert HOLE1); (try revert HOLE2)
                      (try revert HOLE3); (try revert HOLE4); (try revert HOLE5); (try revert HOLE6); (try revert HOLE7); (try revert HOLE8); (try revert HOLE9); (try revert HP); (try revert HP2); (try revert HPP); (try revert HROW); (try revert HTOP); (try revert HWF); (try revert InRow); (try revert List); (try revert No); (try revert P0); (try revert Pb); (try revert Pc); (try revert Pl)
                      (try revert S0); (try revert St); (try revert Try); (try revert V); (try revert Value); (try revert World); (try revert Y); (try revert a); (try revert a6); (try revert a7); (try revert aj); (try revert apply); (try revert atOf); (try revert b0); (try revert bb); (try revert bj); (try revert c0); (try revert c1); (try revert c2); (try revert c3)
                      (try revert c4); (try revert c5); (try revert c6); (try revert c7); (try revert cap); (try revert cases); (try revert d); (try revert e); (try revert e0); (try revert gb); (try revert gh); (try revert h); (try revert h0); (try revert h1); (try revert h2); (try revert h3); (try revert h4); (try revert h5); (try revert h6); (try revert hb)
                      (try revert hb3); (try revert hbb); (try revert hbig); (try revert hcase); (try revert hcut); (try revert hd); (try revert hd5); (try revert hdd); (try revert he0); (try revert heap); (try revert hgl); (try revert hgw); (try revert hi); (try revert hi0); (try revert hi1); (try revert hii); (try revert hj); (try revert hj0); (try revert hjl); (try revert hjl')
                      (try revert hl); (try revert hlen); (try revert hlt); (try revert hm); (try revert hm2); (try revert hml); (try revert hms); (try revert ho); (try revert hpl); (try revert hq); (try revert hrel); (try revert hrow); (try revert ht); (try revert hu); (try revert hw1); (try revert hw2); (try revert hwf); (try revert hwp); (try revert hwq); (try revert hww)
                      (try revert hy); (try revert i); (try revert intOf); (try revert its); (try revert j); (try revert kind); (try revert len); (try revert ms); (try revert ms2); (try revert none); (try revert o); (try revert of); (try revert off); (try revert p8); (try revert q); (try revert r); (try revert rest); (try revert round); (try revert row6); (try revert some)
                      (try revert the); (try revert u); (try revert v); (try revert v10); (try revert v11); (try revert v12); (try revert v6); (try revert v7); (try revert v9); (try revert w); (try revert w'); (try revert w1); (try revert w3); (try revert wa); (try revert walk); (try revert wb); (try revert wc); (try revert we); (try revert wp); (try revert wq)
                      (try revert wr); (try revert wr2); (try revert y); (try revert u0); (try revert u1); (try revert u2); (try revert u3); (try revert u4); (try revert u5); (try revert u6); (try revert u7); (try revert u8); (try revert u9); (try revert u10); (try revert u11); (try revert u12); (try revert u13); (try revert u14); (try revert u15); (try revert u16)
                      (try revert u17); (try revert u18); (try revert u19); (try revert u20); (try revert u21); (try revert u22); (try revert u23); (try revert u24); (try revert u25); (try revert u26); (try revert u27); (try revert u28); (try revert u29); (try revert u30); (try revert u31); (try revert u32); (try revert u33); (try revert u34); (try revert u35); (try revert u36)
                      (try revert u37); (try revert u38); (try revert u39); (try revert u40); (try revert u41); (try revert u42); (try revert u43); (try revert u44); (try revert u45); (try revert u46); (try revert u47); (try revert u48); (try revert u49); (try revert u50); (try revert u51); (try revert u52); (try revert u53); (try revert u54); (try revert u55); (try revert u56)
                      (try revert u57); (try revert u58); (try revert u59); (try revert u60); (try revert u61); (try revert u62); (try revert u63); (try revert u64); (try revert u65); (try revert u66); (try revert u67); (try revert u68); (try revert u69); (try revert u70); (try revert u71); (try revert u72); (try revert u73); (try revert u74); (try revert u75); (try revert u76)
                      (try revert u77); (try revert u78); (try revert u79); (try revert u80); (try revert u81); (try revert u82); (try revert u83); (try revert u84); (try revert u85); (try revert u86); (try revert u87); (try revert u88); (try revert u89); (try revert u90); (try revert u91); (try revert u92); (try revert u93); (try revert u94); (try revert u95); (try revert u96)
                      (try revert u97); (try revert u98); (try revert u99); (try revert u100); (try revert u101); (try revert u102); (try revert u103); (try revert u104); (try revert u105); (try revert u106); (try revert u107); (try revert u108); (try revert u109); (try revert u110); (try revert u111); (try revert u112); (try revert u113); (try revert u114); (try revert u115); (try revert u116)
                      (try revert u117); (try revert u118); (try revert u119); (try revert u120); (try revert u121); (try revert u122); (try revert u123); (try revert u124); (try revert u125); (try revert u126); (try revert u127); (try revert u128); (try revert u129); (try revert u130); (try revert u131); (try revert u132); (try revert u133); (try revert u134); (try revert u135); (try revert u136)
                      (try revert u137); (try revert u138); (try revert u139); (try revert u140); (try revert u141); (try revert u142); (try revert u143); (try revert u144); (try revert u145); (try revert u146); (try revert u147); (try revert u148); (try revert u149); (try revert u150); (try revert u151); (try revert u152); (try revert u153); (try revert u154); (try revert u155); (try revert u156)
                      (try revert u157); (try revert u158); (try revert u159); (try revert u160); (try revert u161); (try revert u162); (try revert u163); (try revert u164); (try revert u165); (try revert u166); (try revert u167); (try revert u168); (try revert u169); (try revert u170); (try revert u171); (try revert u172); (try revert u173); (try revert u174); (try revert u175); (try revert u176)
                      (try revert u177); (try revert u178); (try revert u179); (try revert u180); (try revert u181); (try revert u182); (try revert u183); (try revert u184); (try revert u185); (try revert u186); (try revert u187); (try revert u188); (try revert u189); (try revert u190); (try revert u191); (try revert u192); (try revert u193); (try revert u194); (try revert u195); (try revert u196)
                      (try revert u197); (try revert u198); (try revert u199)
                      exact k4.out
                    · repeat (rename_i x_; revert x_)
                      (try revert Addr); (try revert Below); (try revert Calls); (try revert DK); (try revert De); (try revert E6); (try revert GRow); (try revert Go); (try revert HA); (try revert HA'); (try revert HAT); (try revert HB); (try revert HB'); (try revert HB1); (try revert HBB); (try revert HC); (try revert HDD); (try revert HE0); (try revert HOLE1); (try revert HOLE2)
                      (try revert HOLE3); (try revert HOLE4); (try revert HOLE5); (try revert HOLE6); (try revert HOLE7); (try revert HOLE8); (try revert HOLE9); (try revert HP); (try revert HP2); (try revert HPP); (try revert HROW); (try revert HTOP); (try revert HWF); (try revert InRow); (try revert List); (try revert No); (try revert P0); (try revert Pb); (try revert Pc); (try revert Pl)
                      (try revert S0); (try revert St); (try revert Try); (try revert V); (try revert Value); (try revert World); (try revert Y); (try revert a); (try revert a6); (try revert a7); (try revert aj); (try revert apply); (try revert atOf); (try revert b0); (try revert bb); (try revert bj); (try revert c0); (try revert c1); (try revert c2); (try revert c3)
                      (try revert c4); (try revert c5); (try revert c6); (try revert c7); (try revert cap); (try revert cases); (try revert d); (try revert e); (try revert e0); (try revert gb); (try revert gh); (try revert h); (try revert h0); (try revert h1); (try revert h2); (try revert h3); (try revert h4); (try revert h5); (try revert h6); (try revert hb)
                      (try revert hb3); (try revert hbb); (try revert hbig); (try revert hcase); (try revert hcut); (try revert hd); (try revert hd5); (try revert hdd); (try revert he0); (try revert heap); (try revert hgl); (try revert hgw); (try revert hi); (try revert hi0); (try revert hi1); (try revert hii); (try revert hj); (try revert hj0); (try revert hjl); (try revert hjl')
                      (try revert hl); (try revert hlen); (try revert hlt); (try revert hm); (try revert hm2); (try revert hml); (try revert hms); (try revert ho); (try revert hpl); (try revert hq); (try revert hrel); (try revert hrow); (try revert ht); (try revert hu); (try revert hw1); (try revert hw2); (try revert hwf); (try revert hwp); (try revert hwq); (try revert hww)
                      (try revert hy); (try revert i); (try revert intOf); (try revert its); (try revert j); (try revert kind); (try revert len); (try revert ms); (try revert ms2); (try revert none); (try revert o); (try revert of); (try revert off); (try revert p8); (try revert q); (try revert r); (try revert rest); (try revert round); (try revert row6); (try revert some)
                      (try revert the); (try revert u); (try revert v); (try revert v10); (try revert v11); (try revert v12); (try revert v6); (try revert v7); (try revert v9); (try revert w); (try revert w'); (try revert w1); (try revert w3); (try revert wa); (try revert walk); (try revert wb); (try revert wc); (try revert we); (try revert wp); (try revert wq)
                      (try revert wr); (try revert wr2); (try revert y); (try revert u0); (try revert u1); (try revert u2); (try revert u3); (try revert u4); (try revert u5); (try revert u6); (try revert u7); (try revert u8); (try revert u9); (try revert u10); (try revert u11); (try revert u12); (try revert u13); (try revert u14); (try revert u15); (try revert u16)
                      (try revert u17); (try revert u18); (try revert u19); (try revert u20); (try revert u21); (try revert u22); (try revert u23); (try revert u24); (try revert u25); (try revert u26); (try revert u27); (try revert u28); (try revert u29); (try revert u30); (try revert u31); (try revert u32); (try revert u33); (try revert u34); (try revert u35); (try revert u36)
                      (try revert u37); (try revert u38); (try revert u39); (try revert u40); (try revert u41); (try revert u42); (try revert u43); (try revert u44); (try revert u45); (try revert u46); (try revert u47); (try revert u48); (try revert u49); (try revert u50); (try revert u51); (try revert u52); (try revert u53); (try revert u54); (try revert u55); (try revert u56)
                      (try revert u57); (try revert u58); (try revert u59); (try revert u60); (try revert u61); (try revert u62); (try revert u63); (try revert u64); (try revert u65); (try revert u66); (try revert u67); (try revert u68); (try revert u69); (try revert u70); (try revert u71); (try revert u72); (try revert u73); (try revert u74); (try revert u75); (try revert u76)
                      (try revert u77); (try revert u78); (try revert u79); (try revert u80); (try revert u81); (try revert u82); (try revert u83); (try revert u84); (try revert u85); (try revert u86); (try revert u87); (try revert u88); (try revert u89); (try revert u90); (try revert u91); (try revert u92); (try revert u93); (try revert u94); (try revert u95); (try revert u96)
                      (try revert u97); (try revert u98); (try revert u99); (try revert u100); (try revert u101); (try revert u102); (try revert u103); (try revert u104); (try revert u105); (try revert u106); (try revert u107); (try revert u108); (try revert u109); (try revert u110); (try revert u111); (try revert u112); (try revert u113); (try revert u114); (try revert u115); (try revert u116)
                      (try revert u117); (try revert u118); (try revert u119); (try revert u120); (try revert u121); (try revert u122); (try revert u123); (try revert u124); (try revert u125); (try revert u126); (try revert u127); (try revert u128); (try revert u129); (try revert u130); (try revert u131); (try revert u132); (try revert u133); (try revert u134); (try revert u135); (try revert u136)
                      (try revert u137); (try revert u138); (try revert u139); (try revert u140); (try revert u141); (try revert u142); (try revert u143); (try revert u144); (try revert u145); (try revert u146); (try revert u147); (try revert u148); (try revert u149); (try revert u150); (try revert u151); (try revert u152); (try revert u153); (try revert u154); (try revert u155); (try revert u156)
                      (try revert u157); (try revert u158); (try revert u159); (try revert u160); (try revert u161); (try revert u162); (try revert u163); (try revert u164); (try revert u165); (try revert u166); (try revert u167); (try revert u168); (try revert u169); (try revert u170); (try revert u171); (try revert u172); (try revert u173); (try revert u174); (try revert u175); (try revert u176)
                      (try revert u177); (try revert u178); (try revert u179); (try revert u180); (try revert u181); (try revert u182); (try revert u183); (try revert u184); (try revert u185); (try revert u186); (try revert u187); (try revert u188); (try revert u189); (try revert u190); (try revert u191); (try revert u192); (try revert u193); (try revert u194); (try revert u195); (try revert u196)
                      (try revert u197); (try revert u198); (try revert u199)
                      exact k5.out
                · repeat (rename_i x_; revert x_)
                  (try revert Addr); (try revert Below); (try revert Calls); (try revert DK); (try revert De); (try revert E6); (try revert GRow); (try revert Go); (try revert HA); (try revert HA'); (try revert HAT); (try revert HB); (try revert HB'); (try revert HB1); (try revert HBB); (try revert HC); (try revert HDD); (try revert HE0); (try revert HOLE1); (try revert HOLE2)
                  (try revert HOLE3); (try revert HOLE4); (try revert HOLE5); (try revert HOLE6); (try revert HOLE7); (try revert HOLE8); (try revert HOLE9); (try revert HP); (try revert HP2); (try revert HPP); (try revert HROW); (try revert HTOP); (try revert HWF); (try revert InRow); (try revert List); (try revert No); (try revert P0); (try revert Pb); (try revert Pc); (try revert Pl)
                  (try revert S0); (try revert St); (try revert Try); (try revert V); (try revert Value); (try revert World); (try revert Y); (try revert a); (try revert a6); (try revert a7); (try revert aj); (try revert apply); (try revert atOf); (try revert b0); (try revert bb); (try revert bj); (try revert c0); (try revert c1); (try revert c2); (try revert c3)
                  (try revert c4); (try revert c5); (try revert c6); (try revert c7); (try revert cap); (try revert cases); (try revert d); (try revert e); (try revert e0); (try revert gb); (try revert gh); (try revert h); (try revert h0); (try revert h1); (try revert h2); (try revert h3); (try revert h4); (try revert h5); (try revert h6); (try revert hb)
                  (try revert hb3); (try revert hbb); (try revert hbig); (try revert hcase); (try revert hcut); (try revert hd); (try revert hd5); (try revert hdd); (try revert he0); (try revert heap); (try revert hgl); (try revert hgw); (try revert hi); (try revert hi0); (try revert hi1); (try revert hii); (try revert hj); (try revert hj0); (try revert hjl); (try revert hjl')
                  (try revert hl); (try revert hlen); (try revert hlt); (try revert hm); (try revert hm2); (try revert hml); (try revert hms); (try revert ho); (try revert hpl); (try revert hq); (try revert hrel); (try revert hrow); (try revert ht); (try revert hu); (try revert hw1); (try revert hw2); (try revert hwf); (try revert hwp); (try revert hwq); (try revert hww)
                  (try revert hy); (try revert i); (try revert intOf); (try revert its); (try revert j); (try revert kind); (try revert len); (try revert ms); (try revert ms2); (try revert none); (try revert o); (try revert of); (try revert off); (try revert p8); (try revert q); (try revert r); (try revert rest); (try revert round); (try revert row6); (try revert some)
                  (try revert the); (try revert u); (try revert v); (try revert v10); (try revert v11); (try revert v12); (try revert v6); (try revert v7); (try revert v9); (try revert w); (try revert w'); (try revert w1); (try revert w3); (try revert wa); (try revert walk); (try revert wb); (try revert wc); (try revert we); (try revert wp); (try revert wq)
                  (try revert wr); (try revert wr2); (try revert y); (try revert u0); (try revert u1); (try revert u2); (try revert u3); (try revert u4); (try revert u5); (try revert u6); (try revert u7); (try revert u8); (try revert u9); (try revert u10); (try revert u11); (try revert u12); (try revert u13); (try revert u14); (try revert u15); (try revert u16)
                  (try revert u17); (try revert u18); (try revert u19); (try revert u20); (try revert u21); (try revert u22); (try revert u23); (try revert u24); (try revert u25); (try revert u26); (try revert u27); (try revert u28); (try revert u29); (try revert u30); (try revert u31); (try revert u32); (try revert u33); (try revert u34); (try revert u35); (try revert u36)
                  (try revert u37); (try revert u38); (try revert u39); (try revert u40); (try revert u41); (try revert u42); (try revert u43); (try revert u44); (try revert u45); (try revert u46); (try revert u47); (try revert u48); (try revert u49); (try revert u50); (try revert u51); (try revert u52); (try revert u53); (try revert u54); (try revert u55); (try revert u56)
                  (try revert u57); (try revert u58); (try revert u59); (try revert u60); (try revert u61); (try revert u62); (try revert u63); (try revert u64); (try revert u65); (try revert u66); (try revert u67); (try revert u68); (try revert u69); (try revert u70); (try revert u71); (try revert u72); (try revert u73); (try revert u74); (try revert u75); (try revert u76)
                  (try revert u77); (try revert u78); (try revert u79); (try revert u80); (try revert u81); (try revert u82); (try revert u83); (try revert u84); (try revert u85); (try revert u86); (try revert u87); (try revert u88); (try revert u89); (try revert u90); (try revert u91); (try revert u92); (try revert u93); (try revert u94); (try revert u95); (try revert u96)
                  (try revert u97); (try revert u98); (try revert u99); (try revert u100); (try revert u101); (try revert u102); (try revert u103); (try revert u104); (try revert u105); (try revert u106); (try revert u107); (try revert u108); (try revert u109); (try revert u110); (try revert u111); (try revert u112); (try revert u113); (try revert u114); (try revert u115); (try revert u116)
                  (try revert u117); (try revert u118); (try revert u119); (try revert u120); (try revert u121); (try revert u122); (try revert u123); (try revert u124); (try revert u125); (try revert u126); (try revert u127); (try revert u128); (try revert u129); (try revert u130); (try revert u131); (try revert u132); (try revert u133); (try revert u134); (try revert u135); (try revert u136)
                  (try revert u137); (try revert u138); (try revert u139); (try revert u140); (try revert u141); (try revert u142); (try revert u143); (try revert u144); (try revert u145); (try revert u146); (try revert u147); (try revert u148); (try revert u149); (try revert u150); (try revert u151); (try revert u152); (try revert u153); (try revert u154); (try revert u155); (try revert u156)
                  (try revert u157); (try revert u158); (try revert u159); (try revert u160); (try revert u161); (try revert u162); (try revert u163); (try revert u164); (try revert u165); (try revert u166); (try revert u167); (try revert u168); (try revert u169); (try revert u170); (try revert u171); (try revert u172); (try revert u173); (try revert u174); (try revert u175); (try revert u176)
                  (try revert u177); (try revert u178); (try revert u179); (try revert u180); (try revert u181); (try revert u182); (try revert u183); (try revert u184); (try revert u185); (try revert u186); (try revert u187); (try revert u188); (try revert u189); (try revert u190); (try revert u191); (try revert u192); (try revert u193); (try revert u194); (try revert u195); (try revert u196)
                  (try revert u197); (try revert u198); (try revert u199)
                  exact k6.out
                · repeat (rename_i x_; revert x_)
                  (try revert Addr); (try revert Below); (try revert Calls); (try revert DK); (try revert De); (try revert E6); (try revert GRow); (try revert Go); (try revert HA); (try revert HA'); (try revert HAT); (try revert HB); (try revert HB'); (try revert HB1); (try revert HBB); (try revert HC); (try revert HDD); (try revert HE0); (try revert HOLE1); (try revert HOLE2)
                  (try revert HOLE3); (try revert HOLE4); (try revert HOLE5); (try revert HOLE6); (try revert HOLE7); (try revert HOLE8); (try revert HOLE9); (try revert HP); (try revert HP2); (try revert HPP); (try revert HROW); (try revert HTOP); (try revert HWF); (try revert InRow); (try revert List); (try revert No); (try revert P0); (try revert Pb); (try revert Pc); (try revert Pl)
                  (try revert S0); (try revert St); (try revert Try); (try revert V); (try revert Value); (try revert World); (try revert Y); (try revert a); (try revert a6); (try revert a7); (try revert aj); (try revert apply); (try revert atOf); (try revert b0); (try revert bb); (try revert bj); (try revert c0); (try revert c1); (try revert c2); (try revert c3)
                  (try revert c4); (try revert c5); (try revert c6); (try revert c7); (try revert cap); (try revert cases); (try revert d); (try revert e); (try revert e0); (try revert gb); (try revert gh); (try revert h); (try revert h0); (try revert h1); (try revert h2); (try revert h3); (try revert h4); (try revert h5); (try revert h6); (try revert hb)
                  (try revert hb3); (try revert hbb); (try revert hbig); (try revert hcase); (try revert hcut); (try revert hd); (try revert hd5); (try revert hdd); (try revert he0); (try revert heap); (try revert hgl); (try revert hgw); (try revert hi); (try revert hi0); (try revert hi1); (try revert hii); (try revert hj); (try revert hj0); (try revert hjl); (try revert hjl')
                  (try revert hl); (try revert hlen); (try revert hlt); (try revert hm); (try revert hm2); (try revert hml); (try revert hms); (try revert ho); (try revert hpl); (try revert hq); (try revert hrel); (try revert hrow); (try revert ht); (try revert hu); (try revert hw1); (try revert hw2); (try revert hwf); (try revert hwp); (try revert hwq); (try revert hww)
                  (try revert hy); (try revert i); (try revert intOf); (try revert its); (try revert j); (try revert kind); (try revert len); (try revert ms); (try revert ms2); (try revert none); (try revert o); (try revert of); (try revert off); (try revert p8); (try revert q); (try revert r); (try revert rest); (try revert round); (try revert row6); (try revert some)
                  (try revert the); (try revert u); (try revert v); (try revert v10); (try revert v11); (try revert v12); (try revert v6); (try revert v7); (try revert v9); (try revert w); (try revert w'); (try revert w1); (try revert w3); (try revert wa); (try revert walk); (try revert wb); (try revert wc); (try revert we); (try revert wp); (try revert wq)
                  (try revert wr); (try revert wr2); (try revert y); (try revert u0); (try revert u1); (try revert u2); (try revert u3); (try revert u4); (try revert u5); (try revert u6); (try revert u7); (try revert u8); (try revert u9); (try revert u10); (try revert u11); (try revert u12); (try revert u13); (try revert u14); (try revert u15); (try revert u16)
                  (try revert u17); (try revert u18); (try revert u19); (try revert u20); (try revert u21); (try revert u22); (try revert u23); (try revert u24); (try revert u25); (try revert u26); (try revert u27); (try revert u28); (try revert u29); (try revert u30); (try revert u31); (try revert u32); (try revert u33); (try revert u34); (try revert u35); (try revert u36)
                  (try revert u37); (try revert u38); (try revert u39); (try revert u40); (try revert u41); (try revert u42); (try revert u43); (try revert u44); (try revert u45); (try revert u46); (try revert u47); (try revert u48); (try revert u49); (try revert u50); (try revert u51); (try revert u52); (try revert u53); (try revert u54); (try revert u55); (try revert u56)
                  (try revert u57); (try revert u58); (try revert u59); (try revert u60); (try revert u61); (try revert u62); (try revert u63); (try revert u64); (try revert u65); (try revert u66); (try revert u67); (try revert u68); (try revert u69); (try revert u70); (try revert u71); (try revert u72); (try revert u73); (try revert u74); (try revert u75); (try revert u76)
                  (try revert u77); (try revert u78); (try revert u79); (try revert u80); (try revert u81); (try revert u82); (try revert u83); (try revert u84); (try revert u85); (try revert u86); (try revert u87); (try revert u88); (try revert u89); (try revert u90); (try revert u91); (try revert u92); (try revert u93); (try revert u94); (try revert u95); (try revert u96)
                  (try revert u97); (try revert u98); (try revert u99); (try revert u100); (try revert u101); (try revert u102); (try revert u103); (try revert u104); (try revert u105); (try revert u106); (try revert u107); (try revert u108); (try revert u109); (try revert u110); (try revert u111); (try revert u112); (try revert u113); (try revert u114); (try revert u115); (try revert u116)
                  (try revert u117); (try revert u118); (try revert u119); (try revert u120); (try revert u121); (try revert u122); (try revert u123); (try revert u124); (try revert u125); (try revert u126); (try revert u127); (try revert u128); (try revert u129); (try revert u130); (try revert u131); (try revert u132); (try revert u133); (try revert u134); (try revert u135); (try revert u136)
                  (try revert u137); (try revert u138); (try revert u139); (try revert u140); (try revert u141); (try revert u142); (try revert u143); (try revert u144); (try revert u145); (try revert u146); (try revert u147); (try revert u148); (try revert u149); (try revert u150); (try revert u151); (try revert u152); (try revert u153); (try revert u154); (try revert u155); (try revert u156)
                  (try revert u157); (try revert u158); (try revert u159); (try revert u160); (try revert u161); (try revert u162); (try revert u163); (try revert u164); (try revert u165); (try revert u166); (try revert u167); (try revert u168); (try revert u169); (try revert u170); (try revert u171); (try revert u172); (try revert u173); (try revert u174); (try revert u175); (try revert u176)
                  (try revert u177); (try revert u178); (try revert u179); (try revert u180); (try revert u181); (try revert u182); (try revert u183); (try revert u184); (try revert u185); (try revert u186); (try revert u187); (try revert u188); (try revert u189); (try revert u190); (try revert u191); (try revert u192); (try revert u193); (try revert u194); (try revert u195); (try revert u196)
                  (try revert u197); (try revert u198); (try revert u199)
                  exact k7.out
              · repeat (rename_i x_; revert x_)
                (try revert Addr); (try revert Below); (try revert Calls); (try revert DK); (try revert De); (try revert E6); (try revert GRow); (try revert Go); (try revert HA); (try revert HA'); (try revert HAT); (try revert HB); (try revert HB'); (try revert HB1); (try revert HBB); (try revert HC); (try revert HDD); (try revert HE0); (try revert HOLE1); (try revert HOLE2)
                (try revert HOLE3); (try revert HOLE4); (try revert HOLE5); (try revert HOLE6); (try revert HOLE7); (try revert HOLE8); (try revert HOLE9); (try revert HP); (try revert HP2); (try revert HPP); (try revert HROW); (try revert HTOP); (try revert HWF); (try revert InRow); (try revert List); (try revert No); (try revert P0); (try revert Pb); (try revert Pc); (try revert Pl)
                (try revert S0); (try revert St); (try revert Try); (try revert V); (try revert Value); (try revert World); (try revert Y); (try revert a); (try revert a6); (try revert a7); (try revert aj); (try revert apply); (try revert atOf); (try revert b0); (try revert bb); (try revert bj); (try revert c0); (try revert c1); (try revert c2); (try revert c3)
                (try revert c4); (try revert c5); (try revert c6); (try revert c7); (try revert cap); (try revert cases); (try revert d); (try revert e); (try revert e0); (try revert gb); (try revert gh); (try revert h); (try revert h0); (try revert h1); (try revert h2); (try revert h3); (try revert h4); (try revert h5); (try revert h6); (try revert hb)
                (try revert hb3); (try revert hbb); (try revert hbig); (try revert hcase); (try revert hcut); (try revert hd); (try revert hd5); (try revert hdd); (try revert he0); (try revert heap); (try revert hgl); (try revert hgw); (try revert hi); (try revert hi0); (try revert hi1); (try revert hii); (try revert hj); (try revert hj0); (try revert hjl); (try revert hjl')
                (try revert hl); (try revert hlen); (try revert hlt); (try revert hm); (try revert hm2); (try revert hml); (try revert hms); (try revert ho); (try revert hpl); (try revert hq); (try revert hrel); (try revert hrow); (try revert ht); (try revert hu); (try revert hw1); (try revert hw2); (try revert hwf); (try revert hwp); (try revert hwq); (try revert hww)
                (try revert hy); (try revert i); (try revert intOf); (try revert its); (try revert j); (try revert kind); (try revert len); (try revert ms); (try revert ms2); (try revert none); (try revert o); (try revert of); (try revert off); (try revert p8); (try revert q); (try revert r); (try revert rest); (try revert round); (try revert row6); (try revert some)
                (try revert the); (try revert u); (try revert v); (try revert v10); (try revert v11); (try revert v12); (try revert v6); (try revert v7); (try revert v9); (try revert w); (try revert w'); (try revert w1); (try revert w3); (try revert wa); (try revert walk); (try revert wb); (try revert wc); (try revert we); (try revert wp); (try revert wq)
                (try revert wr); (try revert wr2); (try revert y); (try revert u0); (try revert u1); (try revert u2); (try revert u3); (try revert u4); (try revert u5); (try revert u6); (try revert u7); (try revert u8); (try revert u9); (try revert u10); (try revert u11); (try revert u12); (try revert u13); (try revert u14); (try revert u15); (try revert u16)
                (try revert u17); (try revert u18); (try revert u19); (try revert u20); (try revert u21); (try revert u22); (try revert u23); (try revert u24); (try revert u25); (try revert u26); (try revert u27); (try revert u28); (try revert u29); (try revert u30); (try revert u31); (try revert u32); (try revert u33); (try revert u34); (try revert u35); (try revert u36)
                (try revert u37); (try revert u38); (try revert u39); (try revert u40); (try revert u41); (try revert u42); (try revert u43); (try revert u44); (try revert u45); (try revert u46); (try revert u47); (try revert u48); (try revert u49); (try revert u50); (try revert u51); (try revert u52); (try revert u53); (try revert u54); (try revert u55); (try revert u56)
                (try revert u57); (try revert u58); (try revert u59); (try revert u60); (try revert u61); (try revert u62); (try revert u63); (try revert u64); (try revert u65); (try revert u66); (try revert u67); (try revert u68); (try revert u69); (try revert u70); (try revert u71); (try revert u72); (try revert u73); (try revert u74); (try revert u75); (try revert u76)
                (try revert u77); (try revert u78); (try revert u79); (try revert u80); (try revert u81); (try revert u82); (try revert u83); (try revert u84); (try revert u85); (try revert u86); (try revert u87); (try revert u88); (try revert u89); (try revert u90); (try revert u91); (try revert u92); (try revert u93); (try revert u94); (try revert u95); (try revert u96)
                (try revert u97); (try revert u98); (try revert u99); (try revert u100); (try revert u101); (try revert u102); (try revert u103); (try revert u104); (try revert u105); (try revert u106); (try revert u107); (try revert u108); (try revert u109); (try revert u110); (try revert u111); (try revert u112); (try revert u113); (try revert u114); (try revert u115); (try revert u116)
                (try revert u117); (try revert u118); (try revert u119); (try revert u120); (try revert u121); (try revert u122); (try revert u123); (try revert u124); (try revert u125); (try revert u126); (try revert u127); (try revert u128); (try revert u129); (try revert u130); (try revert u131); (try revert u132); (try revert u133); (try revert u134); (try revert u135); (try revert u136)
                (try revert u137); (try revert u138); (try revert u139); (try revert u140); (try revert u141); (try revert u142); (try revert u143); (try revert u144); (try revert u145); (try revert u146); (try revert u147); (try revert u148); (try revert u149); (try revert u150); (try revert u151); (try revert u152); (try revert u153); (try revert u154); (try revert u155); (try revert u156)
                (try revert u157); (try revert u158); (try revert u159); (try revert u160); (try revert u161); (try revert u162); (try revert u163); (try revert u164); (try revert u165); (try revert u166); (try revert u167); (try revert u168); (try revert u169); (try revert u170); (try revert u171); (try revert u172); (try revert u173); (try revert u174); (try revert u175); (try revert u176)
                (try revert u177); (try revert u178); (try revert u179); (try revert u180); (try revert u181); (try revert u182); (try revert u183); (try revert u184); (try revert u185); (try revert u186); (try revert u187); (try revert u188); (try revert u189); (try revert u190); (try revert u191); (try revert u192); (try revert u193); (try revert u194); (try revert u195); (try revert u196)
                (try revert u197); (try revert u198); (try revert u199)
                exact k8.out
            case rest =>
              clear k2 k3 k4 k5 k6 k7 k8
              obtain ⟨ms2, o, rfl, ho, hm2, HC⟩ := hcut
              clear HA HTOP HAT HDD HWF hml b0 hpl
              obtain ⟨a7, c7, rfl, -, -⟩ := HC.out.row.shape E6
              rcases ho with rfl | ⟨q, hq, rfl⟩
              · clear k9
                go_wp2_with fail
                refine (Len_st (HC.out.st.below' (by (repeat (with_reducible first | exact Below.refl _ _ | apply below_drewN | apply below_drew | apply below_alloc)))) ms2.length (by rw [rem_none, its_len])).mono ?_
                rintro e w3 ⟨rfl, rfl⟩
                have HP2 := fun w' hb => Pl.below (w' := w') ⟨HC.out.st, HC.out.row⟩ hb
                rw [rem_none] at HP2
                have HPP := Side.mk HP2
                clear HC HP2
                go_wp2
                go_roundw
                case rel => exact ⟨i + 1, ms2, by simp, by omega, hm2, ⟨HPP.out _ (by (repeat (with_reducible first | exact Below.refl _ _ | apply below_drewN | apply below_drew | apply below_alloc)))⟩⟩
                case measure => simp [intOf]; omega
              · repeat (rename_i x_; revert x_)
                (try revert Addr); (try revert Below); (try revert Calls); (try revert DK); (try revert De); (try revert E6); (try revert GRow); (try revert Go); (try revert HA); (try revert HA'); (try revert HAT); (try revert HB); (try revert HB'); (try revert HB1); (try revert HBB); (try revert HC); (try revert HDD); (try revert HE0); (try revert HOLE1); (try revert HOLE2)
                (try revert HOLE3); (try revert HOLE4); (try revert HOLE5); (try revert HOLE6); (try revert HOLE7); (try revert HOLE8); (try revert HOLE9); (try revert HP); (try revert HP2); (try revert HPP); (try revert HROW); (try revert HTOP); (try revert HWF); (try revert InRow); (try revert List); (try revert No); (try revert P0); (try revert Pb); (try revert Pc); (try revert Pl)
                (try revert S0); (try revert St); (try revert Try); (try revert V); (try revert Value); (try revert World); (try revert Y); (try revert a); (try revert a6); (try revert a7); (try revert aj); (try revert apply); (try revert atOf); (try revert b0); (try revert bb); (try revert bj); (try revert c0); (try revert c1); (try revert c2); (try revert c3)
                (try revert c4); (try revert c5); (try revert c6); (try revert c7); (try revert cap); (try revert cases); (try revert d); (try revert e); (try revert e0); (try revert gb); (try revert gh); (try revert h); (try revert h0); (try revert h1); (try revert h2); (try revert h3); (try revert h4); (try revert h5); (try revert h6); (try revert hb)
                (try revert hb3); (try revert hbb); (try revert hbig); (try revert hcase); (try revert hcut); (try revert hd); (try revert hd5); (try revert hdd); (try revert he0); (try revert heap); (try revert hgl); (try revert hgw); (try revert hi); (try revert hi0); (try revert hi1); (try revert hii); (try revert hj); (try revert hj0); (try revert hjl); (try revert hjl')
                (try revert hl); (try revert hlen); (try revert hlt); (try revert hm); (try revert hm2); (try revert hml); (try revert hms); (try revert ho); (try revert hpl); (try revert hq); (try revert hrel); (try revert hrow); (try revert ht); (try revert hu); (try revert hw1); (try revert hw2); (try revert hwf); (try revert hwp); (try revert hwq); (try revert hww)
                (try revert hy); (try revert i); (try revert intOf); (try revert its); (try revert j); (try revert kind); (try revert len); (try revert ms); (try revert ms2); (try revert none); (try revert o); (try revert of); (try revert off); (try revert p8); (try revert q); (try revert r); (try revert rest); (try revert round); (try revert row6); (try revert some)
                (try revert the); (try revert u); (try revert v); (try revert v10); (try revert v11); (try revert v12); (try revert v6); (try revert v7); (try revert v9); (try revert w); (try revert w'); (try revert w1); (try revert w3); (try revert wa); (try revert walk); (try revert wb); (try revert wc); (try revert we); (try revert wp); (try revert wq)
                (try revert wr); (try revert wr2); (try revert y); (try revert u0); (try revert u1); (try revert u2); (try revert u3); (try revert u4); (try revert u5); (try revert u6); (try revert u7); (try revert u8); (try revert u9); (try revert u10); (try revert u11); (try revert u12); (try revert u13); (try revert u14); (try revert u15); (try revert u16)
                (try revert u17); (try revert u18); (try revert u19); (try revert u20); (try revert u21); (try revert u22); (try revert u23); (try revert u24); (try revert u25); (try revert u26); (try revert u27); (try revert u28); (try revert u29); (try revert u30); (try revert u31); (try revert u32); (try revert u33); (try revert u34); (try revert u35); (try revert u36)
                (try revert u37); (try revert u38); (try revert u39); (try revert u40); (try revert u41); (try revert u42); (try revert u43); (try revert u44); (try revert u45); (try revert u46); (try revert u47); (try revert u48); (try revert u49); (try revert u50); (try revert u51); (try revert u52); (try revert u53); (try revert u54); (try revert u55); (try revert u56)
                (try revert u57); (try revert u58); (try revert u59); (try revert u60); (try revert u61); (try revert u62); (try revert u63); (try revert u64); (try revert u65); (try revert u66); (try revert u67); (try revert u68); (try revert u69); (try revert u70); (try revert u71); (try revert u72); (try revert u73); (try revert u74); (try revert u75); (try revert u76)
                (try revert u77); (try revert u78); (try revert u79); (try revert u80); (try revert u81); (try revert u82); (try revert u83); (try revert u84); (try revert u85); (try revert u86); (try revert u87); (try revert u88); (try revert u89); (try revert u90); (try revert u91); (try revert u92); (try revert u93); (try revert u94); (try revert u95); (try revert u96)
                (try revert u97); (try revert u98); (try revert u99); (try revert u100); (try revert u101); (try revert u102); (try revert u103); (try revert u104); (try revert u105); (try revert u106); (try revert u107); (try revert u108); (try revert u109); (try revert u110); (try revert u111); (try revert u112); (try revert u113); (try revert u114); (try revert u115); (try revert u116)
                (try revert u117); (try revert u118); (try revert u119); (try revert u120); (try revert u121); (try revert u122); (try revert u123); (try revert u124); (try revert u125); (try revert u126); (try revert u127); (try revert u128); (try revert u129); (try revert u130); (try revert u131); (try revert u132); (try revert u133); (try revert u134); (try revert u135); (try revert u136)
                (try revert u137); (try revert u138); (try revert u139); (try revert u140); (try revert u141); (try revert u142); (try revert u143); (try revert u144); (try revert u145); (try revert u146); (try revert u147); (try revert u148); (try revert u149); (try revert u150); (try revert u151); (try revert u152); (try revert u153); (try revert u154); (try revert u155); (try revert u156)
                (try revert u157); (try revert u158); (try revert u159); (try revert u160); (try revert u161); (try revert u162); (try revert u163); (try revert u164); (try revert u165); (try revert u166); (try revert u167); (try revert u168); (try revert u169); (try revert u170); (try revert u171); (try revert u172); (try revert u173); (try revert u174); (try revert u175); (try revert u176)
                (try revert u177); (try revert u178); (try revert u179); (try revert u180); (try revert u181); (try revert u182); (try revert u183); (try revert u184); (try revert u185); (try revert u186); (try revert u187); (try revert u188); (try revert u189); (try revert u190); (try revert u191); (try revert u192); (try revert u193); (try revert u194); (try revert u195); (try revert u196)
                (try revert u197); (try revert u198); (try revert u199)
                exact k9.out
      · clear k1 k2 k3 k4 k5 k6 k7 k8 k9
        have hii : ¬ (i : Int) < len := by omega
        have HB' := Side.mk HP.out.st.below
        clear HP hi hms
        go_wp2
        go_ret
        exact ⟨rfl, Below.trans HB'.out ((Below.refl _ _).mono HB'.out.size)⟩
end Go.Proofs.Ytiebpmbongmgkaa.HpUp
