/- LedgerPlays: the law's own walk. No condition. -/
import Derived.Test.YtfgmenndmcjggaaLpC
set_option linter.unusedVariables false
set_option linter.unusedSimpArgs false
namespace Go.Proofs.Ytfgmenndmcjggaa.LPlays
open Go.RowKit Go.Proofs.Ytfgmenndmcjggaa.Kit Go.Proofs.Ytfgmenndmcjggaa.Kit2 Go.Proofs.Ytfgmenndmcjggaa.Kit3 Go.Proofs.Ytfgmenndmcjggaa.Kit4 Go.Proofs.Ytfgmenndmcjggaa.Kit5 Go.Proofs.Ytfgmenndmcjggaa.LeP Go.Maps Go.Proofs.Ytfgmenndmcjggaa.LeA Go.Proofs.Ytfgmenndmcjggaa.LeF Go.Proofs.Ytfgmenndmcjggaa.LeH Go.Proofs.Ytfgmenndmcjggaa.LeK Go.Proofs.Ytfgmenndmcjggaa.LpA Go.Proofs.Ytfgmenndmcjggaa.LpB Go.Proofs.Ytfgmenndmcjggaa.LpC
open Go.Proofs.Ytfgmenndmcjggaa.PR WhPlain RaPlain Go.Proofs.Ytfgmenndmcjggaa.RaK
open Go.Proofs.YtfgmenndmcjggaaW.PrintLast
set_option maxHeartbeats 40000000 in
set_option maxRecDepth 100000 in
theorem walk (k0 : Int) (ar : Option Addr) (len cap : Nat) (V : Nat → Nat → Value) (w : World) (wk : (Lit.int .i64 k0).wf = true) (hrow : InRow DK w ar len V) (hlen : len ≤ maxLen) :
    Calls Try.prog 5 #[.int .i64 k0, .slice ar len cap] w fun r w' => r = .returned (.bool true) ∧ Below w.heap.size w w' := by
  have hl64 : (len : Int) ≤ 9223372036854775807 := by unfold maxLen at hlen; omega
  have HROW := Side.mk hrow
  clear hrow hlen wk
  obtain ⟨k, hk⟩ : ∃ k, kc k0 = k := ⟨_, rfl⟩
  have HK := Side.mk hk
  have hkb : 1 ≤ k ∧ k ≤ 64 := by rw [← hk]; exact kc_range k0
  have hk' : min (max k0 1) 64 = k := hk
  clear hk
  go_enter Try.func5, Try.ntmps5
  go_upto_region 3 with (go_at_call 7; (with_reducible refine (AwakeC _).out.mono ?_); rintro e W1 ⟨rfl, hb1⟩)
  have HB1 := Side.mk hb1
  clear hb1
  by_cases hbig : 100 < len
  · have hbi : (len : Int) > 100 := by omega
    go_wp2
    go_ret
    exact ⟨rfl, HB1.out⟩
  · have hbi : ¬ (len : Int) > 100 := by omega
    go_upto_region 5 with (fail)
    go_cut [5] (fun v we => v = .int .i64 k ∧ we = W1)
    case first =>
      go_wp2
      all_goals (go_meet)
      all_goals (first | (case rel => exact ⟨congrArg (Value.int .i64) (by omega), rfl⟩) | exact ⟨congrArg (Value.int .i64) (by omega), rfl⟩)
    case rest =>
    obtain ⟨rfl, hcut⟩ := hcut
    rw [hcut]
    clear hcut hk'
    go_upto_region 7 with (go_at_call 8; (with_reducible refine (NewS HB1.out k0 k HK.out).mono ?_); rintro e W2 ⟨rfl, hs2, _⟩)
    have HP0 : Side (Pl w W2 (W1.heap.size + 2) W1.heap.size (W1.heap.size + 1) 0 k (.slice none 0 0) []) := ⟨⟨hs2, GRow.nil _ _⟩⟩
    clear hs2 HB1 HK
    generalize W1.heap.size + 2 = gh at *
    generalize W1.heap.size + 1 = bm at *
    generalize W1.heap.size = bl at *
    go_wp2_with fail

    go_loopw [7, 8] (fun v7 v8 wr => ∃ (i : Nat) (ms : List Wt), v8 = .int .i64 (i : Int) ∧ i ≤ len ∧ ms.length ≤ i ∧ Side (Pl w wr gh bl bm i k v7 ms)) (fun _ v8 _ => (len - intOf v8).toNat)
    case atStart => exact ⟨0, [], rfl, Nat.zero_le _, Nat.le_refl _, HP0⟩
    case round =>
      clear HP0
      obtain ⟨i, ms, rfl, hi, hms, HP⟩ := hrel
      have hi0 : (0 : Int) ≤ i := by omega
      obtain ⟨am, cm, hv7, hcm, hmc⟩ := HP.out.row.shape E3
      subst hv7
      by_cases hlt : i < len
      · have hii : (i : Int) < len := by omega
        have hi1 : (i : Int) + 1 ≤ 9223372036854775807 := by omega
        obtain ⟨rb, off, dd, di, de, dp, rfl, hbl, c0, c1, c2, c3, wd, wi, we, wp⟩ := rowD HROW.out HP.out.st.below i hlt
        have HWI := Side.mk wi
        clear wd wi we wp
        go_upto_region 14 with (fail)
        have HX : Side ((wr.alloc (.cells #[.int .i64 dd, .int .i64 di, .int .i64 de, .int .i64 dp] 40)).heap[wr.heap.size]? = some (.cells #[.int .i64 dd, .int .i64 di, .int .i64 de, .int .i64 dp] 40 (0, 0))) := ⟨heap_alloc_new wr _⟩
        have HP1 := Side.mk (HP.out.below ((Below.refl _ wr).alloc (Nat.le_refl _) (.cells #[.int .i64 dd, .int .i64 di, .int .i64 de, .int .i64 dp] 40)))
        clear c0 c1 c2 c3 hbl HP
        generalize wr.heap.size = pb at *
        generalize wr.alloc (.cells #[.int .i64 dd, .int .i64 di, .int .i64 de, .int .i64 dp] 40) = W at *
        go_wp2_with fail
        go_loopw [10, 11] (fun v10 v11 wq => ∃ (q : Int) (j : Nat), v10 = .int .i64 q ∧ v11 = .int .i64 (j : Int) ∧ j ≤ ms.length ∧ Side (LpC.Fd ms di j q) ∧ Side (Below W.heap.size W wq)) (fun _ v11 _ => (ms.length - intOf v11).toNat)
        case atStart => exact ⟨-1, 0, rfl, rfl, Nat.zero_le _, ⟨LpC.Fd.start _ _⟩, ⟨Below.refl _ _⟩⟩
        case round =>
          obtain ⟨q, j, rfl, rfl, hj, HF, HBW⟩ := hrel
          obtain ⟨wq, hwq⟩ : ∃ wq : World, wq = wr := ⟨_, rfl⟩
          rw [← hwq] at HBW ⊢
          clear hwq
          have hj0 : (0 : Int) ≤ j := by omega
          by_cases hjl : j < ms.length
          · have hjj : (j : Int) < ms.length := by omega
            have hj1 : (j : Int) + 1 ≤ 9223372036854775807 := by omega
            obtain ⟨x, hx⟩ : ∃ x, ms[j]? = some x := ⟨_, List.getElem?_eq_getElem hjl⟩
            obtain ⟨g, rfl, -, hgl0, -, -, hcells⟩ := HP1.out.row.get E3 (by intro e; rw [e] at hjl; simp at hjl)
            have u0 : wq.cell? ⟨g, j * 3, none⟩ = some (.int .i64 x.1) := ((bcell HBW.out).1 g _ hgl0).trans (by simpa using hcells j x hx 0 _ rfl)
            have hgl := bz HBW.out hgl0
            have d1 : wq.cell? ⟨pb, 1, none⟩ = some (.int .i64 di) := ((bcell HBW.out).1 pb _ (Array.getElem?_eq_some_iff.1 HX.out).1).trans (cell_of_row W pb 1 _ _ (0, 0) HX.out)
            have hpl := bz HBW.out (Array.getElem?_eq_some_iff.1 HX.out).1
            have HXX := Side.mk hx
            clear hx hcells hgl0
            obtain ⟨x0, x1, x2⟩ := x
            obtain ⟨sb, hsb⟩ : ∃ sb : Bool, (x0 == di) = sb := ⟨_, rfl⟩
            go_upto_region 18 with (fail)
            go_cut [48] (fun v we => v = .bool sb ∧ Side (Below wq.heap.size wq we))
            case first =>
              go_quiet (fail)
              refine ‹∀ (a' : Act) (w' : World), Met _ a' w' → _› _ _ ?_
              go_meet
              case rel => exact ⟨by first | rfl | (rw [hsb]), ⟨below_drewN (Below.refl _ _) _⟩⟩
            case rest =>
              obtain ⟨rfl, HC⟩ := hcut
              have HBW2 := Side.mk (below_then HBW.out HBW.out.size HC.out)
              clear HBW HC u0 d1 hgl hpl
              go_step
              cases sb with
              | true =>
                have HF2 : Side (LpC.Fd ms di (j + 1) (j : Int)) := ⟨LpC.Fd.hit HXX.out (by simpa using hsb)⟩
                clear HF HXX hsb
                go_wp2
                go_roundw
                case rel => exact ⟨(j : Int), j + 1, rfl, by simp, by omega, HF2, HBW2⟩
                case measure => simp [intOf]; omega
              | false =>
                have HF2 : Side (LpC.Fd ms di (j + 1) q) := ⟨HF.out.miss HXX.out (by simpa using hsb)⟩
                clear HF HXX hsb
                go_wp2
                go_roundw
                case rel => exact ⟨q, j + 1, rfl, by simp, by omega, HF2, HBW2⟩
                case measure => simp [intOf]; omega
          · have hjj : ¬ (j : Int) < ms.length := by omega
            obtain rfl : j = ms.length := by omega
            have HP2 := Side.mk (HP1.out.below HBW.out)
            have HX2 : Side (wq.heap[pb]? = some (.cells #[.int .i64 dd, .int .i64 di, .int .i64 de, .int .i64 dp] 40 (0, 0))) := ⟨(HBW.out.block pb (Array.getElem?_eq_some_iff.1 HX.out).1).trans HX.out⟩
            clear HP1 HX HBW hjl hj hj0
            have hq := HF.out.range
            have hpl : pb < wq.heap.size := (Array.getElem?_eq_some_iff.1 HX2.out).1
            have e0 : wq.cell? ⟨pb, 0, none⟩ = some (.int .i64 dd) := cell_of_row wq pb 0 _ _ (0, 0) HX2.out
            have e2 : wq.cell? ⟨pb, 2, none⟩ = some (.int .i64 de) := cell_of_row wq pb 2 _ _ (0, 0) HX2.out
            have e3 : wq.cell? ⟨pb, 3, none⟩ = some (.int .i64 dp) := cell_of_row wq pb 3 _ _ (0, 0) HX2.out
            go_upto_region 20 with (fail)
            obtain ⟨c, hc⟩ : ∃ c, canV k ms de dp = c := ⟨_, rfl⟩
            go_upto_region 21 with (go_at_call 15; (with_reducible refine (RefCan HP2.out.row (by omega) HP2.out.st.ls.g.may hkb de dp c hc).mono ?_); rintro ee w4 ⟨rfl, hb4⟩)
            have HP3 := Side.mk (HP2.out.below hb4)
            have HX3 : Side (w4.heap[pb]? = some (.cells #[.int .i64 dd, .int .i64 di, .int .i64 de, .int .i64 dp] 40 (0, 0))) := ⟨(hb4.block pb hpl).trans HX2.out⟩
            have HCV := Side.mk hc
            clear e0 e2 e3 hpl HP2 HX2 hb4 hc
            have hpl : pb < w4.heap.size := (Array.getElem?_eq_some_iff.1 HX3.out).1
            have e0 : w4.cell? ⟨pb, 0, none⟩ = some (.int .i64 dd) := cell_of_row w4 pb 0 _ _ (0, 0) HX3.out
            go_cut [58] (fun v we => v = .int .i64 dd ∧ we = w4)
            case first =>
              go_wp2
              go_meet
              case rel => exact ⟨rfl, rfl⟩
            case rest =>
            obtain ⟨rfl, hcut⟩ := hcut
            rw [hcut]
            clear hcut e0
            go_step
            go_cut [7] (fun v7 we => ∃ ms', ms'.length ≤ i + 1 ∧ Side (Pl w we gh bl bm (i + 1) k v7 ms'))
            case first =>
              go_step
              obtain ⟨ia, hia⟩ : ∃ ia : Bool, (dd == 0 || dd == 1 || dd == 2 || dd == 3) = ia := ⟨_, rfl⟩
              go_step
              go_cut [59] (fun v we => v = .bool ia ∧ we = w4)
              case first =>
                clear HF HP3 HX3 HCV hq hpl
                by_cases h0 : dd = 0
                · subst h0
                  go_wp2
                  go_meet
                  case rel => exact ⟨congrArg Value.bool (by rw [← hia]; rfl), rfl⟩
                · by_cases h1 : dd = 1
                  · subst h1
                    go_wp2
                    go_meet
                    case rel => exact ⟨congrArg Value.bool (by rw [← hia]; rfl), rfl⟩
                  · by_cases h2 : dd = 2
                    · subst h2
                      go_wp2
                      go_meet
                      case rel => exact ⟨congrArg Value.bool (by rw [← hia]; rfl), rfl⟩
                    · by_cases h3 : dd = 3
                      · subst h3
                        go_wp2
                        go_meet
                        case rel => exact ⟨congrArg Value.bool (by rw [← hia]; rfl), rfl⟩
                      · obtain rfl : ia = false := by rw [← hia]; simp [h0, h1, h2, h3]
                        have d0 : (dd == 0) = false := by simpa using h0
                        have d1 : (dd == 1) = false := by simpa using h1
                        have d2 : (dd == 2) = false := by simpa using h2
                        have d3 : (dd == 3) = false := by simpa using h3
                        clear hia h0 h1 h2 h3
                        go_wp2
                        go_meet
                        case rel => exact ⟨rfl, rfl⟩
              case rest =>
              obtain ⟨rfl, hcut⟩ := hcut
              rw [hcut]
              clear hcut
              go_step
              have f1 : w4.cell? ⟨pb, 1, none⟩ = some (.int .i64 di) := cell_of_row w4 pb 1 _ _ (0, 0) HX3.out
              have f2 : w4.cell? ⟨pb, 2, none⟩ = some (.int .i64 de) := cell_of_row w4 pb 2 _ _ (0, 0) HX3.out
              have f3 : w4.cell? ⟨pb, 3, none⟩ = some (.int .i64 dp) := cell_of_row w4 pb 3 _ _ (0, 0) HX3.out
              cases ia with
              | true =>
                clear hia
                obtain ⟨cw, hcw⟩ : ∃ cw, addV k ms di de dp = cw := ⟨_, rfl⟩
                have HCW := Side.mk hcw
                have HW : Side (cw = if 0 ≤ q ∧ ¬ c = 2 then 4 else c) := ⟨by
                  rw [← hcw, want_add, HCV.out, HF.out.has]
                  simp only [decide_eq_true_eq]⟩
                clear hcw
                go_step
                go_step
                go_cut [12] (fun v we => v = .int .i64 cw ∧ we = w4)
                case first =>
                  have HW2 := HW.out
                  clear HF HP3 HX3 HCV HCW HW HWI
                  by_cases hq0 : 0 ≤ q
                  · have g0 : decide (0 ≤ q) = true := decide_eq_true hq0
                    by_cases hc2 : c = 2
                    · have g1 : (c == 2) = true := by simpa using hc2
                      obtain rfl : cw = c := by rw [HW2, if_neg (fun h => h.2 hc2)]
                      clear HW2
                      go_wp2
                      go_meet
                      case rel => exact ⟨rfl, rfl⟩
                    · have g1 : (c == 2) = false := by simpa using hc2
                      obtain rfl : cw = 4 := by rw [HW2, if_pos ⟨hq0, hc2⟩]
                      have g2 : (c != 2) = true := by simpa using hc2
                      have g3 : (!decide (c = 2)) = true := by simpa using hc2
                      have g4 : decide (c = 2) = false := by simpa using hc2
                      clear HW2
                      go_wp2
                      go_meet
                      case rel => exact ⟨rfl, rfl⟩
                  · have g0 : decide (0 ≤ q) = false := decide_eq_false hq0
                    obtain rfl : cw = c := by rw [HW2, if_neg (fun h => hq0 h.1)]
                    clear HW2
                    go_wp2
                    go_meet
                    case rel => exact ⟨rfl, rfl⟩
                case rest =>
                obtain ⟨rfl, hcut⟩ := hcut
                rw [hcut]
                clear hcut
                clear HW
                have HIL : Side (i < 1000000) := ⟨by omega⟩
                have HMSL : Side (ms.length ≤ 100) := ⟨by omega⟩
                by_cases hz : cw = 0
                · go_wp2_with fail
                  refine (AddS HP3.out.st HIL.out di de dp cw HWI.out HCW.out (ms ++ [(di, de, dp)]) (if_pos hz)).mono ?_
                  rintro ee w5 ⟨rfl, hs5, hc5⟩
                  have HS5 := Side.mk hs5
                  have HR5 := Side.mk (HP3.out.row_keeps hc5)
                  have HX5 := Side.mk (box_keeps HP3.out.st hc5 HX3.out (by decide))
                  clear hs5 hc5 HP3 HX3 f1 f2 f3 hpl HCV HCW HF
                  have hpl : pb < w5.heap.size := (Array.getElem?_eq_some_iff.1 HX5.out).1
                  have f1 : w5.cell? ⟨pb, 1, none⟩ = some (.int .i64 di) := cell_of_row w5 pb 1 _ _ (0, 0) HX5.out
                  have f2 : w5.cell? ⟨pb, 2, none⟩ = some (.int .i64 de) := cell_of_row w5 pb 2 _ _ (0, 0) HX5.out
                  have f3 : w5.cell? ⟨pb, 3, none⟩ = some (.int .i64 dp) := cell_of_row w5 pb 3 _ _ (0, 0) HX5.out
                  subst hz
                  go_wp2_with (at_builtin; refine wpList_wapp rfl _ _ rfl w.heap.size (.slice am ms.length cm) ms rfl (HR5.out.below ((Below.refl _ _).alloc (Nat.le_refl _) _)) (.slice (some ⟨w5.heap.size, 0, none⟩) 1 1) [(di, de, dp)] rfl (sp1 (heap_alloc_new w5 _)) (by have := HMSL.out; simp; omega) (by have := HS5.out.below.size; simp; omega) ?_; intro v6 w6 hr6 hg6 hl6)
                  have HP6 : Side (Pl w w6 gh bl bm (i + 1) k v6 (ms ++ [(di, de, dp)])) := ⟨Pl.grow (HR5.out.below ((Below.refl _ _).alloc (Nat.le_refl _) _)) (HS5.out.below' ((Below.refl _ _).alloc (Nat.le_refl _) _)) hr6 hg6⟩
                  clear hr6 hg6 hl6 HS5 HR5 HX5 f1 f2 f3 hpl
                  go_meet
                  case rel => exact ⟨ms ++ [(di, de, dp)], by simp; omega, HP6⟩
                · go_wp2_with fail
                  refine (AddS HP3.out.st HIL.out di de dp cw HWI.out HCW.out ms (if_neg hz)).mono ?_
                  rintro ee w5 ⟨rfl, hs5, hc5⟩
                  have HP5 : Side (Pl w w5 gh bl bm (i + 1) k (.slice am ms.length cm) ms) := ⟨⟨hs5, HP3.out.row_keeps hc5⟩⟩
                  clear hs5 hc5 HP3 HX3 f1 f2 f3 hpl HCV HCW HF
                  have g1 : (cw == 0) = false := by simpa using hz
                  go_wp2
                  go_meet
                  case rel => exact ⟨ms, by omega, HP5⟩
              | false =>
                clear hia
                have HIL : Side (i < 1000000) := ⟨by omega⟩
                have HMSL : Side (ms.length ≤ i ∧ ms.length ≤ 100) := ⟨by omega, by omega⟩
                by_cases h4 : dd = 4
                · subst h4
                  by_cases hq0 : 0 ≤ q
                  · obtain ⟨qi, rfl⟩ : ∃ qi : Nat, q = (qi : Int) := ⟨q.toNat, by omega⟩
                    have g0 : decide ((qi : Int) ≥ 0) = true := decide_eq_true hq0
                    obtain ⟨hql, hdr⟩ := HF.out.drp HP3.out.st.ls.g.nd qi rfl
                    obtain ⟨q1, hq1⟩ : ∃ q1 : Nat, q1 = qi + 1 := ⟨_, rfl⟩
                    rw [← hq1] at hdr
                    go_wp2_with fail
                    refine (DropS HP3.out.st HIL.out di HWI.out true (by rw [HF.out.has]; exact g0) (ms.take qi ++ ms.drop q1) hdr).mono ?_
                    rintro ee w5 ⟨rfl, hs5, hc5⟩
                    have HS6 := Side.mk hs5
                    have HR6 := Side.mk (HP3.out.row_keeps hc5)
                    clear hs5 hc5 HP3 HX3 f1 f2 f3 hpl HCV HF hdr
                    obtain ⟨g, rfl, -, hgl0, -, -, -⟩ := HR6.out.get E3 (by intro e; rw [e] at hql; simp at hql)
                    go_upto_region 36 with (fail)
                    obtain ⟨wz, hwz⟩ : ∃ wz : World, wz = w5 := ⟨_, rfl⟩
                    rw [← hwz] at HS6 HR6 hgl0 ⊢
                    clear hwz
                    have hq1i : (qi : Int) + 1 = (q1 : Int) := by omega
                    have hcm9 : (cm : Int) ≤ 9223372036854775807 := by unfold maxLen at hcm; omega
                    have hq1c : (q1 : Int) ≤ cm := by omega
                    have hqic : (qi : Int) ≤ cm := by omega
                    have hq1l : (q1 : Int) ≤ ms.length := by omega
                    have hq10 : (0 : Int) ≤ q1 := by omega
                    have hlc : (ms.length : Int) ≤ cm := by omega
                    have HT1 : Side (Sp wz.drew (.slice (some ⟨g, 0, none⟩) qi cm) (ms.take qi)) := ⟨Sp.below (Sp.take HR6.out qi cm (by omega)) (below_drew (Below.refl _ wz))⟩
                    have hw1 : IntKind.i64.wrap (q1 : Int) = (q1 : Int) := Go.IntWalk.i64_in _ (by omega)
                    clear hq1
                    by_cases hcap : cm = q1
                    · have HT2 : Side (Sp wz.drew (.slice (some ⟨g, 0, none⟩) (ms.length - q1) (cm - q1)) (ms.drop q1)) := ⟨by
                        rw [List.drop_eq_nil_of_le (by omega), show ms.length - q1 = 0 by omega]
                        exact .inr ⟨g, 0, 0, _, rfl, rfl, hgl0, fun j r x u hj hu => by simp at hj⟩⟩
                      refine start_ (n := 11) (S := fun w' => True) (ds := []) #[false, false, false, false, false, false, false, false, false, false, false] (by kernel_rfl) rfl rfl trivial (fun _ => ?_)
                      refine inv_at (B := [0, 0, 0, 6, 15, 0, 0, 64, 224, 511, 1023]) [0, 1, 2, 3, 4, 5, 6, 7, 8, 9, 10] (fun a0_ b a w' => ∃ p0_ va_ vc_ vd_, a = putSel a0_ b [(0, 103, .slice (some ⟨p0_, 0, none⟩) 0 0), (1, 104, .slice (some ⟨g, 0, none⟩) ms.length cm), (2, 105, .int .i64 (qi : Int)), (3, 106, .slice (some ⟨g, 0, none⟩) qi cm), (4, 107, va_), (5, 108, .slice (some ⟨g, 0, none⟩) ms.length cm), (6, 109, .int .i64 (qi : Int)), (7, 110, .int .i64 (q1 : Int)), (8, 111, .slice (some ⟨g, 0, none⟩) (ms.length - q1) (cm - q1)), (9, 112, vc_), (10, 7, vd_)] ∧ Bq wz.drew (ms.take qi) (ms.drop q1) b p0_ va_ vc_ vd_ w') rfl (by kernel_rfl) (by kernel_rfl) (by kernel_rfl) ?_ ?_ ?_
                      · exact ⟨0, .bool false, .bool false, .bool false, by simp only [putSel, Bool.false_eq_true, if_false], Bq.start⟩
                      · refine steps_cons (by rintro b a w' ⟨p0_, va_, vc_, vd_, ha, HI⟩ hb hon hoff; refine ⟨_, rfl, fun K hK => ?_⟩; exact value_ (w1 := w'.alloc (.cells #[] 42)) (v := .slice (some ⟨w'.heap.size, 0, none⟩) 0 0) (by rfl) rfl (by clear HI ha; go_simp) (hK.out _ _ ⟨w'.heap.size, va_, vc_, vd_, by rw [ha]; exact putSel_upk 0 hb rfl rfl rfl, HI.s0 (hoff 4 rfl) (hoff 9 rfl) (hoff 10 rfl)⟩)) ?_
                        refine steps_cons (by rintro b a w' ⟨p0_, va_, vc_, vd_, ha, HI⟩ hb hon hoff; refine ⟨_, rfl, fun K hK => ?_⟩; have e7 := poffb ha (t := 7) (hoff 10 rfl) rfl rfl; exact value_ (v := .slice (some ⟨g, 0, none⟩) ms.length cm) (by rfl) rfl (by clear HI ha; go_simp) (hK.out _ _ ⟨p0_, va_, vc_, vd_, upk ha 1 hb rfl rfl, HI.low 1 (by decide)⟩)) ?_
                        refine steps_cons (by rintro b a w' ⟨p0_, va_, vc_, vd_, ha, HI⟩ hb hon hoff; refine ⟨_, rfl, fun K hK => ?_⟩; have e10 := poff ha (t := 10) rfl rfl; exact value_ (v := .int .i64 (qi : Int)) (by rfl) rfl (by clear HI ha; go_simp) (hK.out _ _ ⟨p0_, va_, vc_, vd_, upk ha 2 hb rfl rfl, HI.low 2 (by decide)⟩)) ?_
                        refine steps_cons (by rintro b a w' ⟨p0_, va_, vc_, vd_, ha, HI⟩ hb hon hoff; refine ⟨_, rfl, fun K hK => ?_⟩; have e104 := pon ha 1 (hon 1 rfl) rfl rfl rfl; have e105 := pon ha 2 (hon 2 rfl) rfl rfl rfl; exact value_ (v := .slice (some ⟨g, 0, none⟩) qi cm) (by rfl) rfl (by clear HI ha; go_simp; try (intro h__; exfalso; omega)) (hK.out _ _ ⟨p0_, va_, vc_, vd_, upk ha 3 hb rfl rfl, HI.low 3 (by decide)⟩)) ?_
                        refine steps_cons (by rintro b a w' ⟨p0_, va_, vc_, vd_, ha, HI⟩ hb hon hoff; refine ⟨_, rfl, fun K hK => ?_⟩; have e103 := pon ha 0 (hon 0 rfl) rfl rfl rfl; have e106 := pon ha 3 (hon 3 rfl) rfl rfl rfl; obtain ⟨v', w3, p1, p2, p3, p5⟩ := run_wapp 38 (HI.r0 (hon 0 rfl) hb) (HT1.out.below HI.bel) (by have h__ := HMSL.out; first | omega | (simp; omega)) HI.bel.size; exact value_ (w1 := w3) (v := v') (by rfl) rfl (exec_app rfl (by simp [Act.eval, e103]) (by simp [Act.eval, e106]) p1) (hK.out _ _ ⟨p0_, v', vc_, vd_, by rw [ha]; exact putSel_upk 4 hb rfl rfl rfl, HI.s4 (hon 0 rfl) hb (hoff 9 rfl) (hoff 10 rfl) p2 p3⟩)) ?_
                        refine steps_cons (by rintro b a w' ⟨p0_, va_, vc_, vd_, ha, HI⟩ hb hon hoff; refine ⟨_, rfl, fun K hK => ?_⟩; have e7 := poffb ha (t := 7) (hoff 10 rfl) rfl rfl; exact value_ (v := .slice (some ⟨g, 0, none⟩) ms.length cm) (by rfl) rfl (by clear HI ha; go_simp) (hK.out _ _ ⟨p0_, va_, vc_, vd_, upk ha 5 hb rfl rfl, HI.low 5 (by decide)⟩)) ?_
                        refine steps_cons (by rintro b a w' ⟨p0_, va_, vc_, vd_, ha, HI⟩ hb hon hoff; refine ⟨_, rfl, fun K hK => ?_⟩; have e10 := poff ha (t := 10) rfl rfl; exact value_ (v := .int .i64 (qi : Int)) (by rfl) rfl (by clear HI ha; go_simp) (hK.out _ _ ⟨p0_, va_, vc_, vd_, upk ha 6 hb rfl rfl, HI.low 6 (by decide)⟩)) ?_
                        refine steps_cons (by rintro b a w' ⟨p0_, va_, vc_, vd_, ha, HI⟩ hb hon hoff; refine ⟨_, rfl, fun K hK => ?_⟩; have e109 := pon ha 6 (hon 6 rfl) rfl rfl rfl; exact value_ (v := .int .i64 (q1 : Int)) (by rfl) rfl (by clear HI ha; go_simp; try omega) (hK.out _ _ ⟨p0_, va_, vc_, vd_, upk ha 7 hb rfl rfl, HI.low 7 (by decide)⟩)) ?_
                        refine steps_cons (by rintro b a w' ⟨p0_, va_, vc_, vd_, ha, HI⟩ hb hon hoff; refine ⟨_, rfl, fun K hK => ?_⟩; have e108 := pon ha 5 (hon 5 rfl) rfl rfl rfl; have e110 := pon ha 7 (hon 7 rfl) rfl rfl rfl; exact value_ (v := .slice (some ⟨g, 0, none⟩) (ms.length - q1) (cm - q1)) (by rfl) rfl (by clear HI ha; go_simp; try (intro h__; exfalso; omega)) (hK.out _ _ ⟨p0_, va_, vc_, vd_, upk ha 8 hb rfl rfl, HI.low 8 (by decide)⟩)) ?_
                        refine steps_cons (by rintro b a w' ⟨p0_, va_, vc_, vd_, ha, HI⟩ hb hon hoff; refine ⟨_, rfl, fun K hK => ?_⟩; have e107 := pon ha 4 (hon 4 rfl) rfl rfl rfl; have e111 := pon ha 8 (hon 8 rfl) rfl rfl rfl; obtain ⟨v', w3, p1, p2, p3, p5⟩ := run_wapp 38 (HI.r4 (hon 4 rfl) hb) (HT2.out.below HI.bel) (by have h__ := HMSL.out; first | omega | (simp; omega)) HI.bel.size; exact value_ (w1 := w3) (v := v') (by rfl) rfl (exec_app rfl (by simp [Act.eval, e107]) (by simp [Act.eval, e111]) p1) (hK.out _ _ ⟨p0_, va_, v', vd_, by rw [ha]; exact putSel_upk 9 hb rfl rfl rfl, HI.s9 (hon 4 rfl) hb (hoff 10 rfl) p2 p3⟩)) ?_
                        refine steps_cons (by rintro b a w' ⟨p0_, va_, vc_, vd_, ha, HI⟩ hb hon hoff; refine ⟨_, rfl, fun K hK => ?_⟩; have e112 := pon ha 9 (hon 9 rfl) rfl rfl rfl; exact value_ (w1 := w') (v := vc_) (by rfl) rfl (by clear HI ha; go_simp) (hK.out _ _ ⟨p0_, va_, vc_, vc_, by rw [ha]; exact putSel_upk 10 hb rfl rfl rfl, HI.s10⟩)) ?_
                        exact steps_nil
                      · rintro b a w' hall ⟨p0_, va_, vc_, vd_, ha, HI⟩
                        have hb0_ := hall 0 rfl; have hb1_ := hall 1 rfl; have hb2_ := hall 2 rfl; have hb3_ := hall 3 rfl; have hb4_ := hall 4 rfl; have hb5_ := hall 5 rfl; have hb6_ := hall 6 rfl; have hb7_ := hall 7 rfl
                        have hb8_ := hall 8 rfl; have hb9_ := hall 9 rfl; have hb10_ := hall 10 rfl
                        subst ha
                        simp only [putSel, hb0_, hb1_, hb2_, hb3_, hb4_, hb5_, hb6_, hb7_, hb8_, hb9_, hb10_, if_true, Act.put, List.setIfInBounds_toArray, List.set_cons_zero, List.set_cons_succ]
                        have hr := HI.r9 hb9_
                        rw [← HI.r10 hb10_] at hr
                        have hB := (below_then (below_drew (Below.refl _ wz)) (Nat.le_refl _) HI.bel : Below wz.heap.size wz w')
                        clear hall HI hb0_ hb1_ hb2_ hb3_ hb4_ hb5_ hb6_ hb7_ hb8_ hb9_ hb10_
                        refine ‹∀ (a' : Act) (w' : World), Met _ a' w' → _› _ _ ?_
                        have HN : Side (Pl w w' gh bl bm (i + 1) k vd_ (ms.take qi ++ ms.drop q1)) := ⟨⟨HS6.out.below' hB, GRow.lower hr HS6.out.below.size⟩⟩
                        clear hr hB HT1 HT2 HS6 HR6
                        go_meet
                        case rel => exact ⟨_, by have h__ := HMSL.out; simp; omega, HN⟩
                    · have HT2 : Side (Sp wz.drew (.slice (some ⟨g, q1 * 3, none⟩) (ms.length - q1) (cm - q1)) (ms.drop q1)) := ⟨Sp.below (Sp.drop HR6.out q1 _ _ rfl) (below_drew (Below.refl _ wz))⟩
                      refine start_ (n := 11) (S := fun w' => True) (ds := []) #[false, false, false, false, false, false, false, false, false, false, false] (by kernel_rfl) rfl rfl trivial (fun _ => ?_)
                      refine inv_at (B := [0, 0, 0, 6, 15, 0, 0, 64, 224, 511, 1023]) [0, 1, 2, 3, 4, 5, 6, 7, 8, 9, 10] (fun a0_ b a w' => ∃ p0_ va_ vc_ vd_, a = putSel a0_ b [(0, 103, .slice (some ⟨p0_, 0, none⟩) 0 0), (1, 104, .slice (some ⟨g, 0, none⟩) ms.length cm), (2, 105, .int .i64 (qi : Int)), (3, 106, .slice (some ⟨g, 0, none⟩) qi cm), (4, 107, va_), (5, 108, .slice (some ⟨g, 0, none⟩) ms.length cm), (6, 109, .int .i64 (qi : Int)), (7, 110, .int .i64 (q1 : Int)), (8, 111, .slice (some ⟨g, q1 * 3, none⟩) (ms.length - q1) (cm - q1)), (9, 112, vc_), (10, 7, vd_)] ∧ Bq wz.drew (ms.take qi) (ms.drop q1) b p0_ va_ vc_ vd_ w') rfl (by kernel_rfl) (by kernel_rfl) (by kernel_rfl) ?_ ?_ ?_
                      · exact ⟨0, .bool false, .bool false, .bool false, by simp only [putSel, Bool.false_eq_true, if_false], Bq.start⟩
                      · refine steps_cons (by rintro b a w' ⟨p0_, va_, vc_, vd_, ha, HI⟩ hb hon hoff; refine ⟨_, rfl, fun K hK => ?_⟩; exact value_ (w1 := w'.alloc (.cells #[] 42)) (v := .slice (some ⟨w'.heap.size, 0, none⟩) 0 0) (by rfl) rfl (by clear HI ha; go_simp) (hK.out _ _ ⟨w'.heap.size, va_, vc_, vd_, by rw [ha]; exact putSel_upk 0 hb rfl rfl rfl, HI.s0 (hoff 4 rfl) (hoff 9 rfl) (hoff 10 rfl)⟩)) ?_
                        refine steps_cons (by rintro b a w' ⟨p0_, va_, vc_, vd_, ha, HI⟩ hb hon hoff; refine ⟨_, rfl, fun K hK => ?_⟩; have e7 := poffb ha (t := 7) (hoff 10 rfl) rfl rfl; exact value_ (v := .slice (some ⟨g, 0, none⟩) ms.length cm) (by rfl) rfl (by clear HI ha; go_simp) (hK.out _ _ ⟨p0_, va_, vc_, vd_, upk ha 1 hb rfl rfl, HI.low 1 (by decide)⟩)) ?_
                        refine steps_cons (by rintro b a w' ⟨p0_, va_, vc_, vd_, ha, HI⟩ hb hon hoff; refine ⟨_, rfl, fun K hK => ?_⟩; have e10 := poff ha (t := 10) rfl rfl; exact value_ (v := .int .i64 (qi : Int)) (by rfl) rfl (by clear HI ha; go_simp) (hK.out _ _ ⟨p0_, va_, vc_, vd_, upk ha 2 hb rfl rfl, HI.low 2 (by decide)⟩)) ?_
                        refine steps_cons (by rintro b a w' ⟨p0_, va_, vc_, vd_, ha, HI⟩ hb hon hoff; refine ⟨_, rfl, fun K hK => ?_⟩; have e104 := pon ha 1 (hon 1 rfl) rfl rfl rfl; have e105 := pon ha 2 (hon 2 rfl) rfl rfl rfl; exact value_ (v := .slice (some ⟨g, 0, none⟩) qi cm) (by rfl) rfl (by clear HI ha; go_simp; try (intro h__; exfalso; omega)) (hK.out _ _ ⟨p0_, va_, vc_, vd_, upk ha 3 hb rfl rfl, HI.low 3 (by decide)⟩)) ?_
                        refine steps_cons (by rintro b a w' ⟨p0_, va_, vc_, vd_, ha, HI⟩ hb hon hoff; refine ⟨_, rfl, fun K hK => ?_⟩; have e103 := pon ha 0 (hon 0 rfl) rfl rfl rfl; have e106 := pon ha 3 (hon 3 rfl) rfl rfl rfl; obtain ⟨v', w3, p1, p2, p3, p5⟩ := run_wapp 38 (HI.r0 (hon 0 rfl) hb) (HT1.out.below HI.bel) (by have h__ := HMSL.out; first | omega | (simp; omega)) HI.bel.size; exact value_ (w1 := w3) (v := v') (by rfl) rfl (exec_app rfl (by simp [Act.eval, e103]) (by simp [Act.eval, e106]) p1) (hK.out _ _ ⟨p0_, v', vc_, vd_, by rw [ha]; exact putSel_upk 4 hb rfl rfl rfl, HI.s4 (hon 0 rfl) hb (hoff 9 rfl) (hoff 10 rfl) p2 p3⟩)) ?_
                        refine steps_cons (by rintro b a w' ⟨p0_, va_, vc_, vd_, ha, HI⟩ hb hon hoff; refine ⟨_, rfl, fun K hK => ?_⟩; have e7 := poffb ha (t := 7) (hoff 10 rfl) rfl rfl; exact value_ (v := .slice (some ⟨g, 0, none⟩) ms.length cm) (by rfl) rfl (by clear HI ha; go_simp) (hK.out _ _ ⟨p0_, va_, vc_, vd_, upk ha 5 hb rfl rfl, HI.low 5 (by decide)⟩)) ?_
                        refine steps_cons (by rintro b a w' ⟨p0_, va_, vc_, vd_, ha, HI⟩ hb hon hoff; refine ⟨_, rfl, fun K hK => ?_⟩; have e10 := poff ha (t := 10) rfl rfl; exact value_ (v := .int .i64 (qi : Int)) (by rfl) rfl (by clear HI ha; go_simp) (hK.out _ _ ⟨p0_, va_, vc_, vd_, upk ha 6 hb rfl rfl, HI.low 6 (by decide)⟩)) ?_
                        refine steps_cons (by rintro b a w' ⟨p0_, va_, vc_, vd_, ha, HI⟩ hb hon hoff; refine ⟨_, rfl, fun K hK => ?_⟩; have e109 := pon ha 6 (hon 6 rfl) rfl rfl rfl; exact value_ (v := .int .i64 (q1 : Int)) (by rfl) rfl (by clear HI ha; go_simp; try omega) (hK.out _ _ ⟨p0_, va_, vc_, vd_, upk ha 7 hb rfl rfl, HI.low 7 (by decide)⟩)) ?_
                        refine steps_cons (by rintro b a w' ⟨p0_, va_, vc_, vd_, ha, HI⟩ hb hon hoff; refine ⟨_, rfl, fun K hK => ?_⟩; have e108 := pon ha 5 (hon 5 rfl) rfl rfl rfl; have e110 := pon ha 7 (hon 7 rfl) rfl rfl rfl; exact value_ (v := .slice (some ⟨g, q1 * 3, none⟩) (ms.length - q1) (cm - q1)) (by rfl) rfl (by clear HI ha; go_simp; try (intro h__; exfalso; omega)) (hK.out _ _ ⟨p0_, va_, vc_, vd_, upk ha 8 hb rfl rfl, HI.low 8 (by decide)⟩)) ?_
                        refine steps_cons (by rintro b a w' ⟨p0_, va_, vc_, vd_, ha, HI⟩ hb hon hoff; refine ⟨_, rfl, fun K hK => ?_⟩; have e107 := pon ha 4 (hon 4 rfl) rfl rfl rfl; have e111 := pon ha 8 (hon 8 rfl) rfl rfl rfl; obtain ⟨v', w3, p1, p2, p3, p5⟩ := run_wapp 38 (HI.r4 (hon 4 rfl) hb) (HT2.out.below HI.bel) (by have h__ := HMSL.out; first | omega | (simp; omega)) HI.bel.size; exact value_ (w1 := w3) (v := v') (by rfl) rfl (exec_app rfl (by simp [Act.eval, e107]) (by simp [Act.eval, e111]) p1) (hK.out _ _ ⟨p0_, va_, v', vd_, by rw [ha]; exact putSel_upk 9 hb rfl rfl rfl, HI.s9 (hon 4 rfl) hb (hoff 10 rfl) p2 p3⟩)) ?_
                        refine steps_cons (by rintro b a w' ⟨p0_, va_, vc_, vd_, ha, HI⟩ hb hon hoff; refine ⟨_, rfl, fun K hK => ?_⟩; have e112 := pon ha 9 (hon 9 rfl) rfl rfl rfl; exact value_ (w1 := w') (v := vc_) (by rfl) rfl (by clear HI ha; go_simp) (hK.out _ _ ⟨p0_, va_, vc_, vc_, by rw [ha]; exact putSel_upk 10 hb rfl rfl rfl, HI.s10⟩)) ?_
                        exact steps_nil
                      · rintro b a w' hall ⟨p0_, va_, vc_, vd_, ha, HI⟩
                        have hb0_ := hall 0 rfl; have hb1_ := hall 1 rfl; have hb2_ := hall 2 rfl; have hb3_ := hall 3 rfl; have hb4_ := hall 4 rfl; have hb5_ := hall 5 rfl; have hb6_ := hall 6 rfl; have hb7_ := hall 7 rfl
                        have hb8_ := hall 8 rfl; have hb9_ := hall 9 rfl; have hb10_ := hall 10 rfl
                        subst ha
                        simp only [putSel, hb0_, hb1_, hb2_, hb3_, hb4_, hb5_, hb6_, hb7_, hb8_, hb9_, hb10_, if_true, Act.put, List.setIfInBounds_toArray, List.set_cons_zero, List.set_cons_succ]
                        have hr := HI.r9 hb9_
                        rw [← HI.r10 hb10_] at hr
                        have hB := (below_then (below_drew (Below.refl _ wz)) (Nat.le_refl _) HI.bel : Below wz.heap.size wz w')
                        clear hall HI hb0_ hb1_ hb2_ hb3_ hb4_ hb5_ hb6_ hb7_ hb8_ hb9_ hb10_
                        refine ‹∀ (a' : Act) (w' : World), Met _ a' w' → _› _ _ ?_
                        have HN : Side (Pl w w' gh bl bm (i + 1) k vd_ (ms.take qi ++ ms.drop q1)) := ⟨⟨HS6.out.below' hB, GRow.lower hr HS6.out.below.size⟩⟩
                        clear hr hB HT1 HT2 HS6 HR6
                        go_meet
                        case rel => exact ⟨_, by have h__ := HMSL.out; simp; omega, HN⟩
                  · have g0 : decide (q ≥ 0) = false := decide_eq_false hq0
                    have hdr := HF.out.keep (by omega)
                    go_wp2_with fail
                    refine (DropS HP3.out.st HIL.out di HWI.out false (by rw [HF.out.has]; exact g0) ms hdr).mono ?_
                    rintro ee w5 ⟨rfl, hs5, hc5⟩
                    have HP5 : Side (Pl w w5 gh bl bm (i + 1) k (.slice am ms.length cm) ms) := ⟨⟨hs5, HP3.out.row_keeps hc5⟩⟩
                    clear hs5 hc5 HP3 HX3 f1 f2 f3 hpl HCV HF hdr
                    go_wp2
                    go_meet
                    case rel => exact ⟨ms, by omega, HP5⟩
                · have d4 : (dd == 4) = false := by simpa using h4
                  by_cases h5 : dd = 5
                  · subst h5
                    go_wp2_with fail
                    refine (CanS HP3.out.st de dp c HCV.out).mono ?_
                    rintro ee w5 ⟨rfl, hs5, hb5⟩
                    have HP5 : Side (Pl w w5 gh bl bm (i + 1) k (.slice am ms.length cm) ms) := ⟨⟨hs5.up (Nat.le_succ _), HP3.out.row.below hb5⟩⟩
                    clear hs5 hb5 HP3 HX3 f1 f2 f3 hpl HCV HF
                    go_wp2
                    go_meet
                    case rel => exact ⟨ms, by omega, HP5⟩
                  · have d5 : (dd == 5) = false := by simpa using h5
                    have HP5 : Side (Pl w w4 gh bl bm (i + 1) k (.slice am ms.length cm) ms) := ⟨⟨HP3.out.st.up (Nat.le_succ _), HP3.out.row⟩⟩
                    clear HP3 HX3 f1 f2 f3 hpl HCV HF h4 h5
                    go_wp2
                    go_meet
                    case rel => exact ⟨ms, by omega, HP5⟩
            case rest =>
              obtain ⟨ms', hml', HP6⟩ := hcut
              clear HF HP3 HX3 HCV hpl hq
              obtain ⟨am', cm', hv7, hcm', -⟩ := HP6.out.row.shape E3
              subst hv7
              have HL7 : Side (ll ms' ≤ 16777216) := ⟨HP6.out.st.ls.g.l⟩
              have HMAY : Side (∀ m ∈ ms', may m.2.1 m.2.2) := ⟨HP6.out.st.ls.g.may⟩
              have HLN : Side (ms'.length ≤ 1000) := ⟨by omega⟩
              obtain ⟨s, hs⟩ : ∃ s, sOf ms' = s := ⟨_, rfl⟩
              obtain ⟨L, hL⟩ : ∃ L : Int, (ll ms' : Int) = L := ⟨_, rfl⟩
              have HLR : Side (rl ms' = L) := ⟨by unfold rl; rw [if_pos HL7.out]; exact hL⟩
              have HSS := Side.mk hs
              have HLL := Side.mk hL
              clear hs hL
              obtain ⟨s0, s1⟩ := s
              rename_i wc6
              go_wp2_with (first
                | (go_at_call 16; (with_reducible refine (LenS HP6.out.st _ rfl).mono ?_); rintro ee x1 ⟨rfl, hx1, hy1⟩)
                | (go_at_call 11; (with_reducible refine (SumS hx1 (s0, s1) HSS.out).mono ?_); rintro ee x2 ⟨rfl, hx2, hy2⟩)
                | (go_at_call 17; (with_reducible refine (RefSum ((HP6.out.row.below hy1).below hy2) HMAY.out HLN.out HL7.out (s0, s1) HSS.out).mono ?_); rintro ee x3 ⟨rfl, hy3⟩)
                | (go_at_call 14; (with_reducible refine (LcmS (hx2.below' hy3) L HLL.out).mono ?_); rintro ee x4 ⟨rfl, hx4, hy4⟩)
                | (go_at_call 18; (with_reducible refine (RefLcm ((((HP6.out.row.below hy1).below hy2).below hy3).below hy4) HMAY.out HLN.out L HLR.out).mono ?_); rintro ee x5 ⟨rfl, hy5⟩))
              have HP7 : Side (Pl w x5 gh bl bm (i + 1) k (.slice am' ms'.length cm') ms') := ⟨⟨hx4.below' hy5, ((((HP6.out.row.below hy1).below hy2).below hy3).below hy4).below hy5⟩⟩
              clear hx1 hx2 hx4 hy1 hy2 hy3 hy4 hy5 HP6
              go_roundw
              case rel => exact ⟨i + 1, ms', by simp, by omega, hml', HP7⟩
              case measure => simp [intOf]; omega
      · have hii : ¬ (i : Int) < len := by omega
        go_wp2
        go_ret
        exact ⟨rfl, HP.out.st.below⟩
end Go.Proofs.Ytfgmenndmcjggaa.LPlays
