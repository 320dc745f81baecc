/- Package wrap: why shares cannot be laid. No condition. -/
import Derived.Test.YtkgafogkeaaniaaWlAzm
set_option linter.unusedVariables false
set_option linter.unusedSimpArgs false
namespace Go.Proofs.Ytkgafogkeaaniaa.WlB
open Go.RowKit Go.Proofs.Ytkgafogkeaaniaa.Kit Go.Proofs.Ytkgafogkeaaniaa.Kit3 Go.Proofs.Ytkgafogkeaaniaa.Kit4 Go.Proofs.Ytkgafogkeaaniaa.Kit5 Go.Proofs.Ytkgafogkeaaniaa.WlA
open Go.Proofs.Ytkgafogkeaaniaa.PW
open Go.Proofs.YtkgafogkeaaniaaW.PrintLast
open Go.Proofs.YtkgafogkeaaniaaW.PrintWords hiding below_then below_alloc below_drew
theorem rd_drop {l : List S49} {j : Nat} (hj : j < l.length) : l.drop j = rd_T49 l (j : Int) :: l.drop (j + 1) := by
  rw [List.drop_eq_getElem_cons hj]
  congr 1
  unfold rd_T49
  rw [Int.toNat_natCast, List.getD_eq_getElem?_getD, List.getElem?_eq_getElem hj]
  rfl
set_option maxHeartbeats 40000000 in
set_option maxRecDepth 100000 in
theorem may_at (k : Nat) (A : Option Addr) (c : Nat) (l : List S49) (fr tt co r : Int) (w : World) (hr : Kd.C k49 w A l.length l) (hc : l.length ≤ c) (h : mayF k l fr tt co = some r) :
    Calls Try.prog 23 #[.slice A l.length c, .int .i64 fr, .int .i64 tt, .int .i64 co] w fun e w' => e = .returned (.int .i64 r) ∧ Below w.heap.size w w' := by
  unfold mayF at h
  have HR := Side.mk hr
  have hln : (l.length : Int) ≤ 9223372036854775807 := by have := hr.2.1; omega
  have HC := Side.mk hc
  clear hr hc
  by_cases h1 : fr ≥ tt
  · rw [if_pos h1] at h
    obtain rfl : (2 : Int) = r := Option.some.inj h
    clear h
    go_enter Try.func23, Try.ntmps23
    go_wp2
    go_ret
    exact ⟨rfl, Below.refl _ _⟩
  rw [if_neg h1] at h
  by_cases h2 : co < 1
  · rw [if_pos h2] at h
    obtain rfl : (2 : Int) = r := Option.some.inj h
    clear h
    go_enter Try.func23, Try.ntmps23
    go_wp2
    go_ret
    exact ⟨rfl, Below.refl _ _⟩
  rw [if_neg h2] at h
  by_cases h3 : co > 64
  · rw [if_pos h3] at h
    obtain rfl : (2 : Int) = r := Option.some.inj h
    clear h
    go_enter Try.func23, Try.ntmps23
    go_wp2
    go_ret
    exact ⟨rfl, Below.refl _ _⟩
  rw [if_neg h3] at h
  obtain ⟨⟨g0, g1, ge⟩, hg, h⟩ := Option.bind_eq_some_iff.1 h
  simp only at h
  by_cases hge : ge = 0
  rotate_left
  · rw [if_neg hge] at h; cases h
  rw [if_pos hge] at h
  subst hge
  obtain ⟨ok, hok, h⟩ := Option.bind_eq_some_iff.1 h
  have HG := Side.mk hg
  have HOK := Side.mk hok
  have HH := Side.mk h
  clear h hg hok
  go_enter Try.func23, Try.ntmps23
  go_upto_region 4 with (fail)
  have HS : Side ((w.alloc (.cells #[.int .i64 0] 54)).heap[w.heap.size]? = some (.cells #[.int .i64 0] 54 (0, 0))) := ⟨heap_alloc_new w _⟩
  have HB : Side (Below w.heap.size w (w.alloc (.cells #[.int .i64 0] 54))) := ⟨(Below.refl _ w).alloc (Nat.le_refl _) _⟩
  generalize w.alloc (.cells #[.int .i64 0] 54) = W1 at *
  obtain ⟨gs, hgs⟩ : ∃ gs, gs = w.heap.size := ⟨_, rfl⟩
  rw [← hgs] at HS ⊢
  clear hgs
  go_wp2_with fail
  refine (WholeQ _ _).out.mono ?_
  rintro e w2 ⟨rfl, hb2⟩
  have HS2 := Side.mk ((hb2.block gs (Array.getElem?_eq_some_iff.1 HS.out).1).trans HS.out)
  have HB2 := Side.mk (below_then HB.out HB.out.size hb2)
  clear hb2 HS HB
  go_wp2_with fail
  refine (WholeQ _ _).out.mono ?_
  rintro e w3 ⟨rfl, hb3⟩
  have HS3 := Side.mk ((hb3.block gs (Array.getElem?_eq_some_iff.1 HS2.out).1).trans HS2.out)
  have HB3 := Side.mk (below_then HB2.out HB2.out.size hb3)
  clear hb3 HS2 HB2
  go_wp2_with fail
  refine (SubQ HG.out HS3.out).mono ?_
  rintro e w4 ⟨rfl, hb4⟩
  have HS4 := Side.mk ((hb4.block gs (Array.getElem?_eq_some_iff.1 HS3.out).1).trans HS3.out)
  have HB4 := Side.mk (below_then HB3.out HB3.out.size hb4)
  clear hb4 HS3 HB3 HG
  go_upto_region 5 with (fail)
  have HX : Side ((w4.alloc (.cells #[.int .i64 g0, .int .i64 g1] 37)).heap[w4.heap.size]? = some (.cells #[.int .i64 g0, .int .i64 g1] 37 (0, 0))) := ⟨heap_alloc_new w4 _⟩
  have HS : Side ((w4.alloc (.cells #[.int .i64 g0, .int .i64 g1] 37)).heap[gs]? = some (.cells #[.int .i64 0] 54 (0, 0))) := ⟨(Below.heap_alloc w4 _ gs (Array.getElem?_eq_some_iff.1 HS4.out).1).trans HS4.out⟩
  have HB : Side (Below w.heap.size w (w4.alloc (.cells #[.int .i64 g0, .int .i64 g1] 37))) := ⟨HB4.out.alloc HB4.out.size _⟩
  clear HS4 HB4
  generalize w4.alloc (.cells #[.int .i64 g0, .int .i64 g1] 37) = W at *
  generalize w4.heap.size = gl at *
  have HRW : Side (∀ w', Below W.heap.size W w' → Kd.C k49 w' A l.length l) := ⟨fun w' hb => Kd.C_below (Kd.C_below HR.out HB.out) hb⟩
  go_wp2_with fail
  go_loopw [37] (fun v37 wr => ∃ j : Nat, v37 = .int .i64 (j : Int) ∧ j ≤ l.length ∧ Side (mayL k g0 g1 (l.drop j) = some ok ∧ Below W.heap.size W wr)) (fun v37 _ => (l.length - intOf v37).toNat)
  case atStart => exact ⟨0, rfl, Nat.zero_le _, ⟨HOK.out, Below.refl _ _⟩⟩
  case round =>
    clear HOK
    obtain ⟨j, rfl, hj, HI⟩ := hrel
    have hj0 : (0 : Int) ≤ j := by omega
    by_cases hlt : j < l.length
    · have hjj : (j : Int) < l.length := by omega
      have hj1 : (j : Int) + 1 ≤ 9223372036854775807 := by omega
      obtain ⟨ad, rfl, c0, c1, c2, c3⟩ := at_T49 (HRW.out wr HI.out.2) (j : Int) hj0 hjj
      have hm := HI.out.1
      rw [rd_drop hlt] at hm
      generalize rd_T49 l (j : Int) = x at *
      obtain ⟨x0, ⟨x1, x2⟩, x3⟩ := x
      simp only at c0 c1 c2 c3
      simp only [mayL] at hm
      obtain ⟨m, hm1, hm⟩ := Option.bind_eq_some_iff.1 hm
      rw [Int.toNat_natCast] at c0 c1 c2 c3
      have HM1 := Side.mk hm1
      have HM := Side.mk hm
      clear hm1 hm
      go_upto_region 8 with (fail)
      have BX : Side ((wr.alloc (.cells #[.int .i64 x0, .int .i64 x1, .int .i64 x2, .bool x3] 49)).heap[wr.heap.size]? = some (.cells #[.int .i64 x0, .int .i64 x1, .int .i64 x2, .bool x3] 49 (0, 0))) := ⟨heap_alloc_new wr _⟩
      have HB2 : Side (Below W.heap.size W (wr.alloc (.cells #[.int .i64 x0, .int .i64 x1, .int .i64 x2, .bool x3] 49))) := ⟨HI.out.2.alloc HI.out.2.size _⟩
      clear HI c0 c1 c2 c3
      generalize wr.alloc (.cells #[.int .i64 x0, .int .i64 x1, .int .i64 x2, .bool x3] 49) = wa at *
      obtain ⟨px, hpx⟩ : ∃ px, px = wr.heap.size := ⟨_, rfl⟩
      rw [← hpx] at BX ⊢
      clear hpx
      have hpl : px < wa.heap.size := (Array.getElem?_eq_some_iff.1 BX.out).1
      have b1 : wa.cell? ⟨px, 1, none⟩ = some (.int .i64 x1) := cell_of_row wa px 1 _ _ (0, 0) BX.out
      have b2 : wa.cell? ⟨px, 2, none⟩ = some (.int .i64 x2) := cell_of_row wa px 2 _ _ (0, 0) BX.out
      go_wp2_with fail
      refine (MayQ HM1.out _).out.mono ?_
      rintro e w5 ⟨rfl, hb5⟩
      have BX5 := Side.mk ((hb5.block px hpl).trans BX.out)
      have HB5 := Side.mk (below_then HB2.out HB2.out.size hb5)
      clear hb5 b1 b2 hpl BX HB2 HM1
      have hpl : px < w5.heap.size := (Array.getElem?_eq_some_iff.1 BX5.out).1
      have b1 : w5.cell? ⟨px, 1, none⟩ = some (.int .i64 x1) := cell_of_row w5 px 1 _ _ (0, 0) BX5.out
      have b2 : w5.cell? ⟨px, 2, none⟩ = some (.int .i64 x2) := cell_of_row w5 px 2 _ _ (0, 0) BX5.out
      have hgs : gs < w5.heap.size := bz HB5.out (Array.getElem?_eq_some_iff.1 HS.out).1
      have s0 : w5.cell? ⟨gs, 0, none⟩ = some (.int .i64 0) := ((bcell HB5.out).1 gs 0 (Array.getElem?_eq_some_iff.1 HS.out).1).trans (cell_of_row W gs 0 _ _ (0, 0) HS.out)
      have hgl : gl < w5.heap.size := bz HB5.out (Array.getElem?_eq_some_iff.1 HX.out).1
      have l0 : w5.cell? ⟨gl, 0, none⟩ = some (.int .i64 g0) := ((bcell HB5.out).1 gl 0 (Array.getElem?_eq_some_iff.1 HX.out).1).trans (cell_of_row W gl 0 _ _ (0, 0) HX.out)
      have l1 : w5.cell? ⟨gl, 1, none⟩ = some (.int .i64 g1) := ((bcell HB5.out).1 gl 1 (Array.getElem?_eq_some_iff.1 HX.out).1).trans (cell_of_row W gl 1 _ _ (0, 0) HX.out)
      have HBW : Side (Below w.heap.size w w5) := ⟨below_then HB.out HB.out.size HB5.out⟩
      have hm := HM.out
      cases m with
      | false =>
        simp only [if_neg (show ¬ (false = true) by decide)] at hm
        obtain rfl : false = ok := Option.some.inj hm
        have h2 := HH.out
        rw [if_neg (by decide)] at h2
        obtain rfl : (2 : Int) = r := Option.some.inj h2
        clear hm h2 HM HH
        go_wp2
        go_ret
        exact ⟨rfl, HBW.out⟩
      | true =>
        rw [if_pos rfl] at hm
        by_cases hneg : x1 < 0
        · rw [if_pos hneg] at hm
          obtain rfl : false = ok := Option.some.inj hm
          have h2 := HH.out
          rw [if_neg (by decide)] at h2
          obtain rfl : (2 : Int) = r := Option.some.inj h2
          clear hm h2 HM HH
          have n1 := decide_eq_true hneg
          go_wp2
          go_ret
          exact ⟨rfl, HBW.out⟩
        · rw [if_neg hneg] at hm
          have n1 := decide_eq_false hneg
          obtain ⟨cv, hcv, hm⟩ := Option.bind_eq_some_iff.1 hm
          have HCV := Side.mk hcv
          clear hcv
          by_cases hgt : cv > 0
          · rw [if_pos hgt] at hm
            obtain rfl : false = ok := Option.some.inj hm
            have h2 := HH.out
            rw [if_neg (by decide)] at h2
            obtain rfl : (2 : Int) = r := Option.some.inj h2
            clear hm h2 HM HH
            have n2 := decide_eq_true hgt
            go_wp2_with fail
            refine (CmpQ HCV.out _).out.mono ?_
            rintro e w6 ⟨rfl, hb6⟩
            go_wp2
            go_ret
            exact ⟨rfl, below_then HBW.out HBW.out.size hb6⟩
          · rw [if_neg hgt] at hm
            have HM2 := Side.mk hm
            clear hm HM
            have n2 := decide_eq_false hgt
            go_wp2_with fail
            refine (CmpQ HCV.out _).out.mono ?_
            rintro e w6 ⟨rfl, hb6⟩
            have HI2 : Side (mayL k g0 g1 (l.drop (j + 1)) = some ok ∧ Below W.heap.size W w6) := ⟨HM2.out, below_then HB5.out HB5.out.size hb6⟩
            clear hb6 HM2 HCV HB5 BX5 b1 b2 s0 l0 l1
            go_wp2
            go_roundw
            case rel => exact ⟨j + 1, by simp, by omega, HI2⟩
            case measure => simp [intOf]; omega
    · have hjj : ¬ (j : Int) < l.length := by omega
      obtain rfl : j = l.length := by omega
      have hm := HI.out.1
      rw [List.drop_length] at hm
      obtain rfl : true = ok := Option.some.inj hm
      have h2 := HH.out
      rw [if_pos rfl] at h2
      obtain ⟨⟨m0, m1, me⟩, hs, h2⟩ := Option.bind_eq_some_iff.1 h2
      simp only at h2
      by_cases hme : me = 0
      rotate_left
      · rw [if_neg hme] at h2; cases h2
      rw [if_pos hme] at h2
      subst hme
      obtain ⟨⟨a0, a1, ae⟩, hml, h2⟩ := Option.bind_eq_some_iff.1 h2
      simp only at h2
      by_cases hae : ae = 0
      rotate_left
      · rw [if_neg hae] at h2; cases h2
      rw [if_pos hae] at h2
      subst hae
      obtain ⟨cv, hcv, h2⟩ := Option.bind_eq_some_iff.1 h2
      have HMS := Side.mk hs
      have HML := Side.mk hml
      have HCV := Side.mk hcv
      have HR2 := Side.mk (Option.some.inj h2)
      have hbw := HI.out.2
      clear hm h2 hs hml hcv HH HI hj hlt
      have HBW := Side.mk hbw
      clear hbw
      go_wp2_with fail
      refine (share_Sum.calls k A c l m0 m1 0 _ (HRW.out _ HBW.out) HC.out HMS.out).mono ?_
      rintro e w5 ⟨rfl, hb5⟩
      have HB5 := Side.mk (below_then HBW.out HBW.out.size hb5)
      clear hb5 HBW HMS HRW
      go_upto_region 12 with (fail)
      have MX : Side ((w5.alloc (.cells #[.int .i64 m0, .int .i64 m1] 37)).heap[w5.heap.size]? = some (.cells #[.int .i64 m0, .int .i64 m1] 37 (0, 0))) := ⟨heap_alloc_new w5 _⟩
      have HB6 : Side (Below W.heap.size W (w5.alloc (.cells #[.int .i64 m0, .int .i64 m1] 37))) := ⟨HB5.out.alloc HB5.out.size _⟩
      clear HB5
      generalize w5.alloc (.cells #[.int .i64 m0, .int .i64 m1] 37) = wa at *
      generalize w5.heap.size = pm at *
      have hgl : gl < wa.heap.size := bz HB6.out (Array.getElem?_eq_some_iff.1 HX.out).1
      have l0 : wa.cell? ⟨gl, 0, none⟩ = some (.int .i64 g0) := ((bcell HB6.out).1 gl 0 (Array.getElem?_eq_some_iff.1 HX.out).1).trans (cell_of_row W gl 0 _ _ (0, 0) HX.out)
      have l1 : wa.cell? ⟨gl, 1, none⟩ = some (.int .i64 g1) := ((bcell HB6.out).1 gl 1 (Array.getElem?_eq_some_iff.1 HX.out).1).trans (cell_of_row W gl 1 _ _ (0, 0) HX.out)
      have HSA : Side (wa.heap[gs]? = some (.cells #[.int .i64 0] 54 (0, 0))) := ⟨(HB6.out.block gs (Array.getElem?_eq_some_iff.1 HS.out).1).trans HS.out⟩
      have DR : Side (∀ w', Below wa.drew.heap.size wa.drew w' → Below wa.heap.size wa w') := ⟨fun w' hb => below_then (below_drew (Below.refl _ wa)) (Nat.le_refl _) hb⟩
      have HSG : Side (∀ w', Below wa.drew.heap.size wa.drew w' → w'.heap[gs]? = some (.cells #[.int .i64 0] 54 (0, 0))) := ⟨fun w' hb => ((DR.out w' hb).block gs (Array.getElem?_eq_some_iff.1 HSA.out).1).trans HSA.out⟩
      go_cut [15] (fun v15 we => ∃ p : Nat, v15 = .pointer (some ⟨p, 0, none⟩) ∧ Side (Below wa.heap.size wa we ∧ Val we 37 p [.int .i64 a0, .int .i64 a1]))
      case first =>
        refine start_ (n := 10) (S := fun w' => True) (ds := []) #[false, false, false, false, false, false, false, false, false, false] (by kernel_rfl) rfl rfl trivial (fun _ => ?_)
        refine inv_at (B := [0, 0, 0, 4, 14, 30, 30, 127, 0, 511]) [0, 1, 2, 3, 4, 5, 6, 7, 8, 9] (fun a0_ b a w' => ∃ p_, a = putSel a0_ b [(0, 71, .pointer (some ⟨gs, 0, none⟩)), (1, 72, .agg #[.int .i64 g0, .int .i64 g1]), (2, 73, .int .i64 co), (3, 74, .agg #[.int .i64 co, .int .i64 1]), (4, 75, .tuple #[.agg #[.int .i64 a0, .int .i64 a1], .int .i64 0]), (5, 76, .agg #[.int .i64 a0, .int .i64 a1]), (6, 77, .int .i64 0), (7, 78, .agg #[.int .i64 a0, .int .i64 a1]), (8, 15, .pointer (some ⟨p_, 0, none⟩))] ∧ TB wa.drew 37 2 p_ 0 ([.int .i64 a0, .int .i64 a1]) [] 8 1000 9 1001 b w') rfl (by kernel_rfl) (by kernel_rfl) (by kernel_rfl) ?_ ?_ ?_
        · exact ⟨0, by simp only [putSel, Bool.false_eq_true, if_false], TB.start⟩
        · refine steps_cons (by rintro b a w' ⟨p_, ha, HI⟩ hb hon hoff; refine ⟨_, rfl, fun K hK => ?_⟩; have e9 := poff ha (t := 9) rfl rfl; exact value_ (v := .pointer (some ⟨gs, 0, none⟩)) (by rfl) rfl (by clear HI ha; go_simp) (hK.out _ _ ⟨p_, upk ha 0 hb rfl rfl, HI.low (Below.refl _ _) 0 (by decide)⟩)) ?_
          refine steps_cons (by rintro b a w' ⟨p_, ha, HI⟩ hb hon hoff; refine ⟨_, rfl, fun K hK => ?_⟩; have e10 := poff ha (t := 10) rfl rfl; have k0_ := bc HI.bel hgl l0; have k1_ := bc HI.bel hgl l1; have kz_ := bz HI.bel hgl; exact value_ (v := .agg #[.int .i64 g0, .int .i64 g1]) (by rfl) rfl (by clear HI ha; go_simp) (hK.out _ _ ⟨p_, upk ha 1 hb rfl rfl, HI.low (Below.refl _ _) 1 (by decide)⟩)) ?_
          refine steps_cons (by rintro b a w' ⟨p_, ha, HI⟩ hb hon hoff; refine ⟨_, rfl, fun K hK => ?_⟩; have e3 := poff ha (t := 3) rfl rfl; exact value_ (v := .int .i64 co) (by rfl) rfl (by clear HI ha; go_simp) (hK.out _ _ ⟨p_, upk ha 2 hb rfl rfl, HI.low (Below.refl _ _) 2 (by decide)⟩)) ?_
          refine steps_cons (by rintro b a w' ⟨p_, ha, HI⟩ hb hon hoff; refine ⟨_, rfl, fun K hK => ?_⟩; have e73 := pon ha 2 (hon 2 rfl) rfl rfl rfl; refine goes_ Try.func24 (by kernel_rfl) rfl #[.int .i64 co] (by rfl) rfl rfl (by simp [Act.eval, e73]) ((WholeQ _ _).out.mono ?_); rintro e_ w'' ⟨rfl, hbc⟩; exact ⟨_, rfl, hK.out _ _ ⟨p_, upk ha 3 hb rfl rfl, HI.low hbc 3 (by decide)⟩⟩) ?_
          refine steps_cons (by rintro b a w' ⟨p_, ha, HI⟩ hb hon hoff; refine ⟨_, rfl, fun K hK => ?_⟩; have e72 := pon ha 1 (hon 1 rfl) rfl rfl rfl; have e74 := pon ha 3 (hon 3 rfl) rfl rfl rfl; refine goes_ Try.func35 (by kernel_rfl) rfl #[.agg #[.int .i64 g0, .int .i64 g1], .agg #[.int .i64 co, .int .i64 1]] (by rfl) rfl rfl (by simp [Act.eval, e72, e74]) ((MulQ HML.out _).out.mono ?_); rintro e_ w'' ⟨rfl, hbc⟩; exact ⟨_, rfl, hK.out _ _ ⟨p_, upk ha 4 hb rfl rfl, HI.low hbc 4 (by decide)⟩⟩) ?_
          refine steps_cons (by rintro b a w' ⟨p_, ha, HI⟩ hb hon hoff; refine ⟨_, rfl, fun K hK => ?_⟩; have e75 := pon ha 4 (hon 4 rfl) rfl rfl rfl; exact value_ (v := .agg #[.int .i64 a0, .int .i64 a1]) (by rfl) rfl (by clear HI ha; go_simp) (hK.out _ _ ⟨p_, upk ha 5 hb rfl rfl, HI.low (Below.refl _ _) 5 (by decide)⟩)) ?_
          refine steps_cons (by rintro b a w' ⟨p_, ha, HI⟩ hb hon hoff; refine ⟨_, rfl, fun K hK => ?_⟩; have e75 := pon ha 4 (hon 4 rfl) rfl rfl rfl; exact value_ (v := .int .i64 0) (by rfl) rfl (by clear HI ha; go_simp) (hK.out _ _ ⟨p_, upk ha 6 hb rfl rfl, HI.low (Below.refl _ _) 6 (by decide)⟩)) ?_
          refine steps_cons (by rintro b a w' ⟨p_, ha, HI⟩ hb hon hoff; refine ⟨_, rfl, fun K hK => ?_⟩; have e71 := pon ha 0 (hon 0 rfl) rfl rfl rfl; have e76 := pon ha 5 (hon 5 rfl) rfl rfl rfl; have e77 := pon ha 6 (hon 6 rfl) rfl rfl rfl; refine goes_ Try.func34 (by kernel_rfl) rfl #[.pointer (some ⟨gs, 0, none⟩), .agg #[.int .i64 a0, .int .i64 a1], .int .i64 0] (by rfl) rfl rfl (by simp [Act.eval, e71, e76, e77]) ((KeepQ a0 a1 (HSG.out _ HI.bel)).mono ?_); rintro e_ w'' ⟨rfl, hbc⟩; exact ⟨_, rfl, hK.out _ _ ⟨p_, upk ha 7 hb rfl rfl, HI.low hbc 7 (by decide)⟩⟩) ?_
          refine steps_cons (by rintro b a w' ⟨p_, ha, HI⟩ hb hon hoff; refine ⟨_, rfl, fun K hK => ?_⟩; exact value_ (w1 := w'.alloc (.cells #[.int .i64 0, .int .i64 0] 37)) (v := .pointer (some ⟨w'.heap.size, 0, none⟩)) (by rfl) rfl (by clear HI ha; go_simp) (hK.out _ _ ⟨w'.heap.size, by rw [ha]; exact putSel_upk 8 hb rfl rfl rfl, HI.al1 #[.int .i64 0, .int .i64 0] rfl (hoff 9 rfl) (by decide)⟩)) ?_
          refine steps_cons (by rintro b a w' ⟨p_, ha, HI⟩ hb hon hoff; refine ⟨_, rfl, fun K hK => ?_⟩; have e15 := pon ha 8 (hon 8 rfl) rfl rfl rfl; have e78 := pon ha 7 (hon 7 rfl) rfl rfl rfl; have hst := run_own (P := Try.prog) (c := [.int .i64 a0, .int .i64 a1]) (HI.o1 (hon 8 rfl)) (.agg #[.int .i64 a0, .int .i64 a1]) rfl (by kernel_rfl) rfl (by intro q hq; simp at hq; rcases hq with rfl | rfl | rfl | rfl | rfl <;> rfl); exact skip_ (w1 := w'.setCells p_ 0 ([.int .i64 a0, .int .i64 a1])) (by rfl) rfl (by unfold execOp; simp [Act.eval, e15, e78, hst]) (hK.out _ _ ⟨p_, ups ha rfl, HI.st1 rfl (hon 8 rfl) (by decide)⟩)) ?_
          exact steps_nil
        · rintro b a w' hall ⟨p_, ha, HI⟩
          have hb0_ := hall 0 rfl; have hb1_ := hall 1 rfl; have hb2_ := hall 2 rfl; have hb3_ := hall 3 rfl; have hb4_ := hall 4 rfl; have hb5_ := hall 5 rfl; have hb6_ := hall 6 rfl; have hb7_ := hall 7 rfl
          have hb8_ := hall 8 rfl; have hb9_ := hall 9 rfl
          subst ha
          simp only [putSel, hb0_, hb1_, hb2_, hb3_, hb4_, hb5_, hb6_, hb7_, hb8_, if_true, Act.put, List.setIfInBounds_toArray, List.set_cons_zero, List.set_cons_succ]
          have HBX := Side.mk HI.bel
          have HVX := Side.mk (HI.v1 hb9_)
          clear hall HI hb0_ hb1_ hb2_ hb3_ hb4_ hb5_ hb6_ hb7_ hb8_ hb9_
          refine ‹∀ (a' : Act) (w' : World), Met _ a' w' → _› _ _ ?_
          go_meet
          case rel => exact ⟨_, rfl, ⟨DR.out _ HBX.out, HVX.out⟩⟩
      case rest =>
        obtain ⟨pa, rfl, HCUT⟩ := hcut
        have HBF : Side (Below w.heap.size w wc) := ⟨below_then HB.out HB.out.size (below_then HB6.out HB6.out.size HCUT.out.1)⟩
        have s0 : wc.cell? ⟨gs, 0, none⟩ = some (.int .i64 0) := ((bcell HCUT.out.1).1 gs 0 (Array.getElem?_eq_some_iff.1 HSA.out).1).trans (cell_of_row wa gs 0 _ _ (0, 0) HSA.out)
        have hgs := bz HCUT.out.1 (Array.getElem?_eq_some_iff.1 HSA.out).1
        have c0 : wc.cell? ⟨pm, 0, none⟩ = some (.int .i64 m0) := ((bcell HCUT.out.1).1 pm 0 (Array.getElem?_eq_some_iff.1 MX.out).1).trans (cell_of_row wa pm 0 _ _ (0, 0) MX.out)
        have c1 : wc.cell? ⟨pm, 1, none⟩ = some (.int .i64 m1) := ((bcell HCUT.out.1).1 pm 1 (Array.getElem?_eq_some_iff.1 MX.out).1).trans (cell_of_row wa pm 1 _ _ (0, 0) MX.out)
        have hpm := bz HCUT.out.1 (Array.getElem?_eq_some_iff.1 MX.out).1
        have d0 := HCUT.out.2.cell 0 _ rfl
        have d1 := HCUT.out.2.cell 1 _ rfl
        have hpa := HCUT.out.2.lt
        clear HCUT HSA HSG DR MX HB6 l0 l1 hgl HML
        by_cases hgt : cv > 0
        · obtain rfl : 6 = r := by have := HR2.out; rw [if_pos hgt] at this; exact this
          have n2 := decide_eq_true hgt
          clear HR2
          go_wp2_with fail
          refine (CmpQ HCV.out _).out.mono ?_
          rintro e w8 ⟨rfl, hb8⟩
          go_wp2
          go_ret
          exact ⟨rfl, below_then HBF.out HBF.out.size hb8⟩
        · obtain rfl : 0 = r := by have := HR2.out; rw [if_neg hgt] at this; exact this
          have n2 := decide_eq_false hgt
          clear HR2
          go_wp2_with fail
          refine (CmpQ HCV.out _).out.mono ?_
          rintro e w8 ⟨rfl, hb8⟩
          go_wp2
          go_ret
          exact ⟨rfl, below_then HBF.out HBF.out.size hb8⟩
end Go.Proofs.Ytkgafogkeaaniaa.WlB
