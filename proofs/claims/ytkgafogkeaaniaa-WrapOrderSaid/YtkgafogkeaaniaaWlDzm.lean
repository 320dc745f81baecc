/- Package wrap: Lay. No condition. -/
import Derived.Test.YtkgafogkeaaniaaWlCzm
set_option linter.unusedVariables false
set_option linter.unusedSimpArgs false
namespace Go.Proofs.Ytkgafogkeaaniaa.WlD
open Go.RowKit Go.Proofs.Ytkgafogkeaaniaa.Kit Go.Proofs.Ytkgafogkeaaniaa.Kit3 Go.Proofs.Ytkgafogkeaaniaa.Kit4 Go.Proofs.Ytkgafogkeaaniaa.Kit5 Go.Proofs.Ytkgafogkeaaniaa.WlA Go.Proofs.Ytkgafogkeaaniaa.WlB Go.Proofs.Ytkgafogkeaaniaa.WlC
open Go.Proofs.Ytkgafogkeaaniaa.PW
open Go.Proofs.YtkgafogkeaaniaaW.PrintLast
open Go.Proofs.YtkgafogkeaaniaaW.PrintWords hiding below_then below_alloc below_drew
theorem val_rat {w : World} {p : Nat} {a b : Int} (h : Val w 37 p [.int .i64 a, .int .i64 b]) : w.heap[p]? = some (rat a b) := by
  obtain ⟨cs, h1, h2⟩ := h
  have : cs = #[.int .i64 a, .int .i64 b] := by apply Array.ext'; rw [h1]
  rw [h2, this]
set_option maxHeartbeats 40000000 in
set_option maxRecDepth 100000 in
theorem Lay_no (k F : Nat) (A : Option Addr) (c : Nat) (l : List S49) (fr tt co r : Int) (w : World) (hr : Kd.C k49 w A l.length l) (hc : l.length ≤ c) (h : mayF k l fr tt co = some r) (h0 : r ≠ 0) :
    Calls Try.prog 11 #[.slice A l.length c, .int .i64 fr, .int .i64 tt, .int .i64 co] w fun e w' => e = .returned (.tuple #[.slice none 0 0, .int .i64 r]) ∧ Below w.heap.size w w' := by
  have HM := Side.mk (may_at k A c l fr tt co r w hr hc h)
  have n0 : (r == 0) = false := by simpa using h0
  have n1 : (r != 0) = true := by simpa using h0
  clear hr hc h
  go_enter Try.func11, Try.ntmps11
  go_wp2_with fail
  refine HM.out.mono ?_
  rintro e w1 ⟨rfl, hb1⟩
  go_wp2
  go_ret2
  exact ⟨rfl, hb1⟩
set_option maxHeartbeats 40000000 in
set_option maxRecDepth 100000 in
theorem Lay_yes (k F : Nat) (A : Option Addr) (c : Nat) (l : List S49) (fr tt co : Int) (OUT : List S41) (w : World) (hr : Kd.C k49 w A l.length l) (hc : l.length ≤ c) (h : mayF k l fr tt co = some 0) (hL : layL k F fr tt l 0 fr 1 [] = some OUT) :
    Calls Try.prog 11 #[.slice A l.length c, .int .i64 fr, .int .i64 tt, .int .i64 co] w fun e w' => ∃ v, e = .returned (.tuple #[v, .int .i64 0]) ∧ PRow w' w.heap.size v OUT ∧ Below w.heap.size w w' := by
  have HM := Side.mk (may_at k A c l fr tt co 0 w hr hc h)
  have HL := Side.mk hL
  have HR := Side.mk hr
  have hln : (l.length : Int) ≤ 9223372036854775807 := by have := hr.2.1; omega
  clear hr hc h hL
  go_enter Try.func11, Try.ntmps11
  go_wp2_with fail
  refine HM.out.mono ?_
  rintro e w1 ⟨rfl, hb1⟩
  have HB1 := Side.mk hb1
  clear hb1 HM
  go_upto_region 6 with (fail)
  have HS : Side ((w1.alloc (.cells #[.int .i64 0] 54)).heap[w1.heap.size]? = some (.cells #[.int .i64 0] 54 (0, 0))) := ⟨heap_alloc_new w1 _⟩
  have HB : Side (Below w.heap.size w (w1.alloc (.cells #[.int .i64 0] 54))) := ⟨HB1.out.alloc HB1.out.size _⟩
  clear HB1
  generalize w1.alloc (.cells #[.int .i64 0] 54) = w2 at *
  generalize w1.heap.size = gs at *
  go_wp2_with fail
  refine (WholeQ _ _).out.mono ?_
  rintro e w3 ⟨rfl, hb3⟩
  have HS3 := Side.mk (keep_blk HS.out hb3)
  have HB3 := Side.mk (below_then HB.out HB.out.size hb3)
  clear hb3 HS HB
  go_wp2_with fail
  refine (WholeQ _ _).out.mono ?_
  rintro e w4 ⟨rfl, hb4⟩
  have HS4 := Side.mk (keep_blk HS3.out hb4)
  have HB4 := Side.mk (below_then HB3.out HB3.out.size hb4)
  clear hb4 HS3 HB3
  go_upto_region 7 with (fail)
  have HL0 : Side (Ly w ((w4.alloc (.cells #[.int .i64 fr, .int .i64 1] 37)).alloc (.cells #[.int .i64 tt, .int .i64 1] 37)) gs w4.heap.size (w4.heap.size + 1) fr 1 tt (.slice none 0 0) []) := ⟨by
    have hb := (Below.refl w4.heap.size w4).alloc (Nat.le_refl _) (.cells #[.int .i64 fr, .int .i64 1] 37)
    have hb2 := hb.alloc hb.size (.cells #[.int .i64 tt, .int .i64 1] 37)
    have e1 := heap_alloc_new w4 (.cells #[.int .i64 fr, .int .i64 1] 37)
    have e2 := heap_alloc_new (w4.alloc (.cells #[.int .i64 fr, .int .i64 1] 37)) (.cells #[.int .i64 tt, .int .i64 1] 37)
    refine ⟨below_then HB4.out HB4.out.size hb2, keep_blk HS4.out hb2, (Below.heap_alloc _ _ _ (lt_of e1)).trans e1, ?_, GRow.nil _ _, HB4.out.size, by omega⟩
    simpa using e2⟩
  clear HS4 HB4
  have HRW : Side (∀ w', Below w.heap.size w w' → Kd.C k49 w' A l.length l) := ⟨fun w' hb => Kd.C_below HR.out hb⟩
  clear HR
  generalize ((w4.alloc (.cells #[.int .i64 fr, .int .i64 1] 37)).alloc (.cells #[.int .i64 tt, .int .i64 1] 37)) = w5 at *
  have hae : w4.heap.size ≠ w4.heap.size + 1 := by omega
  generalize w4.heap.size + 1 = ge at *
  generalize w4.heap.size = ga at *
  go_wp2_with fail
  go_loopw [11, 13, 37] (fun v11 v13 v37 wr => ∃ (j : Nat) (core a0 a1 : Int) (out : List S41), v13 = .int .i64 core ∧ v37 = .int .i64 (j : Int) ∧ j ≤ l.length ∧ Side (Ly w wr gs ga ge a0 a1 tt v11 out ∧ layL k F fr tt (l.drop j) core a0 a1 out = some OUT)) (fun _ _ v37 _ => (l.length - intOf v37).toNat)
  case atStart => exact ⟨0, 0, fr, 1, [], rfl, rfl, Nat.zero_le _, ⟨HL0.out, HL.out⟩⟩
  case round =>
    clear HL0 HL
    obtain ⟨j, core, a0, a1, out, rfl, rfl, hj, HI⟩ := hrel
    have hj0 : (0 : Int) ≤ j := by omega
    by_cases hlt : j < l.length
    · have hjj : (j : Int) < l.length := by omega
      have hj1 : (j : Int) + 1 ≤ 9223372036854775807 := by omega
      obtain ⟨ad, rfl, c0, c1, c2, c3⟩ := at_T49 (HRW.out wr HI.out.1.bel) (j : Int) hj0 hjj
      have hm := HI.out.2
      rw [rd_drop hlt] at hm
      generalize rd_T49 l (j : Int) = x at *
      obtain ⟨x0, ⟨x1, x2⟩, x3⟩ := x
      simp only at c0 c1 c2 c3
      simp only [layL] at hm
      obtain ⟨⟨core2, b0, b1, out2⟩, hin, hm⟩ := Option.bind_eq_some_iff.1 hm
      simp only at hm
      rw [Int.toNat_natCast] at c0 c1 c2 c3
      have HIN := Side.mk hin
      have HM := Side.mk hm
      clear hin hm
      have HLY := Side.mk HI.out.1
      clear HI
      obtain ⟨W0, hW0⟩ : ∃ W0, W0 = wr := ⟨_, rfl⟩
      rw [← hW0] at HLY c0 c1 c2 c3 ⊢
      clear hW0
      go_upto_region 10 with (fail)
      have BX : Side ((W0.alloc (.cells #[.int .i64 x0, .int .i64 x1, .int .i64 x2, .bool x3] 49)).heap[W0.heap.size]? = some (shr x0 x1 x2 x3)) := ⟨heap_alloc_new W0 _⟩
      have HL2 := Side.mk (HLY.out.below ((Below.refl _ W0).alloc (Nat.le_refl _) (.cells #[.int .i64 x0, .int .i64 x1, .int .i64 x2, .bool x3] 49)))
      clear HLY c0 c1 c2 c3
      generalize W0.alloc (.cells #[.int .i64 x0, .int .i64 x1, .int .i64 x2, .bool x3] 49) = W1 at *
      generalize W0.heap.size = px at *
      have f1 : W1.cell? ⟨px, 1, none⟩ = some (.int .i64 x1) := cell_of_row W1 px 1 _ _ (0, 0) BX.out
      have f2 : W1.cell? ⟨px, 2, none⟩ = some (.int .i64 x2) := cell_of_row W1 px 2 _ _ (0, 0) BX.out
      have hpl := lt_of BX.out
      go_wp2_with fail
      have LF : Side ((W1.alloc (.cells #[.int .i64 x1, .int .i64 x2] 37)).heap[W1.heap.size]? = some (rat x1 x2)) := ⟨heap_alloc_new W1 _⟩
      have hba := (Below.refl W1.heap.size W1).alloc (Nat.le_refl _) (.cells #[.int .i64 x1, .int .i64 x2] 37)
      have HL3 := Side.mk (HL2.out.below hba)
      have BX3 := Side.mk (keep_blk BX.out hba)
      have HGE : Side (w.heap.size ≤ W1.heap.size ∧ W1.heap.size ≠ ga ∧ W1.heap.size ≠ ge) := ⟨HL2.out.bel.size, by have := lt_of HL2.out.a; omega, by have := lt_of HL2.out.e; omega⟩
      clear HL2 BX f1 f2 hpl hba
      generalize W1.alloc (.cells #[.int .i64 x1, .int .i64 x2] 37) = W2 at *
      generalize W1.heap.size = gl0 at *
      go_loopg [11, 13, 18] F (fun kq v11 v13 v18 wq => ∃ (core a0 a1 l0 l1 : Int) (gl : Nat) (out : List S41), v13 = .int .i64 core ∧ v18 = .pointer (some ⟨gl, 0, none⟩) ∧ Side (kq ≤ F) ∧ Side (Ly w wq gs ga ge a0 a1 tt v11 out) ∧ Side (wq.heap[px]? = some (shr x0 x1 x2 x3)) ∧ Side (wq.heap[gl]? = some (rat l0 l1)) ∧ Side (w.heap.size ≤ gl ∧ gl ≠ ga ∧ gl ≠ ge) ∧ Side (inn k fr tt 1 x0 x3 kq core a0 a1 l0 l1 out = some (core2, b0, b1, out2)))
      case atStart => exact ⟨core, a0, a1, x1, x2, gl0, out, rfl, rfl, ⟨Nat.le_refl _⟩, HL3, BX3, LF, HGE, HIN⟩
      case round =>
        clear HL3 BX3 LF HGE HIN
        obtain ⟨core, a0, a1, l0, l1, gl, out, rfl, rfl, HKF, HLY, BX, LF, HGE, HIN⟩ := hrel
        obtain ⟨wq, hwq⟩ : ∃ wq, wq = wr := ⟨_, rfl⟩
        rw [← hwq] at HLY BX LF ⊢
        clear hwq
        cases gk with
        | zero => exact absurd HIN.out (by simp [inn])
        | succ k1 =>
          have hm := HIN.out
          clear HIN
          simp only [inn] at hm
          have g0 := rat0 LF.out
          have g1 := rat1 LF.out
          have hgl := lt_of LF.out
          have s0 : wq.cell? ⟨gs, 0, none⟩ = some (.int .i64 0) := cell_of_row wq gs 0 _ _ (0, 0) HLY.out.s
          have hgs := lt_of HLY.out.s
          by_cases hpos : l0 > 0
          · rw [if_pos hpos] at hm
            have dp := decide_eq_true hpos
            obtain ⟨⟨r0, r1, re⟩, h1, hm⟩ := Option.bind_eq_some_iff.1 hm
            simp only at hm
            by_cases hre : re = 0
            rotate_left
            · rw [if_neg hre] at hm; cases hm
            rw [if_pos hre] at hm
            subst hre
            obtain ⟨⟨n0, n1⟩, h2, hm⟩ := Option.bind_eq_some_iff.1 hm
            obtain ⟨⟨q0, q1, qe⟩, h3, hm⟩ := Option.bind_eq_some_iff.1 hm
            simp only at hm
            by_cases hqe : qe = 0
            rotate_left
            · rw [if_neg hqe] at hm; cases hm
            rw [if_pos hqe] at hm
            subst hqe
            obtain ⟨⟨m0, m1, me⟩, h4, hm⟩ := Option.bind_eq_some_iff.1 hm
            simp only at hm
            by_cases hme : me = 0
            rotate_left
            · rw [if_neg hme] at hm; cases hm
            rw [if_pos hme] at hm
            subst hme
            obtain ⟨cv, h5, hm⟩ := Option.bind_eq_some_iff.1 hm
            by_cases hbd : 0 ≤ core ∧ core < 1000 ∧ out.length < 1000
            rotate_left
            · rw [if_neg hbd] at hm; cases hm
            rw [if_pos hbd] at hm
            have H1 := Side.mk h1
            have H2 := Side.mk h2
            have H3 := Side.mk h3
            have H4 := Side.mk h4
            have H5 := Side.mk h5
            have HM2 := Side.mk hm
            have HBD := Side.mk hbd
            clear h1 h2 h3 h4 h5 hm hbd
            go_upto_region 12 with (fail)
            have p0 := rat0 HLY.out.a
            have p1 := rat1 HLY.out.a
            have hga := lt_of HLY.out.a
            have t0 := rat0 HLY.out.e
            have t1 := rat1 HLY.out.e
            have hge := lt_of HLY.out.e
            have DR : Side (∀ w', Below wq.drew.heap.size wq.drew w' → Below wq.heap.size wq w') := ⟨fun w' hb => below_then (below_drew (Below.refl _ wq)) (Nat.le_refl _) hb⟩
            have HSG : Side (∀ w', Below wq.drew.heap.size wq.drew w' → w'.heap[gs]? = some (.cells #[.int .i64 0] 54 (0, 0))) := ⟨fun w' hb => keep_blk HLY.out.s (DR.out w' hb)⟩
            go_cut [19] (fun v19 we => ∃ p : Nat, v19 = .pointer (some ⟨p, 0, none⟩) ∧ Side (Below wq.heap.size wq we ∧ we.heap[p]? = some (rat n0 n1)))
            case first =>
              refine start_ (n := 8) (S := fun w' => True) (ds := []) #[false, false, false, false, false, false, false, false] (by kernel_rfl) rfl rfl trivial (fun _ => ?_)
              refine inv_at (B := [0, 0, 0, 0, 14, 31, 0, 127]) [0, 1, 2, 3, 4, 5, 6, 7] (fun a0_ b a w' => ∃ p_, a = putSel a0_ b [(0, 53, .agg #[.int .i64 l0, .int .i64 l1]), (1, 54, .pointer (some ⟨gs, 0, none⟩)), (2, 55, .agg #[.int .i64 tt, .int .i64 1]), (3, 56, .agg #[.int .i64 a0, .int .i64 a1]), (4, 57, .agg #[.int .i64 r0, .int .i64 r1]), (5, 58, .agg #[.int .i64 n0, .int .i64 n1]), (6, 19, .pointer (some ⟨p_, 0, none⟩))] ∧ TB wq.drew 37 2 p_ 0 ([.int .i64 n0, .int .i64 n1]) [] 6 1000 7 1001 b w') rfl (by kernel_rfl) (by kernel_rfl) (by kernel_rfl) ?_ ?_ ?_
              · exact ⟨0, by simp only [putSel, Bool.false_eq_true, if_false], TB.start⟩
              · refine steps_cons (by rintro b a w' ⟨p_, ha, HI⟩ hb hon hoff; refine ⟨_, rfl, fun K hK => ?_⟩; have e18 := poff ha (t := 18) rfl rfl; have k0_ := bc HI.bel hgl g0; have k1_ := bc HI.bel hgl g1; have kz_ := bz HI.bel hgl; exact value_ (v := .agg #[.int .i64 l0, .int .i64 l1]) (by rfl) rfl (by clear HI ha; go_simp) (hK.out _ _ ⟨p_, upk ha 0 hb rfl rfl, HI.low (Below.refl _ _) 0 (by decide)⟩)) ?_
                refine steps_cons (by rintro b a w' ⟨p_, ha, HI⟩ hb hon hoff; refine ⟨_, rfl, fun K hK => ?_⟩; have e12 := poff ha (t := 12) rfl rfl; exact value_ (v := .pointer (some ⟨gs, 0, none⟩)) (by rfl) rfl (by clear HI ha; go_simp) (hK.out _ _ ⟨p_, upk ha 1 hb rfl rfl, HI.low (Below.refl _ _) 1 (by decide)⟩)) ?_
                refine steps_cons (by rintro b a w' ⟨p_, ha, HI⟩ hb hon hoff; refine ⟨_, rfl, fun K hK => ?_⟩; have e15 := poff ha (t := 15) rfl rfl; have k0_ := bc HI.bel hge t0; have k1_ := bc HI.bel hge t1; have kz_ := bz HI.bel hge; exact value_ (v := .agg #[.int .i64 tt, .int .i64 1]) (by rfl) rfl (by clear HI ha; go_simp) (hK.out _ _ ⟨p_, upk ha 2 hb rfl rfl, HI.low (Below.refl _ _) 2 (by decide)⟩)) ?_
                refine steps_cons (by rintro b a w' ⟨p_, ha, HI⟩ hb hon hoff; refine ⟨_, rfl, fun K hK => ?_⟩; have e14 := poff ha (t := 14) rfl rfl; have k0_ := bc HI.bel hga p0; have k1_ := bc HI.bel hga p1; have kz_ := bz HI.bel hga; exact value_ (v := .agg #[.int .i64 a0, .int .i64 a1]) (by rfl) rfl (by clear HI ha; go_simp) (hK.out _ _ ⟨p_, upk ha 3 hb rfl rfl, HI.low (Below.refl _ _) 3 (by decide)⟩)) ?_
                refine steps_cons (by rintro b a w' ⟨p_, ha, HI⟩ hb hon hoff; refine ⟨_, rfl, fun K hK => ?_⟩; have e54 := pon ha 1 (hon 1 rfl) rfl rfl rfl; have e55 := pon ha 2 (hon 2 rfl) rfl rfl rfl; have e56 := pon ha 3 (hon 3 rfl) rfl rfl rfl; refine goes_ Try.func26 (by kernel_rfl) rfl #[.pointer (some ⟨gs, 0, none⟩), .agg #[.int .i64 tt, .int .i64 1], .agg #[.int .i64 a0, .int .i64 a1]] (by rfl) rfl rfl (by simp [Act.eval, e54, e55, e56]) ((SubQ H1.out (HSG.out _ HI.bel)).mono ?_); rintro e_ w'' ⟨rfl, hbc⟩; exact ⟨_, rfl, hK.out _ _ ⟨p_, upk ha 4 hb rfl rfl, HI.low hbc 4 (by decide)⟩⟩) ?_
                refine steps_cons (by rintro b a w' ⟨p_, ha, HI⟩ hb hon hoff; refine ⟨_, rfl, fun K hK => ?_⟩; have e53 := pon ha 0 (hon 0 rfl) rfl rfl rfl; have e57 := pon ha 4 (hon 4 rfl) rfl rfl rfl; refine goes_ Try.func25 (by kernel_rfl) rfl #[.agg #[.int .i64 l0, .int .i64 l1], .agg #[.int .i64 r0, .int .i64 r1]] (by rfl) rfl rfl (by simp [Act.eval, e53, e57]) ((LessQ H2.out _).out.mono ?_); rintro e_ w'' ⟨rfl, hbc⟩; exact ⟨_, rfl, hK.out _ _ ⟨p_, upk ha 5 hb rfl rfl, HI.low hbc 5 (by decide)⟩⟩) ?_
                refine steps_cons (by rintro b a w' ⟨p_, ha, HI⟩ hb hon hoff; refine ⟨_, rfl, fun K hK => ?_⟩; exact value_ (w1 := w'.alloc (.cells #[.int .i64 0, .int .i64 0] 37)) (v := .pointer (some ⟨w'.heap.size, 0, none⟩)) (by rfl) rfl (by clear HI ha; go_simp) (hK.out _ _ ⟨w'.heap.size, by rw [ha]; exact putSel_upk 6 hb rfl rfl rfl, HI.al1 #[.int .i64 0, .int .i64 0] rfl (hoff 7 rfl) (by decide)⟩)) ?_
                refine steps_cons (by rintro b a w' ⟨p_, ha, HI⟩ hb hon hoff; refine ⟨_, rfl, fun K hK => ?_⟩; have e19 := pon ha 6 (hon 6 rfl) rfl rfl rfl; have e58 := pon ha 5 (hon 5 rfl) rfl rfl rfl; have hst := run_own (P := Try.prog) (c := [.int .i64 n0, .int .i64 n1]) (HI.o1 (hon 6 rfl)) (.agg #[.int .i64 n0, .int .i64 n1]) rfl (by kernel_rfl) rfl (by intro q hq; simp at hq; rcases hq with rfl | rfl | rfl | rfl | rfl <;> rfl); exact skip_ (w1 := w'.setCells p_ 0 ([.int .i64 n0, .int .i64 n1])) (by rfl) rfl (by unfold execOp; simp [Act.eval, e19, e58, hst]) (hK.out _ _ ⟨p_, ups ha rfl, HI.st1 rfl (hon 6 rfl) (by decide)⟩)) ?_
                exact steps_nil
              · rintro b a w' hall ⟨p_, ha, HI⟩
                have hb0_ := hall 0 rfl; have hb1_ := hall 1 rfl; have hb2_ := hall 2 rfl; have hb3_ := hall 3 rfl; have hb4_ := hall 4 rfl; have hb5_ := hall 5 rfl; have hb6_ := hall 6 rfl; have hb7_ := hall 7 rfl
                subst ha
                simp only [putSel, hb0_, hb1_, hb2_, hb3_, hb4_, hb5_, hb6_, if_true, Act.put, List.setIfInBounds_toArray, List.set_cons_zero, List.set_cons_succ]
                have HBX := Side.mk HI.bel
                have HVX := Side.mk (HI.v1 hb7_)
                clear hall HI hb0_ hb1_ hb2_ hb3_ hb4_ hb5_ hb6_ hb7_
                refine ‹∀ (a' : Act) (w' : World), Met _ a' w' → _› _ _ ?_
                go_meet
                case rel => exact ⟨_, rfl, ⟨DR.out _ HBX.out, val_rat HVX.out⟩⟩
            case rest =>
              obtain ⟨pn, rfl, HCUT⟩ := hcut
              have HLY2 := Side.mk (HLY.out.below HCUT.out.1)
              have BX2 := Side.mk (keep_blk BX.out HCUT.out.1)
              have LF2 := Side.mk (keep_blk LF.out HCUT.out.1)
              have NB2 := Side.mk HCUT.out.2
              clear HCUT HLY BX LF g0 g1 s0 hgs hgl p0 p1 hga t0 t1 hge DR HSG H1 H2
              generalize wc = y0 at *
              have p0 := rat0 HLY2.out.a
              have p1 := rat1 HLY2.out.a
              have hp := lt_of HLY2.out.a
              have n_0 := rat0 NB2.out
              have n_1 := rat1 NB2.out
              have hn_ := lt_of NB2.out
              go_wp2_with fail
              refine (AddQ H3.out HLY2.out.s).mono ?_
              rintro e y1 ⟨rfl, hb⟩
              clear p0 p1 hp n_0 n_1 hn_ H3
              have HLY3 := Side.mk (HLY2.out.below hb)
              have BX3 := Side.mk (keep_blk BX2.out hb)
              have LF3 := Side.mk (keep_blk LF2.out hb)
              have NB3 := Side.mk (keep_blk NB2.out hb)
              clear HLY2 BX2 LF2 NB2
              clear hb
              go_upto_region 14 with (fail)
              have hb := (Below.refl y1.heap.size y1).alloc (Nat.le_refl _) (.cells #[.int .i64 q0, .int .i64 q1] 37)
              have QB4 : Side ((y1.alloc (.cells #[.int .i64 q0, .int .i64 q1] 37)).heap[y1.heap.size]? = some (rat q0 q1)) := ⟨heap_alloc_new y1 _⟩
              have HQN : Side (y1.heap.size ≠ gl) := ⟨by have := lt_of LF3.out; omega⟩
              have HLY4 := Side.mk (HLY3.out.below hb)
              have BX4 := Side.mk (keep_blk BX3.out hb)
              have LF4 := Side.mk (keep_blk LF3.out hb)
              have NB4 := Side.mk (keep_blk NB3.out hb)
              clear HLY3 BX3 LF3 NB3
              clear hb
              generalize y1.alloc (.cells #[.int .i64 q0, .int .i64 q1] 37) = y2 at *
              generalize y1.heap.size = pq at *
              have p0 := rat0 HLY4.out.a
              have p1 := rat1 HLY4.out.a
              have hp := lt_of HLY4.out.a
              have q_0 := rat0 QB4.out
              have q_1 := rat1 QB4.out
              have hq_ := lt_of QB4.out
              have f0 : y2.cell? ⟨px, 0, none⟩ = some (.int .i64 x0) := cell_of_row y2 px 0 _ _ (0, 0) BX4.out
              have f3 : y2.cell? ⟨px, 3, none⟩ = some (.bool x3) := cell_of_row y2 px 3 _ _ (0, 0) BX4.out
              have hpx := lt_of BX4.out
              have hb : Below y2.heap.size y2 (y2.alloc (.cells (pcl ⟨3, core, x0, ⟨a0, a1⟩, ⟨q0, q1⟩, x3⟩).toArray 41)) := (Below.refl _ _).alloc (Nat.le_refl _) _
              go_upto_region 15 with (at_builtin; refine wpList_papp rfl _ _ rfl w.heap.size u11 out rfl ((HLY4.out.below hb).row) y2.heap.size ⟨3, core, x0, ⟨a0, a1⟩, ⟨q0, q1⟩, x3⟩ rfl (heap_alloc_new y2 _) HBD.out.2.2 (HLY4.out.below hb).bel.size ?_; intro v6 y3 hr6 hg6)
              have HLY5 := Side.mk ((HLY4.out.below hb).grow hr6 hg6)
              have BX5 := Side.mk (grown_blk (HLY4.out.below hb).row hg6 (keep_blk BX4.out hb) (by decide))
              have LF5 := Side.mk (grown_blk (HLY4.out.below hb).row hg6 (keep_blk LF4.out hb) (by decide))
              have NB5 := Side.mk (grown_blk (HLY4.out.below hb).row hg6 (keep_blk NB4.out hb) (by decide))
              have QB5 := Side.mk (grown_blk (HLY4.out.below hb).row hg6 (keep_blk QB4.out hb) (by decide))
              clear hb hr6 hg6 HLY4 BX4 LF4 NB4 QB4 p0 p1 hp q_0 q_1 hq_ f0 f3 hpx
              have g0 := rat0 LF5.out
              have g1 := rat1 LF5.out
              have hg := lt_of LF5.out
              have n_0 := rat0 NB5.out
              have n_1 := rat1 NB5.out
              have hn_ := lt_of NB5.out
              go_wp2_with fail
              refine (SubQ H4.out HLY5.out.s).mono ?_
              rintro e y4 ⟨rfl, hb⟩
              clear g0 g1 hg n_0 n_1 hn_ H4
              have HLY6 := Side.mk (HLY5.out.below hb)
              have BX6 := Side.mk (keep_blk BX5.out hb)
              have LF6 := Side.mk (keep_blk LF5.out hb)
              have NB6 := Side.mk (keep_blk NB5.out hb)
              have QB6 := Side.mk (keep_blk QB5.out hb)
              clear HLY5 BX5 LF5 NB5 QB5
              clear hb NB6
              obtain ⟨hlf, hch⟩ := set_rat (x' := m0) (y' := m1) LF6.out
              have HLY7 := Side.mk (HLY6.out.other LF6.out HGE.out.1 HGE.out.2.1 HGE.out.2.2 hch)
              have LF7 := Side.mk hlf
              have BX7 := Side.mk (chg_blk hch BX6.out (ne_ty BX6.out LF6.out (by decide)))
              have QB7 := Side.mk (chg_blk hch QB6.out HQN.out)
              have g0 := rat0 LF6.out
              have g1 := rat1 LF6.out
              have hgl := lt_of LF6.out
              have z0 := blk_frozen LF6.out 0
              have z1 := blk_frozen LF6.out 1
              clear hlf hch HLY6 LF6 BX6 QB6
              go_upto_region 16 with (fail)
              clear g0 g1 hgl z0 z1
              generalize (y4.setCell ⟨gl, 0, none⟩ (.int .i64 m0)).setCell ⟨gl, 1, none⟩ (.int .i64 m1) = y5 at *
              obtain ⟨hat, hch⟩ := set_rat (x' := q0) (y' := q1) HLY7.out.a
              have HLY8 := Side.mk (HLY7.out.at_ hch hat)
              have LF8 := Side.mk (chg_blk hch LF7.out HGE.out.2.1)
              have BX8 := Side.mk (chg_blk hch BX7.out (ne_ty BX7.out HLY7.out.a (by decide)))
              have q_0 := rat0 QB7.out
              have q_1 := rat1 QB7.out
              have hq_ := lt_of QB7.out
              have p0 := rat0 HLY7.out.a
              have p1 := rat1 HLY7.out.a
              have hp := lt_of HLY7.out.a
              have z0 := blk_frozen HLY7.out.a 0
              have z1 := blk_frozen HLY7.out.a 1
              clear hat hch HLY7 LF7 BX7 QB7
              go_upto_region 17 with (fail)
              clear q_0 q_1 hq_ p0 p1 hp z0 z1
              generalize (y5.setCell ⟨ga, 0, none⟩ (.int .i64 q0)).setCell ⟨ga, 1, none⟩ (.int .i64 q1) = y6 at *
              have p0 := rat0 HLY8.out.a
              have p1 := rat1 HLY8.out.a
              have hp := lt_of HLY8.out.a
              have t0 := rat0 HLY8.out.e
              have t1 := rat1 HLY8.out.e
              have hte := lt_of HLY8.out.e
              go_wp2_with fail
              refine (CmpQ H5.out _).out.mono ?_
              rintro e y7 ⟨rfl, hb⟩
              have HLY9 := Side.mk (HLY8.out.below hb)
              have LF9 := Side.mk (keep_blk LF8.out hb)
              have BX9 := Side.mk (keep_blk BX8.out hb)
              clear p0 p1 hp t0 t1 hte hb HLY8 LF8 BX8 H5
              by_cases hz : cv = 0
              · have HM3 : Side (inn k fr tt 1 x0 x3 k1 (core + 1) fr 1 m0 m1 (out ++ [⟨3, core, x0, ⟨a0, a1⟩, ⟨q0, q1⟩, x3⟩]) = some (core2, b0, b1, out2)) := ⟨by have := HM2.out; rw [if_pos hz] at this; exact this⟩
                have e1 : (cv == 0) = true := by simpa using hz
                have hcw : core + 1 ≤ 9223372036854775807 := by have := HBD.out; omega
                have hcw0 : 0 ≤ core := HBD.out.1
                go_wp2_with fail
                refine (WholeQ _ _).out.mono ?_
                rintro e y8 ⟨rfl, hb⟩
                have HLYa := Side.mk (HLY9.out.below hb)
                have LFa := Side.mk (keep_blk LF9.out hb)
                have BXa := Side.mk (keep_blk BX9.out hb)
                clear hb HLY9 LF9 BX9 HM2
                obtain ⟨hat, hch⟩ := set_rat (x' := fr) (y' := 1) HLYa.out.a
                have HLYb := Side.mk (HLYa.out.at_ hch hat)
                have LFb := Side.mk (chg_blk hch LFa.out HGE.out.2.1)
                have BXb := Side.mk (chg_blk hch BXa.out (ne_ty BXa.out HLYa.out.a (by decide)))
                have p0 := rat0 HLYa.out.a
                have p1 := rat1 HLYa.out.a
                have hp := lt_of HLYa.out.a
                have z0 := blk_frozen HLYa.out.a 0
                have z1 := blk_frozen HLYa.out.a 1
                clear hat hch HLYa LFa BXa
                go_upto_region 19 with (fail)
                clear p0 p1 hp z0 z1
                generalize (y8.setCell ⟨ga, 0, none⟩ (.int .i64 fr)).setCell ⟨ga, 1, none⟩ (.int .i64 1) = y9 at *
                have k0 := rat0 LFb.out
                have k1_ := rat1 LFb.out
                have hgl := lt_of LFb.out
                have hnb := (Below.refl y9.heap.size y9).alloc (Nat.le_refl _) (.cells #[.int .i64 m0, .int .i64 m1] 37)
                have HF1 := Side.mk (HLYb.out.below hnb)
                have HF2 := Side.mk (keep_blk BXb.out hnb)
                have HF3 : Side ((y9.alloc (.cells #[.int .i64 m0, .int .i64 m1] 37)).heap[y9.heap.size]? = some (rat m0 m1)) := ⟨heap_alloc_new y9 _⟩
                have HF4 : Side (w.heap.size ≤ y9.heap.size ∧ y9.heap.size ≠ ga ∧ y9.heap.size ≠ ge) := ⟨HLYb.out.bel.size, by have := lt_of HLYb.out.a; omega, by have := lt_of HLYb.out.e; omega⟩
                clear hnb HLYb BXb LFb
                go_wp2
                go_roundg k1
                case rel => exact ⟨core + 1, fr, 1, m0, m1, _, _, rfl, rfl, ⟨by have := HKF.out; omega⟩, HF1, HF2, HF3, HF4, HM3⟩
                case measure => have := HKF.out; omega
              · have HM3 : Side (inn k fr tt 1 x0 x3 k1 core q0 q1 m0 m1 (out ++ [⟨3, core, x0, ⟨a0, a1⟩, ⟨q0, q1⟩, x3⟩]) = some (core2, b0, b1, out2)) := ⟨by have := HM2.out; rw [if_neg hz] at this; exact this⟩
                have e1 : (cv == 0) = false := by simpa using hz
                clear HM2
                go_upto_region 19 with (fail)
                have k0 := rat0 LF9.out
                have k1_ := rat1 LF9.out
                have hgl := lt_of LF9.out
                have hnb := (Below.refl y7.heap.size y7).alloc (Nat.le_refl _) (.cells #[.int .i64 m0, .int .i64 m1] 37)
                have HF1 := Side.mk (HLY9.out.below hnb)
                have HF2 := Side.mk (keep_blk BX9.out hnb)
                have HF3 : Side ((y7.alloc (.cells #[.int .i64 m0, .int .i64 m1] 37)).heap[y7.heap.size]? = some (rat m0 m1)) := ⟨heap_alloc_new y7 _⟩
                have HF4 : Side (w.heap.size ≤ y7.heap.size ∧ y7.heap.size ≠ ga ∧ y7.heap.size ≠ ge) := ⟨HLY9.out.bel.size, by have := lt_of HLY9.out.a; omega, by have := lt_of HLY9.out.e; omega⟩
                clear hnb HLY9 BX9 LF9
                go_wp2
                go_roundg k1
                case rel => exact ⟨core, q0, q1, m0, m1, _, _, rfl, rfl, ⟨by have := HKF.out; omega⟩, HF1, HF2, HF3, HF4, HM3⟩
                case measure => have := HKF.out; omega
          · rw [if_neg hpos] at hm
            have dp := decide_eq_false hpos
            simp only [Option.some.injEq, Prod.mk.injEq] at hm
            obtain ⟨rfl, rfl, rfl, rfl⟩ := hm
            clear BX LF g1 HGE HKF
            go_wp2
            exact ⟨⟨j + 1, _, _, _, _, rfl, by simp, by omega, ⟨HLY.out, HM.out⟩⟩, by simp [intOf]; omega⟩
    · have hjj : ¬ (j : Int) < l.length := by omega
      obtain rfl : j = l.length := by omega
      have hm := HI.out.2
      rw [List.drop_length] at hm
      obtain rfl : out = OUT := Option.some.inj hm
      have HLY := Side.mk HI.out.1
      clear hm HI
      have s0 : wr.cell? ⟨gs, 0, none⟩ = some (.int .i64 0) := cell_of_row wr gs 0 _ _ (0, 0) HLY.out.s
      have hgs := lt_of HLY.out.s
      go_wp2
      go_ret2
      exact ⟨_, rfl, HLY.out.row, HLY.out.bel⟩
end Go.Proofs.Ytkgafogkeaaniaa.WlD
