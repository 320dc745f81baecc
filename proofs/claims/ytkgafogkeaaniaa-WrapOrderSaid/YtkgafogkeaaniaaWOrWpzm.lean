/- WrapOrder: the law's own walk. No condition. -/
import Derived.Test.YtkgafogkeaaniaaWOrBzm
set_option linter.unusedVariables false
set_option linter.unusedSimpArgs false
namespace Go.Proofs.Ytkgafogkeaaniaa.WOrWp
open Go.RowKit Go.Proofs.Ytkgafogkeaaniaa.Kit Go.Proofs.Ytkgafogkeaaniaa.Kit3 Go.Proofs.Ytkgafogkeaaniaa.Kit4 Go.Proofs.Ytkgafogkeaaniaa.Kit5 Go.Proofs.Ytkgafogkeaaniaa.WlA Go.Proofs.Ytkgafogkeaaniaa.WlC Go.Proofs.Ytkgafogkeaaniaa.RlA
open Go.Proofs.Ytkgafogkeaaniaa.PW
open Go.Proofs.Ytkgafogkeaaniaa.WlX Go.Proofs.Ytkgafogkeaaniaa.WlY Go.Proofs.Ytkgafogkeaaniaa.SmF Go.Proofs.Ytkgafogkeaaniaa.ChA
open Go.Proofs.Ytkgafogkeaaniaa.WOrB
open Go.Proofs.YtkgafogkeaaniaaW.PrintLast
open Go.Proofs.YtkgafogkeaaniaaW.PrintWords hiding below_then below_alloc below_drew
structure Hole (G : Prop) : Prop where
  out : G
set_option maxHeartbeats 400000000 in
set_option maxRecDepth 100000 in
noncomputable def part : (G1 : Prop) ×' (G2 : Prop) ×' (G3 : Prop) ×' (Hole G1 → Hole G2 → Hole G3 → ∀ (A : Option Addr) (c : Nat) (l : List S39) (n0 n1 co : Int) (w : World) (hr : Kd.C k39 w A l.length l) (hc : l.length ≤ c) (i0 : -9223372036854775808 ≤ n0 ∧ n0 < 9223372036854775808) (i1 : -9223372036854775808 ≤ n1 ∧ n1 < 9223372036854775808), Calls Try.prog 6 #[.slice A l.length c, .agg #[.int .i64 n0, .int .i64 n1], .int .i64 co] w fun e w' => e = .returned (.bool true) ∧ Below w.heap.size w w') := by
  apply PSigma.mk
  apply PSigma.mk
  apply PSigma.mk
  · intro k1 k2 k3
    intro A c l n0 n1 co w hr hc i0 i1
    obtain ⟨bs, hbs, hsm⟩ := small_f l (2 * l.length + 200) (by omega)
    have HRW : Side (∀ w', Below w.heap.size w w' → Kd.C k39 w' A l.length l) := ⟨fun w' hb => Kd.C_below hr hb⟩
    have HBS := Side.mk hbs
    have HSM := Side.mk hsm
    have HC := Side.mk hc
    have hln : (l.length : Int) ≤ 9223372036854775807 := by have := hr.2.1; omega
    clear hr hbs hsm hc
    go_enter Try.func6, Try.ntmps6
    go_wp2_with fail
    have HX : Side ((w.alloc (.cells #[.int .i64 n0, .int .i64 n1] 23)).heap[w.heap.size]? = some (.cells #[.int .i64 n0, .int .i64 n1] 23 (0, 0))) := ⟨heap_alloc_new w _⟩
    have HB : Side (Below w.heap.size w (w.alloc (.cells #[.int .i64 n0, .int .i64 n1] 23))) := ⟨(Below.refl _ w).alloc (Nat.le_refl _) _⟩
    have HGN : Side (w.heap.size ≤ w.heap.size) := ⟨Nat.le_refl _⟩
    obtain ⟨gn, hgn⟩ : ∃ gn, gn = w.heap.size := ⟨_, rfl⟩
    rw [← hgn] at HX ⊢
    clear hgn HGN
    generalize w.alloc (.cells #[.int .i64 n0, .int .i64 n1] 23) = W0 at *
    refine (evenhandedlaw18_awake.calls true _ awake_f).mono ?_
    rintro r_ w1 ⟨rfl, hb⟩
    have HX1 := Side.mk (keep_blk HX.out hb)
    have HB1 := Side.mk (below_then HB.out HB.out.size hb)
    clear hb HX HB
    go_wp2_with fail
    refine (evenhandedlaw18_Small.calls _ A c l bs _ (HRW.out _ HB1.out) HC.out HBS.out).mono ?_
    rintro r_ w2 ⟨rfl, hb⟩
    have HX2 := Side.mk (keep_blk HX1.out hb)
    have HB2 := Side.mk (below_then HB1.out HB1.out.size hb)
    clear hb HX1 HB1 HBS
    have x0 : w2.cell? ⟨gn, 0, none⟩ = some (.int .i64 n0) := cell_of_row w2 gn 0 _ _ (0, 0) HX2.out
    have x1 : w2.cell? ⟨gn, 1, none⟩ = some (.int .i64 n1) := cell_of_row w2 gn 1 _ _ (0, 0) HX2.out
    have hgn := lt_of HX2.out
    cases bs with
    | false =>
      clear HSM i0 i1
      go_wp2
      go_ret
      exact ⟨rfl, HB2.out⟩
    | true =>
      by_cases h1 : n0 < -1048576
      · have d1 := decide_eq_true h1
        clear HSM i0 i1
        go_wp2
        go_ret
        exact ⟨rfl, HB2.out⟩
      have d1 := decide_eq_false h1
      by_cases h2 : n0 > 1048576
      · have d2 := decide_eq_true h2
        clear HSM i0 i1
        go_wp2
        go_ret
        exact ⟨rfl, HB2.out⟩
      have d2 := decide_eq_false h2
      have hwn : IntKind.i64.wrap (n0 + 1024) = n0 + 1024 := IntWalk.i64_in _ (by omega)
      by_cases h3 : n1 > n0 + 1024
      · have d3 := decide_eq_true h3
        clear HSM
        go_wp2
        go_ret
        exact ⟨rfl, HB2.out⟩
      have d3 := decide_eq_false h3
      obtain ⟨M, hM, h41, hsm⟩ := HSM.out rfl
      have HM := Side.mk hM
      have HS := Side.mk hsm
      have HN : Side (-1048576 ≤ n0 ∧ n0 ≤ 1048576 ∧ n1 ≤ n0 + 1024) := ⟨by omega⟩
      clear HSM hM hsm
      go_wp2_with fail
      go_loopw [7] (fun v7 wr => ∃ i : Nat, v7 = .int .i64 (i : Int) ∧ i ≤ l.length ∧ Side ((∀ a b : Nat, a < b → b < i → (rd_T39 l (a : Int)).f0 ≠ (rd_T39 l (b : Int)).f0) ∧ Below w2.heap.size w2 wr)) (fun v7 _ => (l.length - intOf v7).toNat)
      case atStart => exact ⟨0, rfl, Nat.zero_le _, ⟨fun a b _ hb => absurd hb (by omega), Below.refl _ _⟩⟩
      case round =>
        obtain ⟨i, rfl, hi, HI⟩ := hrel
        have hi0 : (0 : Int) ≤ i := by omega
        obtain ⟨wq, hwq⟩ : ∃ wq, wq = wr := ⟨_, rfl⟩
        rw [← hwq] at HI ⊢
        clear hwq
        by_cases hlt : i < l.length
        · have hii : (i : Int) < l.length := by omega
          have hi1 : (i : Int) + 1 ≤ 9223372036854775807 := by omega
          go_wp2_with fail
          go_loopw [8] (fun v8 wr => ∃ j : Nat, v8 = .int .i64 (j : Int) ∧ j ≤ i ∧ Side ((∀ b : Nat, b < j → (rd_T39 l (b : Int)).f0 ≠ (rd_T39 l (i : Int)).f0) ∧ Below w2.heap.size w2 wr)) (fun v8 _ => (i - intOf v8).toNat)
          case atStart => exact ⟨0, rfl, Nat.zero_le _, ⟨fun b hb => absurd hb (by omega), HI.out.2⟩⟩
          case round =>
            obtain ⟨j, rfl, hj, HJ⟩ := hrel
            have hj0 : (0 : Int) ≤ j := by omega
            obtain ⟨we, hwe⟩ : ∃ we, we = wr := ⟨_, rfl⟩
            rw [← hwe] at HJ ⊢
            clear hwe
            by_cases hjlt : j < i
            · have hji : (j : Int) < i := by omega
              have hjl : (j : Int) < l.length := by omega
              have hj1 : (j : Int) + 1 ≤ 9223372036854775807 := by omega
              obtain ⟨g, off, rfl, hgl, c0, -, -, -⟩ := at39 (HRW.out we (below_then HB2.out HB2.out.size HJ.out.2)) i hlt
              obtain ⟨g', off', he, -, e0, -, -, -⟩ := at39 (HRW.out we (below_then HB2.out HB2.out.size HJ.out.2)) j (by omega)
              simp only [Option.some.injEq, Addr.mk.injEq] at he
              obtain ⟨rfl, rfl, -⟩ := he
              have HE : Side ((∀ b : Nat, b < j → (rd_T39 l (b : Int)).f0 ≠ (rd_T39 l (i : Int)).f0)) := ⟨HJ.out.1⟩
              have HBJ := Side.mk HJ.out.2
              clear HJ
              by_cases heq : (rd_T39 l (i : Int)).f0 = (rd_T39 l (j : Int)).f0
              · have q1 : ((rd_T39 l (i : Int)).f0 == (rd_T39 l (j : Int)).f0) = true := by simpa using heq
                clear heq HE
                have HBF := Side.mk (below_then HB2.out HB2.out.size HBJ.out)
                go_wp2_with (go_quiet (fail))
                go_ret
                exact ⟨rfl, by first | exact HBF.out | (refine below_drewN ?_ _; exact HBF.out)⟩
              · have q1 : ((rd_T39 l (i : Int)).f0 == (rd_T39 l (j : Int)).f0) = false := by simpa using heq
                have HE2 : Side (∀ b : Nat, b < j + 1 → (rd_T39 l (b : Int)).f0 ≠ (rd_T39 l (i : Int)).f0) := ⟨fun b hb => by
                  by_cases h : b = j
                  · subst h; exact fun e => heq e.symm
                  · exact HE.out b (by omega)⟩
                clear heq HE
                go_upto_region 11 with (fail)
                go_quiet (fail)
                go_wp2
                go_roundw
                case rel => exact ⟨j + 1, by simp, by omega, ⟨HE2.out, below_drewN HBJ.out _⟩⟩
                case measure => simp [intOf]; omega
            · have hji : ¬ (j : Int) < i := by omega
              obtain rfl : j = i := by omega
              have HD2 : Side (∀ a b : Nat, a < b → b < j + 1 → (rd_T39 l (a : Int)).f0 ≠ (rd_T39 l (b : Int)).f0) := ⟨fun a b h1 h2 => by
                by_cases h : b = j
                · subst h; exact HJ.out.1 a h1
                · exact HI.out.1 a b h1 (by omega)⟩
              have HBJ := Side.mk HJ.out.2
              clear HJ HI
              go_wp2
              exact ⟨⟨j + 1, by simp, by omega, ⟨HD2.out, HBJ.out⟩⟩, by simp [intOf]; omega⟩
        · have hii : ¬ (i : Int) < l.length := by omega
          obtain rfl : i = l.length := by omega
          have HD := Side.mk HI.out.1
          have HB3 := Side.mk (below_then HB2.out HB2.out.size HI.out.2)
          have HX3 := Side.mk (keep_blk HX2.out HI.out.2)
          clear HI HX2 HB2 x0 x1 hgn hi hlt hii hi0
          have x0 : wq.cell? ⟨gn, 0, none⟩ = some (.int .i64 n0) := cell_of_row wq gn 0 _ _ (0, 0) HX3.out
          have x1 : wq.cell? ⟨gn, 1, none⟩ = some (.int .i64 n1) := cell_of_row wq gn 1 _ _ (0, 0) HX3.out
          have hgn := lt_of HX3.out
          go_upto_region 13 with (fail)
          obtain ⟨ps, er, hlay, -, he3, he4, hpl, he0⟩ := WOrA.layP HM.out l HS.out h41 n0 n1 co HN.out.1 HN.out.2.1 HN.out.2.2
          obtain ⟨L49, hL49⟩ : ∃ L49, L49 = l.map to49 := ⟨_, rfl⟩
          have HRF : Side (evenhandedlaw18_Rows.f 2000 l = some L49) := ⟨by rw [hL49]; exact rows_f l (by omega) 2000 (by omega)⟩
          rw [← hL49] at hlay
          have HLAY := Side.mk hlay
          have HE0 := Side.mk he0
          have HPL : Side (ps.length ≤ 82) := ⟨hpl⟩
          clear hlay he3 he4 hpl he0 hL49 HS h41
          have HRD : Side (∀ w', Below wq.drew.heap.size wq.drew w' → Kd.C k39 w' A l.length l) := ⟨fun w' hb => HRW.out w' (below_then HB3.out HB3.out.size (below_then (below_drew (Below.refl _ wq)) (Nat.le_refl _) hb))⟩
          refine start_ (n := 13) (S := fun w' => True) (ds := []) #[false, false, false, false, false, false, false, false, false, false, false, false, false] (by kernel_rfl) rfl rfl trivial (fun _ => ?_)
          refine inv_at (B := [0, 1, 0, 4, 0, 16, 0, 127, 255, 511, 511, 1023, 4095]) [0, 1, 2, 3, 4, 5, 6, 7, 8, 9, 10, 11, 12] (fun a0_ b a w' => ∃ ra_ rc_ pa_ pc_, a = putSel a0_ b [(0, 59, .slice A l.length c), (1, 60, .slice ra_ L49.length rc_), (2, 61, .pointer (some ⟨gn, 0, none⟩)), (3, 62, .int .i64 n0), (4, 63, .pointer (some ⟨gn, 1, none⟩)), (5, 64, .int .i64 n1), (6, 65, .int .i64 co), (7, 66, .tuple #[.slice pa_ ps.length pc_, .int .i64 er]), (8, 58, .tuple #[.slice pa_ ps.length pc_, .int .i64 er]), (9, 67, .slice pa_ ps.length pc_), (10, 68, .int .i64 er), (11, 9, .slice pa_ ps.length pc_), (12, 10, .int .i64 er)] ∧ Bo wq.drew L49 ps 1 7 b ra_ rc_ pa_ pc_ w') rfl (by kernel_rfl) (by kernel_rfl) (by kernel_rfl) ?_ ?_ ?_
          · exact ⟨none, 0, none, 0, by simp only [putSel, Bool.false_eq_true, if_false], Bo.start⟩
          · refine steps_cons (by rintro b a w' ⟨ra_, rc_, pa_, pc_, ha, HI⟩ hb hon hoff; refine ⟨_, rfl, fun K hK => ?_⟩; have e0 := poff ha (t := 0) rfl rfl; exact value_ (v := .slice A l.length c) (by rfl) rfl (by clear HI ha; go_simp) (hK.out _ _ ⟨ra_, rc_, pa_, pc_, upk ha 0 hb rfl rfl, HI.low (Below.refl _ _) 0 (by decide)⟩)) ?_
            refine steps_cons (by rintro b a w' ⟨ra_, rc_, pa_, pc_, ha, HI⟩ hb hon hoff; refine ⟨_, rfl, fun K hK => ?_⟩; have e59 := pon ha 0 (hon 0 rfl) rfl rfl rfl; refine goes_ Try.func12 (by kernel_rfl) rfl #[.slice A l.length c] (by rfl) rfl rfl (by simp [Act.eval, e59]) ((evenhandedlaw18_Rows.calls _ A c l _ w' (HRD.out _ HI.bel) HC.out HRF.out).mono ?_); rintro e_ w'' ⟨v, rfl, hR, hbc⟩; obtain ⟨RA, RC, rfl, hl1, hC1⟩ := Kd.R_reads hR; exact ⟨_, rfl, hK.out _ _ ⟨RA, RC, pa_, pc_, by rw [ha]; exact putSel_upk 1 hb rfl rfl rfl, HI.s1 hbc hC1 hl1 (by decide)⟩⟩) ?_
            refine steps_cons (by rintro b a w' ⟨ra_, rc_, pa_, pc_, ha, HI⟩ hb hon hoff; refine ⟨_, rfl, fun K hK => ?_⟩; have e4 := poff ha (t := 4) rfl rfl; exact value_ (v := .pointer (some ⟨gn, 0, none⟩)) (by rfl) rfl (by clear HI ha; go_simp) (hK.out _ _ ⟨ra_, rc_, pa_, pc_, upk ha 2 hb rfl rfl, HI.low (Below.refl _ _) 2 (by decide)⟩)) ?_
            refine steps_cons (by rintro b a w' ⟨ra_, rc_, pa_, pc_, ha, HI⟩ hb hon hoff; refine ⟨_, rfl, fun K hK => ?_⟩; have e61 := pon ha 2 (hon 2 rfl) rfl rfl rfl; have k0_ := bc HI.bel hgn x0; have kz_ := bz HI.bel hgn; exact value_ (v := .int .i64 n0) (by rfl) rfl (by clear HI ha; go_simp) (hK.out _ _ ⟨ra_, rc_, pa_, pc_, upk ha 3 hb rfl rfl, HI.low (Below.refl _ _) 3 (by decide)⟩)) ?_
            refine steps_cons (by rintro b a w' ⟨ra_, rc_, pa_, pc_, ha, HI⟩ hb hon hoff; refine ⟨_, rfl, fun K hK => ?_⟩; have e4 := poff ha (t := 4) rfl rfl; exact value_ (v := .pointer (some ⟨gn, 1, none⟩)) (by rfl) rfl (by clear HI ha; go_simp) (hK.out _ _ ⟨ra_, rc_, pa_, pc_, upk ha 4 hb rfl rfl, HI.low (Below.refl _ _) 4 (by decide)⟩)) ?_
            refine steps_cons (by rintro b a w' ⟨ra_, rc_, pa_, pc_, ha, HI⟩ hb hon hoff; refine ⟨_, rfl, fun K hK => ?_⟩; have e63 := pon ha 4 (hon 4 rfl) rfl rfl rfl; have k0_ := bc HI.bel hgn x1; have kz_ := bz HI.bel hgn; exact value_ (v := .int .i64 n1) (by rfl) rfl (by clear HI ha; go_simp) (hK.out _ _ ⟨ra_, rc_, pa_, pc_, upk ha 5 hb rfl rfl, HI.low (Below.refl _ _) 5 (by decide)⟩)) ?_
            refine steps_cons (by rintro b a w' ⟨ra_, rc_, pa_, pc_, ha, HI⟩ hb hon hoff; refine ⟨_, rfl, fun K hK => ?_⟩; have e2 := poff ha (t := 2) rfl rfl; exact value_ (v := .int .i64 co) (by rfl) rfl (by clear HI ha; go_simp) (hK.out _ _ ⟨ra_, rc_, pa_, pc_, upk ha 6 hb rfl rfl, HI.low (Below.refl _ _) 6 (by decide)⟩)) ?_
            refine steps_cons (by rintro b a w' ⟨ra_, rc_, pa_, pc_, ha, HI⟩ hb hon hoff; refine ⟨_, rfl, fun K hK => ?_⟩; have e60 := pon ha 1 (hon 1 rfl) rfl rfl rfl; have e62 := pon ha 3 (hon 3 rfl) rfl rfl rfl; have e64 := pon ha 5 (hon 5 rfl) rfl rfl rfl; have e65 := pon ha 6 (hon 6 rfl) rfl rfl rfl; obtain ⟨hC1, hl1⟩ := HI.r (hon 1 rfl); refine goes_ Try.func11 (by kernel_rfl) rfl #[.slice ra_ L49.length rc_, .int .i64 n0, .int .i64 n1, .int .i64 co] (by rfl) rfl rfl (by simp [Act.eval, e60, e62, e64, e65]) ((wrap_Lay.calls ra_ rc_ L49 n0 n1 co ps er w' hC1 hl1 HLAY.out).mono ?_); rintro e_ w'' ⟨v, rfl, hR, hbc⟩; obtain ⟨RA, RC, rfl, hl2, hC2⟩ := Kd.R_reads hR; have h8 := hoff 8 rfl; have h9 := hoff 9 rfl; have h10 := hoff 10 rfl; have h11 := hoff 11 rfl; have h12 := hoff 12 rfl; exact ⟨_, rfl, hK.out _ _ ⟨ra_, rc_, RA, RC, upk (by rw [ha]; simp only [putSel, hb, h8, h9, h10, h11, h12, Bool.false_eq_true, if_false]) 7 hb rfl rfl, HI.s2 hbc hC2 hl2 (by decide)⟩⟩) ?_
            refine steps_cons (by rintro b a w' ⟨ra_, rc_, pa_, pc_, ha, HI⟩ hb hon hoff; refine ⟨_, rfl, fun K hK => ?_⟩; have e66 := pon ha 7 (hon 7 rfl) rfl rfl rfl; exact value_ (v := .tuple #[.slice pa_ ps.length pc_, .int .i64 er]) (by rfl) rfl (by clear HI ha; go_simp) (hK.out _ _ ⟨ra_, rc_, pa_, pc_, upk ha 8 hb rfl rfl, HI.low (Below.refl _ _) 8 (by decide)⟩)) ?_
            refine steps_cons (by rintro b a w' ⟨ra_, rc_, pa_, pc_, ha, HI⟩ hb hon hoff; refine ⟨_, rfl, fun K hK => ?_⟩; have e58 := pon ha 8 (hon 8 rfl) rfl rfl rfl; exact value_ (v := .slice pa_ ps.length pc_) (by rfl) rfl (by clear HI ha; go_simp) (hK.out _ _ ⟨ra_, rc_, pa_, pc_, upk ha 9 hb rfl rfl, HI.low (Below.refl _ _) 9 (by decide)⟩)) ?_
            refine steps_cons (by rintro b a w' ⟨ra_, rc_, pa_, pc_, ha, HI⟩ hb hon hoff; refine ⟨_, rfl, fun K hK => ?_⟩; have e58 := pon ha 8 (hon 8 rfl) rfl rfl rfl; exact value_ (v := .int .i64 er) (by rfl) rfl (by clear HI ha; go_simp) (hK.out _ _ ⟨ra_, rc_, pa_, pc_, upk ha 10 hb rfl rfl, HI.low (Below.refl _ _) 10 (by decide)⟩)) ?_
            refine steps_cons (by rintro b a w' ⟨ra_, rc_, pa_, pc_, ha, HI⟩ hb hon hoff; refine ⟨_, rfl, fun K hK => ?_⟩; have e67 := pon ha 9 (hon 9 rfl) rfl rfl rfl; exact value_ (v := .slice pa_ ps.length pc_) (by rfl) rfl (by clear HI ha; go_simp) (hK.out _ _ ⟨ra_, rc_, pa_, pc_, upk ha 11 hb rfl rfl, HI.low (Below.refl _ _) 11 (by decide)⟩)) ?_
            refine steps_cons (by rintro b a w' ⟨ra_, rc_, pa_, pc_, ha, HI⟩ hb hon hoff; refine ⟨_, rfl, fun K hK => ?_⟩; have e68 := pon ha 10 (hon 10 rfl) rfl rfl rfl; exact value_ (v := .int .i64 er) (by rfl) rfl (by clear HI ha; go_simp) (hK.out _ _ ⟨ra_, rc_, pa_, pc_, upk ha 12 hb rfl rfl, HI.low (Below.refl _ _) 12 (by decide)⟩)) ?_
            exact steps_nil
          · rintro b a w' hall ⟨ra_, rc_, pa_, pc_, ha, HI⟩
            have hb0_ := hall 0 rfl; have hb1_ := hall 1 rfl; have hb2_ := hall 2 rfl; have hb3_ := hall 3 rfl; have hb4_ := hall 4 rfl; have hb5_ := hall 5 rfl; have hb6_ := hall 6 rfl; have hb7_ := hall 7 rfl
            have hb8_ := hall 8 rfl; have hb9_ := hall 9 rfl; have hb10_ := hall 10 rfl; have hb11_ := hall 11 rfl; have hb12_ := hall 12 rfl
            subst ha
            simp only [putSel, hb0_, hb1_, hb2_, hb3_, hb4_, hb5_, hb6_, hb7_, hb8_, hb9_, hb10_, hb11_, hb12_, if_true, Act.put, List.setIfInBounds_toArray, List.set_cons_zero, List.set_cons_succ]
            have HB4 := Side.mk (below_then HB3.out HB3.out.size (below_then (below_drew (Below.refl _ wq)) (Nat.le_refl _) HI.bel))
            have HX4 := Side.mk (keep_blk HX3.out (below_then (below_drew (Below.refl _ wq)) (Nat.le_refl _) HI.bel))
            have HP4 := Side.mk (HI.p hb7_)
            clear hall HI hb0_ hb1_ hb2_ hb3_ hb4_ hb5_ hb6_ hb7_ hb8_ hb9_ hb10_ hb11_ hb12_
            refine ‹∀ (a : Act) (w : World), Code.wp Try.prog _ _ a w → _› _ _ ?_
            clear HB3 HX3 x0 x1 hgn HRD HRF HLAY
            by_cases hez : er = 0
            rotate_left
            · have d4 : (er != 0) = true := by simpa using hez
              clear HE0 hez
              go_wp2
              go_ret
              exact ⟨rfl, HB4.out⟩
            subst hez
            obtain ⟨hft, xs, hxl, hx, -, -, -, hps⟩ := HE0.out rfl
            have hM := HM.out
            obtain ⟨LN, -⟩ := WOrA.line hM HN.out.1 HN.out.2.1 hft HN.out.2.2
            have hch := (layI_chain LN xs 0 (n0 * M) [] hx (Int.le_refl _) LN.lt ⟨rfl, rfl⟩).1
            rw [← hps] at hch
            obtain ⟨qs_, ho1, ho2⟩ := layI_ord M (n0 * M) (n1 * M) xs 0 (n0 * M) []
            rw [← hps, List.nil_append] at ho1
            rw [← ho1, ← hxl] at ho2
            have hrt : rt M (n0 * M) = ⟨n0, 1⟩ := by unfold rt; rw [whole_red hM n0]
            have HNX : Side (∀ (i : Nat) p q, ps[i]? = some p → ps[i + 1]? = some q → Nx n0 p q) := ⟨hch.nx hrt⟩
            have HCO : Side (∀ p ∈ ps, 0 ≤ p.f1 ∧ p.f1 ≤ 82) := ⟨fun p hp => by have := Chain.core _ hch p hp; have := HPL.out; omega⟩
            have HO := Side.mk ho2
            clear hM LN hch qs_ ho1 ho2 hrt hps hx hxl hft HE0 HM xs
            have hpl := HPL.out
            go_wp2_with fail
            go_loopw [11, 12] (fun v11 v12 wr => ∃ m i : Nat, v11 = .int .i64 (m : Int) ∧ v12 = .int .i64 (i : Int) ∧ m ≤ l.length ∧ i ≤ ps.length ∧ Side (InO (l.drop m) (ps.drop i) ∧ Below w'.heap.size w' wr)) (fun _ v12 _ => (ps.length - intOf v12).toNat)
            case atStart => exact ⟨0, 0, rfl, rfl, Nat.zero_le _, Nat.zero_le _, ⟨HO.out, Below.refl _ _⟩⟩
            case round =>
              clear HO
              obtain ⟨m, i, rfl, rfl, hm, hi, HI⟩ := hrel
              have hi0 : (0 : Int) ≤ i := by omega
              obtain ⟨wq, hwq⟩ : ∃ wq, wq = wr := ⟨_, rfl⟩
              rw [← hwq] at HI ⊢
              clear hwq
              by_cases hlt : i < ps.length
              · have hii : (i : Int) < ps.length := by omega
                have hi1 : (i : Int) + 1 ≤ 9223372036854775807 := by omega
                go_wp2_with fail
                go_loopw [11] (fun v11 wr => ∃ m : Nat, v11 = .int .i64 (m : Int) ∧ m ≤ l.length ∧ Side (InO (l.drop m) (ps.drop i) ∧ Below w'.heap.size w' wr)) (fun v11 _ => (l.length - intOf v11).toNat)
                case atStart => exact ⟨m, rfl, hm, ⟨HI.out.1, HI.out.2⟩⟩
                case round =>
                  clear HI hm
                  obtain ⟨m, rfl, hm, HJ⟩ := hrel
                  have hm0 : (0 : Int) ≤ m := by omega
                  obtain ⟨we, hwe⟩ : ∃ we, we = wr := ⟨_, rfl⟩
                  rw [← hwe] at HJ ⊢
                  clear hwe
                  have hdp : ps.drop i = rd_T41 ps (i : Int) :: ps.drop (i + 1) := rd_drop41 hlt
                  have hml : m < l.length := by
                    rcases Nat.lt_or_ge m l.length with h | h
                    · exact h
                    · have h1 := HJ.out.1
                      rw [List.drop_eq_nil_of_le h, hdp] at h1
                      exact absurd h1 (by simp [InO])
                  have hmi : (m : Int) < l.length := by omega
                  have hm1 : (m : Int) + 1 ≤ 9223372036854775807 := by omega
                  have hio := HJ.out.1
                  rw [hdp, RlA.rd39 hml] at hio
                  have HIO := Side.mk hio
                  have HBJ := Side.mk (below_then HB4.out HB4.out.size HJ.out.2)
                  have HBQ := Side.mk HJ.out.2
                  clear hio HJ hdp
                  obtain ⟨g, off, rfl, hgl, c0, -, -, c3⟩ := at39 (HRW.out we HBJ.out) m hml
                  obtain ⟨gp, op, rfl, hgp, e0, e1, e2, e3, e4, e5, e6, e7⟩ := at41 (Kd.C_below HP4.out.1 HBQ.out) i hlt
                  by_cases hid : (rd_T39 l (m : Int)).f0 = (rd_T41 ps (i : Int)).f2
                  rotate_left
                  · have q1 : ((rd_T39 l (m : Int)).f0 != (rd_T41 ps (i : Int)).f2) = true := by simpa using hid
                    have HIO2 := Side.mk (HIO.out.miss hid)
                    clear HIO hid
                    go_upto_region 20 with (fail)
                    go_quiet (fail)
                    go_wp2
                    go_roundw
                    case rel => exact ⟨m + 1, by simp, by omega, ⟨by rw [rd_drop41 hlt]; exact HIO2.out, below_drewN HBQ.out _⟩⟩
                    case measure => simp [intOf]; omega
                  · have q1 : ((rd_T39 l (m : Int)).f0 != (rd_T41 ps (i : Int)).f2) = false := by simpa using hid
                    have hnot : ∀ y ∈ l.drop (m + 1), y.f0 ≠ (rd_T39 l (m : Int)).f0 := fun y hy => by
                      obtain ⟨n, hn⟩ := List.getElem?_of_mem hy
                      rw [List.getElem?_drop] at hn
                      have hnl : m + 1 + n < l.length := (List.getElem?_eq_some_iff.1 hn).1
                      have e := SmF.rd39 hnl
                      rw [hn] at e
                      obtain rfl := Option.some.inj e
                      exact fun e => HD.out m (m + 1 + n) (by omega) hnl e.symm
                    obtain ⟨⟨hsl, hen⟩, hio2⟩ := HIO.out.hit hid hnot
                    have HIO2 := Side.mk hio2
                    rw [hsl] at e7
                    rw [hen] at e0
                    clear hsl hen hio2 hnot HIO hid
                    have q5 : ((m : Int) == (l.length : Int)) = false := by rw [beq_eq_false_iff_ne]; omega
                    have q6 : (m == l.length) = false := by rw [beq_eq_false_iff_ne]; omega
                    by_cases hz : i = 0
                    · have hzi : ¬ (0 : Int) < i := by omega
                      have dz : decide ((0 : Int) < (i : Int)) = false := decide_eq_false hzi
                      have dz2 : decide (0 < i) = false := decide_eq_false (by omega)
                      clear hz hzi
                      repeat (rename_i x_; revert x_)
                      (try revert A); (try revert Act); (try revert Addr); (try revert Below); (try revert Bo); (try revert C); (try revert ChA); (try revert Chain); (try revert F); (try revert HB); (try revert HB1); (try revert HB2); (try revert HB3); (try revert HB4); (try revert HBF); (try revert HBJ); (try revert HBQ); (try revert HBS); (try revert HC); (try revert HCO)
                      (try revert HD); (try revert HD2); (try revert HE); (try revert HE0); (try revert HE2); (try revert HGN); (try revert HI); (try revert HIK); (try revert HIO); (try revert HIO2); (try revert HJ); (try revert HLAY); (try revert HM); (try revert HN); (try revert HNX); (try revert HO); (try revert HP4); (try revert HPL); (try revert HRD); (try revert HRF)
                      (try revert HRW); (try revert HS); (try revert HSM); (try revert HX); (try revert HX1); (try revert HX2); (try revert HX3); (try revert HX4); (try revert InO); (try revert Kd); (try revert L49); (try revert LN); (try revert List); (try revert M); (try revert Nx); (try revert Option); (try revert Or); (try revert R); (try revert RA); (try revert RC)
                      (try revert RlA); (try revert SmF); (try revert T0); (try revert T1); (try revert Try); (try revert W0); (try revert WOrA); (try revert a); (try revert a1); (try revert a2); (try revert a3); (try revert absurd); (try revert at39); (try revert at41); (try revert b); (try revert bel); (try revert bs); (try revert c); (try revert c0); (try revert c3)
                      (try revert co); (try revert d); (try revert d1); (try revert d2); (try revert d3); (try revert d4); (try revert dict); (try revert dz); (try revert dz2); (try revert e); (try revert e0); (try revert e1); (try revert e2); (try revert e3); (try revert e4); (try revert e5); (try revert e59); (try revert e6); (try revert e60); (try revert e62)
                      (try revert e64); (try revert e65); (try revert e7); (try revert e_); (try revert er); (try revert ex); (try revert ex0); (try revert f0); (try revert f1); (try revert f2); (try revert f3); (try revert f4); (try revert f5); (try revert f6); (try revert f7); (try revert g); (try revert g'); (try revert gn); (try revert go_ret); (try revert go_wp2)
                      (try revert goes_); (try revert gp); (try revert gp'); (try revert h); (try revert h0); (try revert h1); (try revert h10); (try revert h11); (try revert h12); (try revert h2); (try revert h3); (try revert h41); (try revert h8); (try revert h9); (try revert hC1); (try revert hC2); (try revert hK); (try revert hL49); (try revert hM); (try revert hR)
                      (try revert ha); (try revert hb); (try revert hb7_); (try revert hbc); (try revert hbs); (try revert hc); (try revert hch); (try revert hcr); (try revert hdp); (try revert he); (try revert he0); (try revert he3); (try revert he4); (try revert hen); (try revert heq); (try revert hez); (try revert hft); (try revert hgl); (try revert hgn); (try revert hgp)
                      (try revert hi); (try revert hi0); (try revert hi1); (try revert hid); (try revert hii); (try revert hio); (try revert hio2); (try revert hj); (try revert hj0); (try revert hj1); (try revert hji); (try revert hjl); (try revert hjlt); (try revert hk); (try revert hk0); (try revert hkk); (try revert hkl); (try revert hl1); (try revert hl2); (try revert hlay)
                      (try revert hln); (try revert hlt); (try revert hm); (try revert hm0); (try revert hm1); (try revert hmi); (try revert hml); (try revert hn); (try revert hnl); (try revert hnot); (try revert hnx); (try revert hnx2); (try revert ho1); (try revert ho2); (try revert hoff); (try revert hon); (try revert hp); (try revert hpi); (try revert hpk); (try revert hpl)
                      (try revert hps); (try revert hr); (try revert hrel); (try revert hrt); (try revert hsl); (try revert hsm); (try revert hwe); (try revert hwk); (try revert hwn); (try revert hwq); (try revert hx); (try revert hxl); (try revert hy); (try revert hz); (try revert hzi); (try revert i); (try revert i0); (try revert i1); (try revert ind); (try revert int)
                      (try revert intOf); (try revert j); (try revert k); (try revert k39); (try revert l); (try revert low); (try revert lt_of); (try revert m); (try revert mem); (try revert mode); (try revert n); (try revert n0); (try revert n1); (try revert off); (try revert off'); (try revert only); (try revert op); (try revert op'); (try revert p); (try revert pa_)
                      (try revert pc_); (try revert ps); (try revert putSel); (try revert q); (try revert q1); (try revert q10); (try revert q11); (try revert q5); (try revert q6); (try revert q7); (try revert q8); (try revert q9); (try revert qs_); (try revert r_); (try revert ra_); (try revert rc_); (try revert rd_T39); (try revert rd_T41); (try revert round); (try revert rows_f)
                      (try revert rt); (try revert slots); (try revert steps); (try revert to49); (try revert upk); (try revert v); (try revert v11); (try revert v12); (try revert v7); (try revert v8); (try revert vals); (try revert w); (try revert w'); (try revert w''); (try revert w1); (try revert w2); (try revert we); (try revert wq); (try revert wr); (try revert wrap)
                      (try revert x0); (try revert x1); (try revert xs); (try revert y); (try revert u0); (try revert u1); (try revert u2); (try revert u3); (try revert u4); (try revert u5); (try revert u6); (try revert u7); (try revert u8); (try revert u9); (try revert u10); (try revert u11); (try revert u12); (try revert u13); (try revert u14); (try revert u15)
                      (try revert u16); (try revert u17); (try revert u18); (try revert u19); (try revert u20); (try revert u21); (try revert u22); (try revert u23); (try revert u24); (try revert u25); (try revert u26); (try revert u27); (try revert u28); (try revert u29); (try revert u30); (try revert u31); (try revert u32); (try revert u33); (try revert u34); (try revert u35)
                      (try revert u36); (try revert u37); (try revert u38); (try revert u39); (try revert u40); (try revert u41); (try revert u42); (try revert u43); (try revert u44); (try revert u45); (try revert u46); (try revert u47); (try revert u48); (try revert u49); (try revert u50); (try revert u51); (try revert u52); (try revert u53); (try revert u54); (try revert u55)
                      (try revert u56); (try revert u57); (try revert u58); (try revert u59); (try revert u60); (try revert u61); (try revert u62); (try revert u63); (try revert u64); (try revert u65); (try revert u66); (try revert u67); (try revert u68); (try revert u69); (try revert u70); (try revert u71); (try revert u72); (try revert u73); (try revert u74); (try revert u75)
                      (try revert u76); (try revert u77); (try revert u78); (try revert u79); (try revert u80); (try revert u81); (try revert u82); (try revert u83); (try revert u84); (try revert u85); (try revert u86); (try revert u87); (try revert u88); (try revert u89); (try revert u90); (try revert u91); (try revert u92); (try revert u93); (try revert u94); (try revert u95)
                      (try revert u96); (try revert u97); (try revert u98); (try revert u99); (try revert u100); (try revert u101); (try revert u102); (try revert u103); (try revert u104); (try revert u105); (try revert u106); (try revert u107); (try revert u108); (try revert u109); (try revert u110); (try revert u111); (try revert u112); (try revert u113); (try revert u114); (try revert u115)
                      (try revert u116); (try revert u117); (try revert u118); (try revert u119); (try revert u120); (try revert u121); (try revert u122); (try revert u123); (try revert u124); (try revert u125); (try revert u126); (try revert u127); (try revert u128); (try revert u129); (try revert u130); (try revert u131); (try revert u132); (try revert u133); (try revert u134); (try revert u135)
                      (try revert u136); (try revert u137); (try revert u138); (try revert u139); (try revert u140); (try revert u141); (try revert u142); (try revert u143); (try revert u144); (try revert u145); (try revert u146); (try revert u147); (try revert u148); (try revert u149); (try revert u150); (try revert u151); (try revert u152); (try revert u153); (try revert u154); (try revert u155)
                      (try revert u156); (try revert u157); (try revert u158); (try revert u159); (try revert u160); (try revert u161); (try revert u162); (try revert u163); (try revert u164); (try revert u165); (try revert u166); (try revert u167); (try revert u168); (try revert u169); (try revert u170); (try revert u171); (try revert u172); (try revert u173); (try revert u174); (try revert u175)
                      (try revert u176); (try revert u177); (try revert u178); (try revert u179); (try revert u180); (try revert u181); (try revert u182); (try revert u183); (try revert u184); (try revert u185); (try revert u186); (try revert u187); (try revert u188); (try revert u189); (try revert u190); (try revert u191); (try revert u192); (try revert u193); (try revert u194); (try revert u195)
                      (try revert u196); (try revert u197); (try revert u198); (try revert u199); (try revert u200); (try revert u201); (try revert u202); (try revert u203); (try revert u204); (try revert u205); (try revert u206); (try revert u207); (try revert u208); (try revert u209); (try revert u210); (try revert u211); (try revert u212); (try revert u213); (try revert u214); (try revert u215)
                      (try revert u216); (try revert u217); (try revert u218); (try revert u219); (try revert u220); (try revert u221); (try revert u222); (try revert u223); (try revert u224); (try revert u225); (try revert u226); (try revert u227); (try revert u228); (try revert u229); (try revert u230); (try revert u231); (try revert u232); (try revert u233); (try revert u234); (try revert u235)
                      (try revert u236); (try revert u237); (try revert u238); (try revert u239); (try revert u240); (try revert u241); (try revert u242); (try revert u243); (try revert u244); (try revert u245); (try revert u246); (try revert u247); (try revert u248); (try revert u249); (try revert u250); (try revert u251); (try revert u252); (try revert u253); (try revert u254); (try revert u255)
                      (try revert u256); (try revert u257); (try revert u258); (try revert u259); (try revert u260); (try revert u261); (try revert u262); (try revert u263); (try revert u264); (try revert u265); (try revert u266); (try revert u267); (try revert u268); (try revert u269); (try revert u270); (try revert u271); (try revert u272); (try revert u273); (try revert u274); (try revert u275)
                      (try revert u276); (try revert u277); (try revert u278); (try revert u279)
                      exact k1.out
                    · have hzi : (0 : Int) < i := by omega
                      have dz : decide ((0 : Int) < (i : Int)) = true := decide_eq_true hzi
                      have dz2 : decide (0 < i) = true := decide_eq_true (by omega)
                      obtain ⟨k, hk⟩ : ∃ k, i = k + 1 := ⟨i - 1, by omega⟩
                      have hwk : IntKind.i64.wrap ((i : Int) - 1) = (k : Int) := by rw [IntWalk.i64_in _ (by omega)]; omega
                      have hkl : k < ps.length := by omega
                      have hk0 : (0 : Int) ≤ k := by omega
                      have hkk : (k : Int) < ps.length := by omega
                      obtain ⟨gp', op', he, -, f0, f1, f2, f3, f4, f5, f6, f7⟩ := at41 (Kd.C_below HP4.out.1 HBQ.out) k hkl
                      simp only [Option.some.injEq, Addr.mk.injEq] at he
                      obtain ⟨rfl, rfl, -⟩ := he
                      have hpk := ChA.rd41 hkl
                      have hpi := ChA.rd41 hlt
                      have hnx := HNX.out k _ _ hpk (by rw [← hk]; exact hpi)
                      have hcr := HCO.out _ (List.mem_of_getElem? hpk)
                      have HIK : Side (i = k + 1) := ⟨hk⟩
                      clear hz hzi hpk hpi hk
                      have hnx2 : ((rd_T41 ps (i : Int)).f1 = (rd_T41 ps (k : Int)).f1 ∧ (rd_T41 ps (i : Int)).f3.f0 = (rd_T41 ps (k : Int)).f4.f0 ∧ (rd_T41 ps (i : Int)).f3.f1 = (rd_T41 ps (k : Int)).f4.f1) ∨ ((rd_T41 ps (i : Int)).f1 = (rd_T41 ps (k : Int)).f1 + 1 ∧ (rd_T41 ps (i : Int)).f3.f0 = n0 ∧ (rd_T41 ps (i : Int)).f3.f1 = 1) := by
                        rcases hnx with ⟨a1, a2⟩ | ⟨a1, a2⟩
                        · exact Or.inl ⟨a1, by rw [a2], by rw [a2]⟩
                        · exact Or.inr ⟨a1, by rw [a2], by rw [a2]⟩
                      clear hnx
                      generalize (rd_T41 ps (k : Int)).f1 = C at *
                      generalize (rd_T41 ps (k : Int)).f4.f0 = T0 at *
                      generalize (rd_T41 ps (k : Int)).f4.f1 = T1 at *
                      have q8 : IntKind.i64.wrap (C + 1) = C + 1 := IntWalk.i64_in _ (by omega)
                      clear f0 f2 f3 f4 f7
                      have x0 : we.cell? ⟨gn, 0, none⟩ = some (.int .i64 n0) := cell_of_row we gn 0 _ _ (0, 0) (keep_blk HX4.out HBQ.out)
                      have hgn := lt_of (keep_blk HX4.out HBQ.out)
                      rcases hnx2 with ⟨a1, a2, a3⟩ | ⟨a1, a2, a3⟩
                      · rw [a1] at e1
                        rw [a2] at e3
                        rw [a3] at e4
                        have q7 : decide (C < C) = false := decide_eq_false (by omega)
                        have q9 : decide (C + 1 < C) = false := decide_eq_false (by omega)
                        clear a1 a2 a3
                        repeat (rename_i x_; revert x_)
                        (try revert A); (try revert Act); (try revert Addr); (try revert Below); (try revert Bo); (try revert C); (try revert ChA); (try revert Chain); (try revert F); (try revert HB); (try revert HB1); (try revert HB2); (try revert HB3); (try revert HB4); (try revert HBF); (try revert HBJ); (try revert HBQ); (try revert HBS); (try revert HC); (try revert HCO)
                        (try revert HD); (try revert HD2); (try revert HE); (try revert HE0); (try revert HE2); (try revert HGN); (try revert HI); (try revert HIK); (try revert HIO); (try revert HIO2); (try revert HJ); (try revert HLAY); (try revert HM); (try revert HN); (try revert HNX); (try revert HO); (try revert HP4); (try revert HPL); (try revert HRD); (try revert HRF)
                        (try revert HRW); (try revert HS); (try revert HSM); (try revert HX); (try revert HX1); (try revert HX2); (try revert HX3); (try revert HX4); (try revert InO); (try revert Kd); (try revert L49); (try revert LN); (try revert List); (try revert M); (try revert Nx); (try revert Option); (try revert Or); (try revert R); (try revert RA); (try revert RC)
                        (try revert RlA); (try revert SmF); (try revert T0); (try revert T1); (try revert Try); (try revert W0); (try revert WOrA); (try revert a); (try revert a1); (try revert a2); (try revert a3); (try revert absurd); (try revert at39); (try revert at41); (try revert b); (try revert bel); (try revert bs); (try revert c); (try revert c0); (try revert c3)
                        (try revert co); (try revert d); (try revert d1); (try revert d2); (try revert d3); (try revert d4); (try revert dict); (try revert dz); (try revert dz2); (try revert e); (try revert e0); (try revert e1); (try revert e2); (try revert e3); (try revert e4); (try revert e5); (try revert e59); (try revert e6); (try revert e60); (try revert e62)
                        (try revert e64); (try revert e65); (try revert e7); (try revert e_); (try revert er); (try revert ex); (try revert ex0); (try revert f0); (try revert f1); (try revert f2); (try revert f3); (try revert f4); (try revert f5); (try revert f6); (try revert f7); (try revert g); (try revert g'); (try revert gn); (try revert go_ret); (try revert go_wp2)
                        (try revert goes_); (try revert gp); (try revert gp'); (try revert h); (try revert h0); (try revert h1); (try revert h10); (try revert h11); (try revert h12); (try revert h2); (try revert h3); (try revert h41); (try revert h8); (try revert h9); (try revert hC1); (try revert hC2); (try revert hK); (try revert hL49); (try revert hM); (try revert hR)
                        (try revert ha); (try revert hb); (try revert hb7_); (try revert hbc); (try revert hbs); (try revert hc); (try revert hch); (try revert hcr); (try revert hdp); (try revert he); (try revert he0); (try revert he3); (try revert he4); (try revert hen); (try revert heq); (try revert hez); (try revert hft); (try revert hgl); (try revert hgn); (try revert hgp)
                        (try revert hi); (try revert hi0); (try revert hi1); (try revert hid); (try revert hii); (try revert hio); (try revert hio2); (try revert hj); (try revert hj0); (try revert hj1); (try revert hji); (try revert hjl); (try revert hjlt); (try revert hk); (try revert hk0); (try revert hkk); (try revert hkl); (try revert hl1); (try revert hl2); (try revert hlay)
                        (try revert hln); (try revert hlt); (try revert hm); (try revert hm0); (try revert hm1); (try revert hmi); (try revert hml); (try revert hn); (try revert hnl); (try revert hnot); (try revert hnx); (try revert hnx2); (try revert ho1); (try revert ho2); (try revert hoff); (try revert hon); (try revert hp); (try revert hpi); (try revert hpk); (try revert hpl)
                        (try revert hps); (try revert hr); (try revert hrel); (try revert hrt); (try revert hsl); (try revert hsm); (try revert hwe); (try revert hwk); (try revert hwn); (try revert hwq); (try revert hx); (try revert hxl); (try revert hy); (try revert hz); (try revert hzi); (try revert i); (try revert i0); (try revert i1); (try revert ind); (try revert int)
                        (try revert intOf); (try revert j); (try revert k); (try revert k39); (try revert l); (try revert low); (try revert lt_of); (try revert m); (try revert mem); (try revert mode); (try revert n); (try revert n0); (try revert n1); (try revert off); (try revert off'); (try revert only); (try revert op); (try revert op'); (try revert p); (try revert pa_)
                        (try revert pc_); (try revert ps); (try revert putSel); (try revert q); (try revert q1); (try revert q10); (try revert q11); (try revert q5); (try revert q6); (try revert q7); (try revert q8); (try revert q9); (try revert qs_); (try revert r_); (try revert ra_); (try revert rc_); (try revert rd_T39); (try revert rd_T41); (try revert round); (try revert rows_f)
                        (try revert rt); (try revert slots); (try revert steps); (try revert to49); (try revert upk); (try revert v); (try revert v11); (try revert v12); (try revert v7); (try revert v8); (try revert vals); (try revert w); (try revert w'); (try revert w''); (try revert w1); (try revert w2); (try revert we); (try revert wq); (try revert wr); (try revert wrap)
                        (try revert x0); (try revert x1); (try revert xs); (try revert y); (try revert u0); (try revert u1); (try revert u2); (try revert u3); (try revert u4); (try revert u5); (try revert u6); (try revert u7); (try revert u8); (try revert u9); (try revert u10); (try revert u11); (try revert u12); (try revert u13); (try revert u14); (try revert u15)
                        (try revert u16); (try revert u17); (try revert u18); (try revert u19); (try revert u20); (try revert u21); (try revert u22); (try revert u23); (try revert u24); (try revert u25); (try revert u26); (try revert u27); (try revert u28); (try revert u29); (try revert u30); (try revert u31); (try revert u32); (try revert u33); (try revert u34); (try revert u35)
                        (try revert u36); (try revert u37); (try revert u38); (try revert u39); (try revert u40); (try revert u41); (try revert u42); (try revert u43); (try revert u44); (try revert u45); (try revert u46); (try revert u47); (try revert u48); (try revert u49); (try revert u50); (try revert u51); (try revert u52); (try revert u53); (try revert u54); (try revert u55)
                        (try revert u56); (try revert u57); (try revert u58); (try revert u59); (try revert u60); (try revert u61); (try revert u62); (try revert u63); (try revert u64); (try revert u65); (try revert u66); (try revert u67); (try revert u68); (try revert u69); (try revert u70); (try revert u71); (try revert u72); (try revert u73); (try revert u74); (try revert u75)
                        (try revert u76); (try revert u77); (try revert u78); (try revert u79); (try revert u80); (try revert u81); (try revert u82); (try revert u83); (try revert u84); (try revert u85); (try revert u86); (try revert u87); (try revert u88); (try revert u89); (try revert u90); (try revert u91); (try revert u92); (try revert u93); (try revert u94); (try revert u95)
                        (try revert u96); (try revert u97); (try revert u98); (try revert u99); (try revert u100); (try revert u101); (try revert u102); (try revert u103); (try revert u104); (try revert u105); (try revert u106); (try revert u107); (try revert u108); (try revert u109); (try revert u110); (try revert u111); (try revert u112); (try revert u113); (try revert u114); (try revert u115)
                        (try revert u116); (try revert u117); (try revert u118); (try revert u119); (try revert u120); (try revert u121); (try revert u122); (try revert u123); (try revert u124); (try revert u125); (try revert u126); (try revert u127); (try revert u128); (try revert u129); (try revert u130); (try revert u131); (try revert u132); (try revert u133); (try revert u134); (try revert u135)
                        (try revert u136); (try revert u137); (try revert u138); (try revert u139); (try revert u140); (try revert u141); (try revert u142); (try revert u143); (try revert u144); (try revert u145); (try revert u146); (try revert u147); (try revert u148); (try revert u149); (try revert u150); (try revert u151); (try revert u152); (try revert u153); (try revert u154); (try revert u155)
                        (try revert u156); (try revert u157); (try revert u158); (try revert u159); (try revert u160); (try revert u161); (try revert u162); (try revert u163); (try revert u164); (try revert u165); (try revert u166); (try revert u167); (try revert u168); (try revert u169); (try revert u170); (try revert u171); (try revert u172); (try revert u173); (try revert u174); (try revert u175)
                        (try revert u176); (try revert u177); (try revert u178); (try revert u179); (try revert u180); (try revert u181); (try revert u182); (try revert u183); (try revert u184); (try revert u185); (try revert u186); (try revert u187); (try revert u188); (try revert u189); (try revert u190); (try revert u191); (try revert u192); (try revert u193); (try revert u194); (try revert u195)
                        (try revert u196); (try revert u197); (try revert u198); (try revert u199); (try revert u200); (try revert u201); (try revert u202); (try revert u203); (try revert u204); (try revert u205); (try revert u206); (try revert u207); (try revert u208); (try revert u209); (try revert u210); (try revert u211); (try revert u212); (try revert u213); (try revert u214); (try revert u215)
                        (try revert u216); (try revert u217); (try revert u218); (try revert u219); (try revert u220); (try revert u221); (try revert u222); (try revert u223); (try revert u224); (try revert u225); (try revert u226); (try revert u227); (try revert u228); (try revert u229); (try revert u230); (try revert u231); (try revert u232); (try revert u233); (try revert u234); (try revert u235)
                        (try revert u236); (try revert u237); (try revert u238); (try revert u239); (try revert u240); (try revert u241); (try revert u242); (try revert u243); (try revert u244); (try revert u245); (try revert u246); (try revert u247); (try revert u248); (try revert u249); (try revert u250); (try revert u251); (try revert u252); (try revert u253); (try revert u254); (try revert u255)
                        (try revert u256); (try revert u257); (try revert u258); (try revert u259); (try revert u260); (try revert u261); (try revert u262); (try revert u263); (try revert u264); (try revert u265); (try revert u266); (try revert u267); (try revert u268); (try revert u269); (try revert u270); (try revert u271); (try revert u272); (try revert u273); (try revert u274); (try revert u275)
                        (try revert u276); (try revert u277); (try revert u278); (try revert u279)
                        exact k2.out
                      · rw [a1] at e1
                        rw [a2] at e3
                        rw [a3] at e4
                        have q7 : decide (C + 1 < C + 1) = false := decide_eq_false (by omega)
                        have q9 : decide (C + 1 < C) = false := decide_eq_false (by omega)
                        have q10 : (C + 1 == C) = false := by rw [beq_eq_false_iff_ne]; omega
                        have q11 : decide (C < C + 1) = true := decide_eq_true (by omega)
                        clear a1 a2 a3
                        repeat (rename_i x_; revert x_)
                        (try revert A); (try revert Act); (try revert Addr); (try revert Below); (try revert Bo); (try revert C); (try revert ChA); (try revert Chain); (try revert F); (try revert HB); (try revert HB1); (try revert HB2); (try revert HB3); (try revert HB4); (try revert HBF); (try revert HBJ); (try revert HBQ); (try revert HBS); (try revert HC); (try revert HCO)
                        (try revert HD); (try revert HD2); (try revert HE); (try revert HE0); (try revert HE2); (try revert HGN); (try revert HI); (try revert HIK); (try revert HIO); (try revert HIO2); (try revert HJ); (try revert HLAY); (try revert HM); (try revert HN); (try revert HNX); (try revert HO); (try revert HP4); (try revert HPL); (try revert HRD); (try revert HRF)
                        (try revert HRW); (try revert HS); (try revert HSM); (try revert HX); (try revert HX1); (try revert HX2); (try revert HX3); (try revert HX4); (try revert InO); (try revert Kd); (try revert L49); (try revert LN); (try revert List); (try revert M); (try revert Nx); (try revert Option); (try revert Or); (try revert R); (try revert RA); (try revert RC)
                        (try revert RlA); (try revert SmF); (try revert T0); (try revert T1); (try revert Try); (try revert W0); (try revert WOrA); (try revert a); (try revert a1); (try revert a2); (try revert a3); (try revert absurd); (try revert at39); (try revert at41); (try revert b); (try revert bel); (try revert bs); (try revert c); (try revert c0); (try revert c3)
                        (try revert co); (try revert d); (try revert d1); (try revert d2); (try revert d3); (try revert d4); (try revert dict); (try revert dz); (try revert dz2); (try revert e); (try revert e0); (try revert e1); (try revert e2); (try revert e3); (try revert e4); (try revert e5); (try revert e59); (try revert e6); (try revert e60); (try revert e62)
                        (try revert e64); (try revert e65); (try revert e7); (try revert e_); (try revert er); (try revert ex); (try revert ex0); (try revert f0); (try revert f1); (try revert f2); (try revert f3); (try revert f4); (try revert f5); (try revert f6); (try revert f7); (try revert g); (try revert g'); (try revert gn); (try revert go_ret); (try revert go_wp2)
                        (try revert goes_); (try revert gp); (try revert gp'); (try revert h); (try revert h0); (try revert h1); (try revert h10); (try revert h11); (try revert h12); (try revert h2); (try revert h3); (try revert h41); (try revert h8); (try revert h9); (try revert hC1); (try revert hC2); (try revert hK); (try revert hL49); (try revert hM); (try revert hR)
                        (try revert ha); (try revert hb); (try revert hb7_); (try revert hbc); (try revert hbs); (try revert hc); (try revert hch); (try revert hcr); (try revert hdp); (try revert he); (try revert he0); (try revert he3); (try revert he4); (try revert hen); (try revert heq); (try revert hez); (try revert hft); (try revert hgl); (try revert hgn); (try revert hgp)
                        (try revert hi); (try revert hi0); (try revert hi1); (try revert hid); (try revert hii); (try revert hio); (try revert hio2); (try revert hj); (try revert hj0); (try revert hj1); (try revert hji); (try revert hjl); (try revert hjlt); (try revert hk); (try revert hk0); (try revert hkk); (try revert hkl); (try revert hl1); (try revert hl2); (try revert hlay)
                        (try revert hln); (try revert hlt); (try revert hm); (try revert hm0); (try revert hm1); (try revert hmi); (try revert hml); (try revert hn); (try revert hnl); (try revert hnot); (try revert hnx); (try revert hnx2); (try revert ho1); (try revert ho2); (try revert hoff); (try revert hon); (try revert hp); (try revert hpi); (try revert hpk); (try revert hpl)
                        (try revert hps); (try revert hr); (try revert hrel); (try revert hrt); (try revert hsl); (try revert hsm); (try revert hwe); (try revert hwk); (try revert hwn); (try revert hwq); (try revert hx); (try revert hxl); (try revert hy); (try revert hz); (try revert hzi); (try revert i); (try revert i0); (try revert i1); (try revert ind); (try revert int)
                        (try revert intOf); (try revert j); (try revert k); (try revert k39); (try revert l); (try revert low); (try revert lt_of); (try revert m); (try revert mem); (try revert mode); (try revert n); (try revert n0); (try revert n1); (try revert off); (try revert off'); (try revert only); (try revert op); (try revert op'); (try revert p); (try revert pa_)
                        (try revert pc_); (try revert ps); (try revert putSel); (try revert q); (try revert q1); (try revert q10); (try revert q11); (try revert q5); (try revert q6); (try revert q7); (try revert q8); (try revert q9); (try revert qs_); (try revert r_); (try revert ra_); (try revert rc_); (try revert rd_T39); (try revert rd_T41); (try revert round); (try revert rows_f)
                        (try revert rt); (try revert slots); (try revert steps); (try revert to49); (try revert upk); (try revert v); (try revert v11); (try revert v12); (try revert v7); (try revert v8); (try revert vals); (try revert w); (try revert w'); (try revert w''); (try revert w1); (try revert w2); (try revert we); (try revert wq); (try revert wr); (try revert wrap)
                        (try revert x0); (try revert x1); (try revert xs); (try revert y); (try revert u0); (try revert u1); (try revert u2); (try revert u3); (try revert u4); (try revert u5); (try revert u6); (try revert u7); (try revert u8); (try revert u9); (try revert u10); (try revert u11); (try revert u12); (try revert u13); (try revert u14); (try revert u15)
                        (try revert u16); (try revert u17); (try revert u18); (try revert u19); (try revert u20); (try revert u21); (try revert u22); (try revert u23); (try revert u24); (try revert u25); (try revert u26); (try revert u27); (try revert u28); (try revert u29); (try revert u30); (try revert u31); (try revert u32); (try revert u33); (try revert u34); (try revert u35)
                        (try revert u36); (try revert u37); (try revert u38); (try revert u39); (try revert u40); (try revert u41); (try revert u42); (try revert u43); (try revert u44); (try revert u45); (try revert u46); (try revert u47); (try revert u48); (try revert u49); (try revert u50); (try revert u51); (try revert u52); (try revert u53); (try revert u54); (try revert u55)
                        (try revert u56); (try revert u57); (try revert u58); (try revert u59); (try revert u60); (try revert u61); (try revert u62); (try revert u63); (try revert u64); (try revert u65); (try revert u66); (try revert u67); (try revert u68); (try revert u69); (try revert u70); (try revert u71); (try revert u72); (try revert u73); (try revert u74); (try revert u75)
                        (try revert u76); (try revert u77); (try revert u78); (try revert u79); (try revert u80); (try revert u81); (try revert u82); (try revert u83); (try revert u84); (try revert u85); (try revert u86); (try revert u87); (try revert u88); (try revert u89); (try revert u90); (try revert u91); (try revert u92); (try revert u93); (try revert u94); (try revert u95)
                        (try revert u96); (try revert u97); (try revert u98); (try revert u99); (try revert u100); (try revert u101); (try revert u102); (try revert u103); (try revert u104); (try revert u105); (try revert u106); (try revert u107); (try revert u108); (try revert u109); (try revert u110); (try revert u111); (try revert u112); (try revert u113); (try revert u114); (try revert u115)
                        (try revert u116); (try revert u117); (try revert u118); (try revert u119); (try revert u120); (try revert u121); (try revert u122); (try revert u123); (try revert u124); (try revert u125); (try revert u126); (try revert u127); (try revert u128); (try revert u129); (try revert u130); (try revert u131); (try revert u132); (try revert u133); (try revert u134); (try revert u135)
                        (try revert u136); (try revert u137); (try revert u138); (try revert u139); (try revert u140); (try revert u141); (try revert u142); (try revert u143); (try revert u144); (try revert u145); (try revert u146); (try revert u147); (try revert u148); (try revert u149); (try revert u150); (try revert u151); (try revert u152); (try revert u153); (try revert u154); (try revert u155)
                        (try revert u156); (try revert u157); (try revert u158); (try revert u159); (try revert u160); (try revert u161); (try revert u162); (try revert u163); (try revert u164); (try revert u165); (try revert u166); (try revert u167); (try revert u168); (try revert u169); (try revert u170); (try revert u171); (try revert u172); (try revert u173); (try revert u174); (try revert u175)
                        (try revert u176); (try revert u177); (try revert u178); (try revert u179); (try revert u180); (try revert u181); (try revert u182); (try revert u183); (try revert u184); (try revert u185); (try revert u186); (try revert u187); (try revert u188); (try revert u189); (try revert u190); (try revert u191); (try revert u192); (try revert u193); (try revert u194); (try revert u195)
                        (try revert u196); (try revert u197); (try revert u198); (try revert u199); (try revert u200); (try revert u201); (try revert u202); (try revert u203); (try revert u204); (try revert u205); (try revert u206); (try revert u207); (try revert u208); (try revert u209); (try revert u210); (try revert u211); (try revert u212); (try revert u213); (try revert u214); (try revert u215)
                        (try revert u216); (try revert u217); (try revert u218); (try revert u219); (try revert u220); (try revert u221); (try revert u222); (try revert u223); (try revert u224); (try revert u225); (try revert u226); (try revert u227); (try revert u228); (try revert u229); (try revert u230); (try revert u231); (try revert u232); (try revert u233); (try revert u234); (try revert u235)
                        (try revert u236); (try revert u237); (try revert u238); (try revert u239); (try revert u240); (try revert u241); (try revert u242); (try revert u243); (try revert u244); (try revert u245); (try revert u246); (try revert u247); (try revert u248); (try revert u249); (try revert u250); (try revert u251); (try revert u252); (try revert u253); (try revert u254); (try revert u255)
                        (try revert u256); (try revert u257); (try revert u258); (try revert u259); (try revert u260); (try revert u261); (try revert u262); (try revert u263); (try revert u264); (try revert u265); (try revert u266); (try revert u267); (try revert u268); (try revert u269); (try revert u270); (try revert u271); (try revert u272); (try revert u273); (try revert u274); (try revert u275)
                        (try revert u276); (try revert u277); (try revert u278); (try revert u279)
                        exact k3.out
              · have hii : ¬ (i : Int) < ps.length := by omega
                have HBJ := Side.mk (below_then HB4.out HB4.out.size HI.out.2)
                go_wp2
                go_ret
                exact ⟨rfl, HBJ.out⟩

end Go.Proofs.Ytkgafogkeaaniaa.WOrWp
