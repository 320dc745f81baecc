/- The reference's Lay. No condition. -/
import Derived.Test.YtkgafogkeaaniaaRlAzm
set_option linter.unusedVariables false
set_option linter.unusedSimpArgs false
namespace Go.Proofs.Ytkgafogkeaaniaa.RlB
open Go.RowKit Go.Proofs.Ytkgafogkeaaniaa.Kit Go.Proofs.Ytkgafogkeaaniaa.Kit3 Go.Proofs.Ytkgafogkeaaniaa.Kit4 Go.Proofs.Ytkgafogkeaaniaa.Kit5 Go.Proofs.Ytkgafogkeaaniaa.WlA Go.Proofs.Ytkgafogkeaaniaa.WlC Go.Proofs.Ytkgafogkeaaniaa.RlA
open Go.Proofs.Ytkgafogkeaaniaa.PW
open Go.Proofs.YtkgafogkeaaniaaW.PrintLast
open Go.Proofs.YtkgafogkeaaniaaW.PrintWords hiding below_then below_alloc below_drew
set_option maxHeartbeats 40000000 in
set_option maxRecDepth 100000 in
theorem ref_at (k F : Nat) (A : Option Addr) (c : Nat) (l : List S39) (fr tt co e : Int) (OUT : List S41) (w : World) (hr : Kd.C k39 w A l.length l) (hc : l.length ≤ c) (b1 : -1048576 ≤ fr) (b2 : fr ≤ 1048576) (b3 : tt ≤ fr + 1024) (h : refF k F l fr tt co = some (OUT, e)) :
    Calls Try.prog 13 #[.slice A l.length c, .int .i64 fr, .int .i64 tt, .int .i64 co] w fun r w' => ∃ v, r = .returned (.tuple #[v, .int .i64 e]) ∧ PRow w' w.heap.size v OUT ∧ Below w.heap.size w w' := by
  unfold refF at h
  have HR := Side.mk hr
  have hln : (l.length : Int) ≤ 9223372036854775807 := by have := hr.2.1; omega
  have HC := Side.mk hc
  clear hr hc
  by_cases h1 : fr ≥ tt
  · rw [if_pos h1] at h
    simp only [Option.some.injEq, Prod.mk.injEq] at h
    obtain ⟨rfl, rfl⟩ := h
    clear b1 b2 b3
    go_enter Try.func13, Try.ntmps13
    go_wp2
    go_ret2
    exact ⟨_, rfl, GRow.nil _ _, Below.refl _ _⟩
  rw [if_neg h1] at h
  by_cases h2 : co < 1
  · rw [if_pos h2] at h
    simp only [Option.some.injEq, Prod.mk.injEq] at h
    obtain ⟨rfl, rfl⟩ := h
    clear b1 b2 b3
    go_enter Try.func13, Try.ntmps13
    go_wp2
    go_ret2
    exact ⟨_, rfl, GRow.nil _ _, Below.refl _ _⟩
  rw [if_neg h2] at h
  by_cases h3 : co > 64
  · rw [if_pos h3] at h
    simp only [Option.some.injEq, Prod.mk.injEq] at h
    obtain ⟨rfl, rfl⟩ := h
    clear b1 b2 b3
    go_enter Try.func13, Try.ntmps13
    go_wp2
    go_ret2
    exact ⟨_, rfl, GRow.nil _ _, Below.refl _ _⟩
  rw [if_neg h3] at h
  obtain ⟨ok, hok, h⟩ := Option.bind_eq_some_iff.1 h
  have HOK := Side.mk hok
  have HH := Side.mk h
  clear h hok
  have hG1 : tt - fr ≤ 1024 := by omega
  have hG0 : 0 ≤ tt - fr := by omega
  obtain ⟨G, hG⟩ : ∃ G, G = tt - fr := ⟨_, rfl⟩
  have hwG : IntKind.i64.wrap (tt - fr) = G := by rw [hG]; exact IntWalk.i64_in _ (by omega)
  rw [← hG] at HOK HH hG1 hG0
  have HG := Side.mk hG
  clear hG
  go_enter Try.func13, Try.ntmps13
  go_wp2_with fail
  refine (RWholeQ _ _).out.mono ?_
  rintro r_ w1 ⟨rfl, hb1⟩
  have HB1 := Side.mk hb1
  clear hb1
  go_upto_region 4 with (fail)
  have HZ : Side ((w1.alloc (.cells #[.int .i64 G, .int .i64 1] 37)).heap[w1.heap.size]? = some (rat G 1)) := ⟨heap_alloc_new w1 _⟩
  have HB2 : Side (Below w.heap.size w (w1.alloc (.cells #[.int .i64 G, .int .i64 1] 37))) := ⟨HB1.out.alloc HB1.out.size _⟩
  have HGZ : Side (w.heap.size ≤ w1.heap.size) := ⟨HB1.out.size⟩
  clear HB1
  generalize w1.alloc (.cells #[.int .i64 G, .int .i64 1] 37) = w2 at *
  generalize w1.heap.size = gz at *
  go_wp2_with fail
  refine (RWholeQ _ _).out.mono ?_
  rintro r_ w3 ⟨rfl, hb3⟩
  have HZ3 := Side.mk (keep_blk HZ.out hb3)
  have HB3 := Side.mk (below_then HB2.out HB2.out.size hb3)
  clear hb3 HZ HB2
  go_upto_region 5 with (fail)
  have hba := (Below.refl w3.heap.size w3).alloc (Nat.le_refl _) (.cells #[.int .i64 0, .int .i64 1] 37)
  have HS : Side ((w3.alloc (.cells #[.int .i64 0, .int .i64 1] 37)).heap[w3.heap.size]? = some (rat 0 1)) := ⟨heap_alloc_new w3 _⟩
  have HZ4 := Side.mk (keep_blk HZ3.out hba)
  have HB4 := Side.mk (below_then HB3.out HB3.out.size hba)
  have HGS : Side (w.heap.size ≤ w3.heap.size ∧ w3.heap.size ≠ gz) := ⟨HB3.out.size, by have := lt_of HZ3.out; omega⟩
  clear hba HZ3 HB3
  generalize w3.alloc (.cells #[.int .i64 0, .int .i64 1] 37) = W at *
  generalize w3.heap.size = gs at *
  have HRW : Side (∀ w', Below w.heap.size w w' → Kd.C k39 w' A l.length l) := ⟨fun w' hb => Kd.C_below HR.out hb⟩
  clear HR
  go_wp2_with fail
  go_loopw [12] (fun v12 wr => ∃ j : Nat, v12 = .int .i64 (j : Int) ∧ j ≤ l.length ∧ Side (mayR k G (l.drop j) = some ok ∧ Below W.heap.size W wr)) (fun v12 _ => (l.length - intOf v12).toNat)
  case atStart => exact ⟨0, rfl, Nat.zero_le _, ⟨HOK.out, Below.refl _ _⟩⟩
  case round =>
    clear HOK
    obtain ⟨j, rfl, hj, HI⟩ := hrel
    have hj0 : (0 : Int) ≤ j := by omega
    obtain ⟨wq, hwq⟩ : ∃ wq, wq = wr := ⟨_, rfl⟩
    rw [← hwq] at HI ⊢
    clear hwq
    by_cases hlt : j < l.length
    · have hjj : (j : Int) < l.length := by omega
      have hj1 : (j : Int) + 1 ≤ 9223372036854775807 := by omega
      obtain ⟨g, off, rfl, hgl, c0, c1, c2, c3⟩ := at39 (HRW.out wq (below_then HB4.out HB4.out.size HI.out.2)) j hlt
      have hm := HI.out.1
      rw [rd39 hlt] at hm
      generalize rd_T39 l (j : Int) = x at *
      obtain ⟨x0, ⟨x1, x2⟩, x3⟩ := x
      simp only at c0 c1 c2 c3
      simp only [mayR] at hm
      obtain ⟨m, hm1, hm⟩ := Option.bind_eq_some_iff.1 hm
      have HM1 := Side.mk hm1
      have HM := Side.mk hm
      have HBQ := Side.mk HI.out.2
      clear hm1 hm HI
      have z0 := rat0 (keep_blk HZ4.out HBQ.out)
      have z1 := rat1 (keep_blk HZ4.out HBQ.out)
      have hgz := lt_of (keep_blk HZ4.out HBQ.out)
      have DR : Side (∀ w', Below wq.drew.heap.size wq.drew w' → Below wq.heap.size wq w') := ⟨fun w' hb => below_then (below_drew (Below.refl _ wq)) (Nat.le_refl _) hb⟩
      go_upto_region 8 with (fail)
      have hm := HM.out
      cases m with
      | false =>
        rw [if_neg (show ¬ (false = true) by decide)] at hm
        obtain rfl : false = ok := Option.some.inj hm
        have h2 := HH.out
        rw [if_neg (show ¬ (false = true) by decide)] at h2
        simp only [Option.some.injEq, Prod.mk.injEq] at h2
        obtain ⟨rfl, rfl⟩ := h2
        clear hm HH HM
        refine start_ (n := 25) (S := fun w' => True) (ds := []) #[false, false, false, false, false, false, false, false, false, false, false, false, false, false, false, false, false, false, false, false, false, false, false, false, false] (by kernel_rfl) rfl rfl trivial (fun _ => ?_)
        refine inv_at (B := [0, 0, 3, 7, 15, 31, 63, 127, 255, 255, 1023, 2047, 4095, 8191, 16383, 32767, 65535, 131071, 131071, 131071, 917503, 1966079, 4063231, 8388607, 16777215]) [0, 1, 2, 3, 4, 5, 6, 7, 8, 9, 10, 11, 12, 13, 14, 15, 16, 17, 18, 19, 20, 21, 22, 23, 24] (fun a0_ b a w' => a = putSel a0_ b [(0, 44, .slice (some ⟨g, off, none⟩) l.length c), (1, 45, .int .i64 j), (2, 46, .pointer (some ⟨g, off + j * 4, none⟩)), (3, 47, .pointer (some ⟨g, off + j * 4 + 1, none⟩)), (4, 48, .agg #[.int .i64 x1, .int .i64 x2]), (5, 49, .bool false), (6, 50, .bool true), (7, 51, .bool true), (8, 52, undef), (9, 53, undef), (10, 54, undef), (11, 55, undef), (12, 56, undef), (13, 57, undef), (14, 58, undef), (15, 59, .bool true), (16, 60, .bool true), (17, 61, undef), (18, 62, undef), (19, 63, undef), (20, 64, undef), (21, 65, undef), (22, 66, undef), (23, 67, undef), (24, 68, .bool true)] ∧ Below wq.drew.heap.size wq.drew w') rfl (by kernel_rfl) (by kernel_rfl) (by kernel_rfl) ?_ ?_ ?_
        · exact ⟨by simp only [putSel, Bool.false_eq_true, if_false], Below.refl _ _⟩
        · refine steps_cons (by rintro b a w' ⟨ha, HI⟩ hb hon hoff; refine ⟨_, rfl, fun K hK => ?_⟩; have e0 := poff ha (t := 0) rfl rfl; exact value_ (v := .slice (some ⟨g, off, none⟩) l.length c) (by rfl) rfl (by clear HI ha; go_simp) (hK.out _ _ ⟨upk ha 0 hb rfl rfl, HI⟩)) ?_
          refine steps_cons (by rintro b a w' ⟨ha, HI⟩ hb hon hoff; refine ⟨_, rfl, fun K hK => ?_⟩; have e12 := poff ha (t := 12) rfl rfl; exact value_ (v := .int .i64 j) (by rfl) rfl (by clear HI ha; go_simp) (hK.out _ _ ⟨upk ha 1 hb rfl rfl, HI⟩)) ?_
          refine steps_cons (by rintro b a w' ⟨ha, HI⟩ hb hon hoff; refine ⟨_, rfl, fun K hK => ?_⟩; have e44 := pon ha 0 (hon 0 rfl) rfl rfl rfl; have e45 := pon ha 1 (hon 1 rfl) rfl rfl rfl; exact value_ (v := .pointer (some ⟨g, off + j * 4, none⟩)) (by rfl) rfl (by clear HI ha; go_simp) (hK.out _ _ ⟨upk ha 2 hb rfl rfl, HI⟩)) ?_
          refine steps_cons (by rintro b a w' ⟨ha, HI⟩ hb hon hoff; refine ⟨_, rfl, fun K hK => ?_⟩; have e46 := pon ha 2 (hon 2 rfl) rfl rfl rfl; exact value_ (v := .pointer (some ⟨g, off + j * 4 + 1, none⟩)) (by rfl) rfl (by clear HI ha; go_simp) (hK.out _ _ ⟨upk ha 3 hb rfl rfl, HI⟩)) ?_
          refine steps_cons (by rintro b a w' ⟨ha, HI⟩ hb hon hoff; refine ⟨_, rfl, fun K hK => ?_⟩; have e47 := pon ha 3 (hon 3 rfl) rfl rfl rfl; have k0_ := bc HI hgl c1; have k1_ := bc HI hgl c2; have kz_ := bz HI hgl; exact value_ (v := .agg #[.int .i64 x1, .int .i64 x2]) (by rfl) rfl (by clear HI ha; go_simp) (hK.out _ _ ⟨upk ha 4 hb rfl rfl, HI⟩)) ?_
          refine steps_cons (by rintro b a w' ⟨ha, HI⟩ hb hon hoff; refine ⟨_, rfl, fun K hK => ?_⟩; have e48 := pon ha 4 (hon 4 rfl) rfl rfl rfl; refine goes_ Try.func30 (by kernel_rfl) rfl #[.agg #[.int .i64 x1, .int .i64 x2]] (by rfl) rfl rfl (by simp [Act.eval, e48]) ((RMayQ HM1.out _).out.mono ?_); rintro e_ w'' ⟨rfl, hbc⟩; exact ⟨_, rfl, hK.out _ _ ⟨upk ha 5 hb rfl rfl, below_then HI HI.size hbc⟩⟩) ?_
          refine steps_cons (by rintro b a w' ⟨ha, HI⟩ hb hon hoff; refine ⟨_, rfl, fun K hK => ?_⟩; have e49 := pon ha 5 (hon 5 rfl) rfl rfl rfl; exact value_ (v := .bool true) (by rfl) rfl (by clear HI ha; go_simp) (hK.out _ _ ⟨upk ha 6 hb rfl rfl, HI⟩)) ?_
          refine steps_cons (by rintro b a w' ⟨ha, HI⟩ hb hon hoff; refine ⟨_, rfl, fun K hK => ?_⟩; have e50 := pon ha 6 (hon 6 rfl) rfl rfl rfl; exact value_ (v := .bool true) (by rfl) rfl (by clear HI ha; go_simp) (hK.out _ _ ⟨upk ha 7 hb rfl rfl, HI⟩)) ?_
          refine steps_cons (by rintro b a w' ⟨ha, HI⟩ hb hon hoff; refine ⟨_, rfl, fun K hK => ?_⟩; have e0 := poff ha (t := 0) rfl rfl; have e51 := pon ha 7 (hon 7 rfl) rfl rfl rfl; exact off_ (wanted_off (t := 51) (u := false) rfl rfl rfl e51) (hK.out _ _ ⟨upk ha 8 hb rfl rfl, HI⟩)) ?_
          refine steps_cons (by rintro b a w' ⟨ha, HI⟩ hb hon hoff; refine ⟨_, rfl, fun K hK => ?_⟩; have e12 := poff ha (t := 12) rfl rfl; have e51 := pon ha 7 (hon 7 rfl) rfl rfl rfl; exact off_ (wanted_off (t := 51) (u := false) rfl rfl rfl e51) (hK.out _ _ ⟨upk ha 9 hb rfl rfl, HI⟩)) ?_
          refine steps_cons (by rintro b a w' ⟨ha, HI⟩ hb hon hoff; refine ⟨_, rfl, fun K hK => ?_⟩; have e52 := pon ha 8 (hon 8 rfl) rfl rfl rfl; have e53 := pon ha 9 (hon 9 rfl) rfl rfl rfl; have e51 := pon ha 7 (hon 7 rfl) rfl rfl rfl; exact off_ (wanted_off (t := 51) (u := false) rfl rfl rfl e51) (hK.out _ _ ⟨upk ha 10 hb rfl rfl, HI⟩)) ?_
          refine steps_cons (by rintro b a w' ⟨ha, HI⟩ hb hon hoff; refine ⟨_, rfl, fun K hK => ?_⟩; have e54 := pon ha 10 (hon 10 rfl) rfl rfl rfl; have e51 := pon ha 7 (hon 7 rfl) rfl rfl rfl; exact off_ (wanted_off (t := 51) (u := false) rfl rfl rfl e51) (hK.out _ _ ⟨upk ha 11 hb rfl rfl, HI⟩)) ?_
          refine steps_cons (by rintro b a w' ⟨ha, HI⟩ hb hon hoff; refine ⟨_, rfl, fun K hK => ?_⟩; have e55 := pon ha 11 (hon 11 rfl) rfl rfl rfl; have e51 := pon ha 7 (hon 7 rfl) rfl rfl rfl; exact off_ (wanted_off (t := 51) (u := false) rfl rfl rfl e51) (hK.out _ _ ⟨upk ha 12 hb rfl rfl, HI⟩)) ?_
          refine steps_cons (by rintro b a w' ⟨ha, HI⟩ hb hon hoff; refine ⟨_, rfl, fun K hK => ?_⟩; have e56 := pon ha 12 (hon 12 rfl) rfl rfl rfl; have e51 := pon ha 7 (hon 7 rfl) rfl rfl rfl; exact off_ (wanted_off (t := 51) (u := false) rfl rfl rfl e51) (hK.out _ _ ⟨upk ha 13 hb rfl rfl, HI⟩)) ?_
          refine steps_cons (by rintro b a w' ⟨ha, HI⟩ hb hon hoff; refine ⟨_, rfl, fun K hK => ?_⟩; have e57 := pon ha 13 (hon 13 rfl) rfl rfl rfl; have e51 := pon ha 7 (hon 7 rfl) rfl rfl rfl; exact off_ (wanted_off (t := 51) (u := false) rfl rfl rfl e51) (hK.out _ _ ⟨upk ha 14 hb rfl rfl, HI⟩)) ?_
          refine steps_cons (by rintro b a w' ⟨ha, HI⟩ hb hon hoff; refine ⟨_, rfl, fun K hK => ?_⟩; have e51 := pon ha 7 (hon 7 rfl) rfl rfl rfl; have e58 := pon ha 14 (hon 14 rfl) rfl rfl rfl; exact value_ (v := .bool true) (by rfl) rfl (by clear HI ha; go_simp) (hK.out _ _ ⟨upk ha 15 hb rfl rfl, HI⟩)) ?_
          refine steps_cons (by rintro b a w' ⟨ha, HI⟩ hb hon hoff; refine ⟨_, rfl, fun K hK => ?_⟩; have e59 := pon ha 15 (hon 15 rfl) rfl rfl rfl; exact value_ (v := .bool true) (by rfl) rfl (by clear HI ha; go_simp) (hK.out _ _ ⟨upk ha 16 hb rfl rfl, HI⟩)) ?_
          refine steps_cons (by rintro b a w' ⟨ha, HI⟩ hb hon hoff; refine ⟨_, rfl, fun K hK => ?_⟩; have e10 := poff ha (t := 10) rfl rfl; have e60 := pon ha 16 (hon 16 rfl) rfl rfl rfl; exact off_ (wanted_off (t := 60) (u := false) rfl rfl rfl e60) (hK.out _ _ ⟨upk ha 17 hb rfl rfl, HI⟩)) ?_
          refine steps_cons (by rintro b a w' ⟨ha, HI⟩ hb hon hoff; refine ⟨_, rfl, fun K hK => ?_⟩; have e0 := poff ha (t := 0) rfl rfl; have e60 := pon ha 16 (hon 16 rfl) rfl rfl rfl; exact off_ (wanted_off (t := 60) (u := false) rfl rfl rfl e60) (hK.out _ _ ⟨upk ha 18 hb rfl rfl, HI⟩)) ?_
          refine steps_cons (by rintro b a w' ⟨ha, HI⟩ hb hon hoff; refine ⟨_, rfl, fun K hK => ?_⟩; have e12 := poff ha (t := 12) rfl rfl; have e60 := pon ha 16 (hon 16 rfl) rfl rfl rfl; exact off_ (wanted_off (t := 60) (u := false) rfl rfl rfl e60) (hK.out _ _ ⟨upk ha 19 hb rfl rfl, HI⟩)) ?_
          refine steps_cons (by rintro b a w' ⟨ha, HI⟩ hb hon hoff; refine ⟨_, rfl, fun K hK => ?_⟩; have e62 := pon ha 18 (hon 18 rfl) rfl rfl rfl; have e63 := pon ha 19 (hon 19 rfl) rfl rfl rfl; have e60 := pon ha 16 (hon 16 rfl) rfl rfl rfl; exact off_ (wanted_off (t := 60) (u := false) rfl rfl rfl e60) (hK.out _ _ ⟨upk ha 20 hb rfl rfl, HI⟩)) ?_
          refine steps_cons (by rintro b a w' ⟨ha, HI⟩ hb hon hoff; refine ⟨_, rfl, fun K hK => ?_⟩; have e64 := pon ha 20 (hon 20 rfl) rfl rfl rfl; have e60 := pon ha 16 (hon 16 rfl) rfl rfl rfl; exact off_ (wanted_off (t := 60) (u := false) rfl rfl rfl e60) (hK.out _ _ ⟨upk ha 21 hb rfl rfl, HI⟩)) ?_
          refine steps_cons (by rintro b a w' ⟨ha, HI⟩ hb hon hoff; refine ⟨_, rfl, fun K hK => ?_⟩; have e65 := pon ha 21 (hon 21 rfl) rfl rfl rfl; have e60 := pon ha 16 (hon 16 rfl) rfl rfl rfl; exact off_ (wanted_off (t := 60) (u := false) rfl rfl rfl e60) (hK.out _ _ ⟨upk ha 22 hb rfl rfl, HI⟩)) ?_
          refine steps_cons (by rintro b a w' ⟨ha, HI⟩ hb hon hoff; refine ⟨_, rfl, fun K hK => ?_⟩; have e61 := pon ha 17 (hon 17 rfl) rfl rfl rfl; have e66 := pon ha 22 (hon 22 rfl) rfl rfl rfl; have e60 := pon ha 16 (hon 16 rfl) rfl rfl rfl; exact off_ (wanted_off (t := 60) (u := false) rfl rfl rfl e60) (hK.out _ _ ⟨upk ha 23 hb rfl rfl, HI⟩)) ?_
          refine steps_cons (by rintro b a w' ⟨ha, HI⟩ hb hon hoff; refine ⟨_, rfl, fun K hK => ?_⟩; have e60 := pon ha 16 (hon 16 rfl) rfl rfl rfl; have e67 := pon ha 23 (hon 23 rfl) rfl rfl rfl; exact value_ (v := .bool true) (by rfl) rfl (by clear HI ha; go_simp) (hK.out _ _ ⟨upk ha 24 hb rfl rfl, HI⟩)) ?_
          exact steps_nil
        · rintro b a w' hall ⟨ha, HI⟩
          have hb0_ := hall 0 rfl; have hb1_ := hall 1 rfl; have hb2_ := hall 2 rfl; have hb3_ := hall 3 rfl; have hb4_ := hall 4 rfl; have hb5_ := hall 5 rfl; have hb6_ := hall 6 rfl; have hb7_ := hall 7 rfl
          have hb8_ := hall 8 rfl; have hb9_ := hall 9 rfl; have hb10_ := hall 10 rfl; have hb11_ := hall 11 rfl; have hb12_ := hall 12 rfl; have hb13_ := hall 13 rfl; have hb14_ := hall 14 rfl; have hb15_ := hall 15 rfl
          have hb16_ := hall 16 rfl; have hb17_ := hall 17 rfl; have hb18_ := hall 18 rfl; have hb19_ := hall 19 rfl; have hb20_ := hall 20 rfl; have hb21_ := hall 21 rfl; have hb22_ := hall 22 rfl; have hb23_ := hall 23 rfl
          have hb24_ := hall 24 rfl
          subst ha
          simp only [putSel, hb0_, hb1_, hb2_, hb3_, hb4_, hb5_, hb6_, hb7_, hb8_, hb9_, hb10_, hb11_, hb12_, hb13_, hb14_, hb15_, hb16_, hb17_, hb18_, hb19_, hb20_, hb21_, hb22_, hb23_, hb24_, if_true, Act.put, List.setIfInBounds_toArray, List.set_cons_zero, List.set_cons_succ]
          have HB5 := Side.mk (DR.out _ HI)
          clear hall HI hb0_ hb1_ hb2_ hb3_ hb4_ hb5_ hb6_ hb7_ hb8_ hb9_ hb10_ hb11_ hb12_ hb13_ hb14_ hb15_ hb16_ hb17_ hb18_ hb19_ hb20_ hb21_ hb22_ hb23_ hb24_
          refine ‹∀ (a : Act) (w : World), Code.wp Try.prog _ _ a w → _› _ _ ?_
          have HBF := Side.mk (below_then HB4.out HB4.out.size (below_then HBQ.out HBQ.out.size HB5.out))
          clear HB5
          go_wp2
          go_ret2
          exact ⟨_, rfl, GRow.nil _ _, HBF.out⟩
      | true =>
        rw [if_pos rfl] at hm
        by_cases hneg : x1 < 0
        · rw [if_pos hneg] at hm
          have n1 := decide_eq_true hneg
          obtain rfl : false = ok := Option.some.inj hm
          have h2 := HH.out
          rw [if_neg (show ¬ (false = true) by decide)] at h2
          simp only [Option.some.injEq, Prod.mk.injEq] at h2
          obtain ⟨rfl, rfl⟩ := h2
          clear hm HH HM
          refine start_ (n := 25) (S := fun w' => True) (ds := []) #[false, false, false, false, false, false, false, false, false, false, false, false, false, false, false, false, false, false, false, false, false, false, false, false, false] (by kernel_rfl) rfl rfl trivial (fun _ => ?_)
          refine inv_at (B := [0, 0, 3, 7, 15, 31, 63, 127, 255, 255, 1023, 2047, 4095, 8191, 16383, 32767, 65535, 131071, 131071, 131071, 917503, 1966079, 4063231, 8388607, 16777215]) [0, 1, 2, 3, 4, 5, 6, 7, 8, 9, 10, 11, 12, 13, 14, 15, 16, 17, 18, 19, 20, 21, 22, 23, 24] (fun a0_ b a w' => a = putSel a0_ b [(0, 44, .slice (some ⟨g, off, none⟩) l.length c), (1, 45, .int .i64 j), (2, 46, .pointer (some ⟨g, off + j * 4, none⟩)), (3, 47, .pointer (some ⟨g, off + j * 4 + 1, none⟩)), (4, 48, .agg #[.int .i64 x1, .int .i64 x2]), (5, 49, .bool true), (6, 50, .bool false), (7, 51, .bool false), (8, 52, .slice (some ⟨g, off, none⟩) l.length c), (9, 53, .int .i64 j), (10, 54, .pointer (some ⟨g, off + j * 4, none⟩)), (11, 55, .pointer (some ⟨g, off + j * 4 + 1, none⟩)), (12, 56, .pointer (some ⟨g, off + j * 4 + 1, none⟩)), (13, 57, .int .i64 x1), (14, 58, .bool true), (15, 59, .bool true), (16, 60, .bool true), (17, 61, undef), (18, 62, undef), (19, 63, undef), (20, 64, undef), (21, 65, undef), (22, 66, undef), (23, 67, undef), (24, 68, .bool true)] ∧ Below wq.drew.heap.size wq.drew w') rfl (by kernel_rfl) (by kernel_rfl) (by kernel_rfl) ?_ ?_ ?_
          · exact ⟨by simp only [putSel, Bool.false_eq_true, if_false], Below.refl _ _⟩
          · refine steps_cons (by rintro b a w' ⟨ha, HI⟩ hb hon hoff; refine ⟨_, rfl, fun K hK => ?_⟩; have e0 := poff ha (t := 0) rfl rfl; exact value_ (v := .slice (some ⟨g, off, none⟩) l.length c) (by rfl) rfl (by clear HI ha; go_simp) (hK.out _ _ ⟨upk ha 0 hb rfl rfl, HI⟩)) ?_
            refine steps_cons (by rintro b a w' ⟨ha, HI⟩ hb hon hoff; refine ⟨_, rfl, fun K hK => ?_⟩; have e12 := poff ha (t := 12) rfl rfl; exact value_ (v := .int .i64 j) (by rfl) rfl (by clear HI ha; go_simp) (hK.out _ _ ⟨upk ha 1 hb rfl rfl, HI⟩)) ?_
            refine steps_cons (by rintro b a w' ⟨ha, HI⟩ hb hon hoff; refine ⟨_, rfl, fun K hK => ?_⟩; have e44 := pon ha 0 (hon 0 rfl) rfl rfl rfl; have e45 := pon ha 1 (hon 1 rfl) rfl rfl rfl; exact value_ (v := .pointer (some ⟨g, off + j * 4, none⟩)) (by rfl) rfl (by clear HI ha; go_simp) (hK.out _ _ ⟨upk ha 2 hb rfl rfl, HI⟩)) ?_
            refine steps_cons (by rintro b a w' ⟨ha, HI⟩ hb hon hoff; refine ⟨_, rfl, fun K hK => ?_⟩; have e46 := pon ha 2 (hon 2 rfl) rfl rfl rfl; exact value_ (v := .pointer (some ⟨g, off + j * 4 + 1, none⟩)) (by rfl) rfl (by clear HI ha; go_simp) (hK.out _ _ ⟨upk ha 3 hb rfl rfl, HI⟩)) ?_
            refine steps_cons (by rintro b a w' ⟨ha, HI⟩ hb hon hoff; refine ⟨_, rfl, fun K hK => ?_⟩; have e47 := pon ha 3 (hon 3 rfl) rfl rfl rfl; have k0_ := bc HI hgl c1; have k1_ := bc HI hgl c2; have kz_ := bz HI hgl; exact value_ (v := .agg #[.int .i64 x1, .int .i64 x2]) (by rfl) rfl (by clear HI ha; go_simp) (hK.out _ _ ⟨upk ha 4 hb rfl rfl, HI⟩)) ?_
            refine steps_cons (by rintro b a w' ⟨ha, HI⟩ hb hon hoff; refine ⟨_, rfl, fun K hK => ?_⟩; have e48 := pon ha 4 (hon 4 rfl) rfl rfl rfl; refine goes_ Try.func30 (by kernel_rfl) rfl #[.agg #[.int .i64 x1, .int .i64 x2]] (by rfl) rfl rfl (by simp [Act.eval, e48]) ((RMayQ HM1.out _).out.mono ?_); rintro e_ w'' ⟨rfl, hbc⟩; exact ⟨_, rfl, hK.out _ _ ⟨upk ha 5 hb rfl rfl, below_then HI HI.size hbc⟩⟩) ?_
            refine steps_cons (by rintro b a w' ⟨ha, HI⟩ hb hon hoff; refine ⟨_, rfl, fun K hK => ?_⟩; have e49 := pon ha 5 (hon 5 rfl) rfl rfl rfl; exact value_ (v := .bool false) (by rfl) rfl (by clear HI ha; go_simp) (hK.out _ _ ⟨upk ha 6 hb rfl rfl, HI⟩)) ?_
            refine steps_cons (by rintro b a w' ⟨ha, HI⟩ hb hon hoff; refine ⟨_, rfl, fun K hK => ?_⟩; have e50 := pon ha 6 (hon 6 rfl) rfl rfl rfl; exact value_ (v := .bool false) (by rfl) rfl (by clear HI ha; go_simp) (hK.out _ _ ⟨upk ha 7 hb rfl rfl, HI⟩)) ?_
            refine steps_cons (by rintro b a w' ⟨ha, HI⟩ hb hon hoff; refine ⟨_, rfl, fun K hK => ?_⟩; have e0 := poff ha (t := 0) rfl rfl; have e51 := pon ha 7 (hon 7 rfl) rfl rfl rfl; exact value_ (v := .slice (some ⟨g, off, none⟩) l.length c) (wanted_on (t := 51) (u := false) rfl rfl rfl e51) rfl (by clear HI ha; go_simp) (hK.out _ _ ⟨upk ha 8 hb rfl rfl, HI⟩)) ?_
            refine steps_cons (by rintro b a w' ⟨ha, HI⟩ hb hon hoff; refine ⟨_, rfl, fun K hK => ?_⟩; have e12 := poff ha (t := 12) rfl rfl; have e51 := pon ha 7 (hon 7 rfl) rfl rfl rfl; exact value_ (v := .int .i64 j) (wanted_on (t := 51) (u := false) rfl rfl rfl e51) rfl (by clear HI ha; go_simp) (hK.out _ _ ⟨upk ha 9 hb rfl rfl, HI⟩)) ?_
            refine steps_cons (by rintro b a w' ⟨ha, HI⟩ hb hon hoff; refine ⟨_, rfl, fun K hK => ?_⟩; have e52 := pon ha 8 (hon 8 rfl) rfl rfl rfl; have e53 := pon ha 9 (hon 9 rfl) rfl rfl rfl; have e51 := pon ha 7 (hon 7 rfl) rfl rfl rfl; exact value_ (v := .pointer (some ⟨g, off + j * 4, none⟩)) (wanted_on (t := 51) (u := false) rfl rfl rfl e51) rfl (by clear HI ha; go_simp) (hK.out _ _ ⟨upk ha 10 hb rfl rfl, HI⟩)) ?_
            refine steps_cons (by rintro b a w' ⟨ha, HI⟩ hb hon hoff; refine ⟨_, rfl, fun K hK => ?_⟩; have e54 := pon ha 10 (hon 10 rfl) rfl rfl rfl; have e51 := pon ha 7 (hon 7 rfl) rfl rfl rfl; exact value_ (v := .pointer (some ⟨g, off + j * 4 + 1, none⟩)) (wanted_on (t := 51) (u := false) rfl rfl rfl e51) rfl (by clear HI ha; go_simp) (hK.out _ _ ⟨upk ha 11 hb rfl rfl, HI⟩)) ?_
            refine steps_cons (by rintro b a w' ⟨ha, HI⟩ hb hon hoff; refine ⟨_, rfl, fun K hK => ?_⟩; have e55 := pon ha 11 (hon 11 rfl) rfl rfl rfl; have e51 := pon ha 7 (hon 7 rfl) rfl rfl rfl; exact value_ (v := .pointer (some ⟨g, off + j * 4 + 1, none⟩)) (wanted_on (t := 51) (u := false) rfl rfl rfl e51) rfl (by clear HI ha; go_simp) (hK.out _ _ ⟨upk ha 12 hb rfl rfl, HI⟩)) ?_
            refine steps_cons (by rintro b a w' ⟨ha, HI⟩ hb hon hoff; refine ⟨_, rfl, fun K hK => ?_⟩; have e56 := pon ha 12 (hon 12 rfl) rfl rfl rfl; have e51 := pon ha 7 (hon 7 rfl) rfl rfl rfl; have k0_ := bc HI hgl c1; have kz_ := bz HI hgl; exact value_ (v := .int .i64 x1) (wanted_on (t := 51) (u := false) rfl rfl rfl e51) rfl (by clear HI ha; go_simp) (hK.out _ _ ⟨upk ha 13 hb rfl rfl, HI⟩)) ?_
            refine steps_cons (by rintro b a w' ⟨ha, HI⟩ hb hon hoff; refine ⟨_, rfl, fun K hK => ?_⟩; have e57 := pon ha 13 (hon 13 rfl) rfl rfl rfl; have e51 := pon ha 7 (hon 7 rfl) rfl rfl rfl; exact value_ (v := .bool true) (wanted_on (t := 51) (u := false) rfl rfl rfl e51) rfl (by clear HI ha; go_simp) (hK.out _ _ ⟨upk ha 14 hb rfl rfl, HI⟩)) ?_
            refine steps_cons (by rintro b a w' ⟨ha, HI⟩ hb hon hoff; refine ⟨_, rfl, fun K hK => ?_⟩; have e51 := pon ha 7 (hon 7 rfl) rfl rfl rfl; have e58 := pon ha 14 (hon 14 rfl) rfl rfl rfl; exact value_ (v := .bool true) (by rfl) rfl (by clear HI ha; go_simp) (hK.out _ _ ⟨upk ha 15 hb rfl rfl, HI⟩)) ?_
            refine steps_cons (by rintro b a w' ⟨ha, HI⟩ hb hon hoff; refine ⟨_, rfl, fun K hK => ?_⟩; have e59 := pon ha 15 (hon 15 rfl) rfl rfl rfl; exact value_ (v := .bool true) (by rfl) rfl (by clear HI ha; go_simp) (hK.out _ _ ⟨upk ha 16 hb rfl rfl, HI⟩)) ?_
            refine steps_cons (by rintro b a w' ⟨ha, HI⟩ hb hon hoff; refine ⟨_, rfl, fun K hK => ?_⟩; have e10 := poff ha (t := 10) rfl rfl; have e60 := pon ha 16 (hon 16 rfl) rfl rfl rfl; exact off_ (wanted_off (t := 60) (u := false) rfl rfl rfl e60) (hK.out _ _ ⟨upk ha 17 hb rfl rfl, HI⟩)) ?_
            refine steps_cons (by rintro b a w' ⟨ha, HI⟩ hb hon hoff; refine ⟨_, rfl, fun K hK => ?_⟩; have e0 := poff ha (t := 0) rfl rfl; have e60 := pon ha 16 (hon 16 rfl) rfl rfl rfl; exact off_ (wanted_off (t := 60) (u := false) rfl rfl rfl e60) (hK.out _ _ ⟨upk ha 18 hb rfl rfl, HI⟩)) ?_
            refine steps_cons (by rintro b a w' ⟨ha, HI⟩ hb hon hoff; refine ⟨_, rfl, fun K hK => ?_⟩; have e12 := poff ha (t := 12) rfl rfl; have e60 := pon ha 16 (hon 16 rfl) rfl rfl rfl; exact off_ (wanted_off (t := 60) (u := false) rfl rfl rfl e60) (hK.out _ _ ⟨upk ha 19 hb rfl rfl, HI⟩)) ?_
            refine steps_cons (by rintro b a w' ⟨ha, HI⟩ hb hon hoff; refine ⟨_, rfl, fun K hK => ?_⟩; have e62 := pon ha 18 (hon 18 rfl) rfl rfl rfl; have e63 := pon ha 19 (hon 19 rfl) rfl rfl rfl; have e60 := pon ha 16 (hon 16 rfl) rfl rfl rfl; exact off_ (wanted_off (t := 60) (u := false) rfl rfl rfl e60) (hK.out _ _ ⟨upk ha 20 hb rfl rfl, HI⟩)) ?_
            refine steps_cons (by rintro b a w' ⟨ha, HI⟩ hb hon hoff; refine ⟨_, rfl, fun K hK => ?_⟩; have e64 := pon ha 20 (hon 20 rfl) rfl rfl rfl; have e60 := pon ha 16 (hon 16 rfl) rfl rfl rfl; exact off_ (wanted_off (t := 60) (u := false) rfl rfl rfl e60) (hK.out _ _ ⟨upk ha 21 hb rfl rfl, HI⟩)) ?_
            refine steps_cons (by rintro b a w' ⟨ha, HI⟩ hb hon hoff; refine ⟨_, rfl, fun K hK => ?_⟩; have e65 := pon ha 21 (hon 21 rfl) rfl rfl rfl; have e60 := pon ha 16 (hon 16 rfl) rfl rfl rfl; exact off_ (wanted_off (t := 60) (u := false) rfl rfl rfl e60) (hK.out _ _ ⟨upk ha 22 hb rfl rfl, HI⟩)) ?_
            refine steps_cons (by rintro b a w' ⟨ha, HI⟩ hb hon hoff; refine ⟨_, rfl, fun K hK => ?_⟩; have e61 := pon ha 17 (hon 17 rfl) rfl rfl rfl; have e66 := pon ha 22 (hon 22 rfl) rfl rfl rfl; have e60 := pon ha 16 (hon 16 rfl) rfl rfl rfl; exact off_ (wanted_off (t := 60) (u := false) rfl rfl rfl e60) (hK.out _ _ ⟨upk ha 23 hb rfl rfl, HI⟩)) ?_
            refine steps_cons (by rintro b a w' ⟨ha, HI⟩ hb hon hoff; refine ⟨_, rfl, fun K hK => ?_⟩; have e60 := pon ha 16 (hon 16 rfl) rfl rfl rfl; have e67 := pon ha 23 (hon 23 rfl) rfl rfl rfl; exact value_ (v := .bool true) (by rfl) rfl (by clear HI ha; go_simp) (hK.out _ _ ⟨upk ha 24 hb rfl rfl, HI⟩)) ?_
            exact steps_nil
          · rintro b a w' hall ⟨ha, HI⟩
            have hb0_ := hall 0 rfl; have hb1_ := hall 1 rfl; have hb2_ := hall 2 rfl; have hb3_ := hall 3 rfl; have hb4_ := hall 4 rfl; have hb5_ := hall 5 rfl; have hb6_ := hall 6 rfl; have hb7_ := hall 7 rfl
            have hb8_ := hall 8 rfl; have hb9_ := hall 9 rfl; have hb10_ := hall 10 rfl; have hb11_ := hall 11 rfl; have hb12_ := hall 12 rfl; have hb13_ := hall 13 rfl; have hb14_ := hall 14 rfl; have hb15_ := hall 15 rfl
            have hb16_ := hall 16 rfl; have hb17_ := hall 17 rfl; have hb18_ := hall 18 rfl; have hb19_ := hall 19 rfl; have hb20_ := hall 20 rfl; have hb21_ := hall 21 rfl; have hb22_ := hall 22 rfl; have hb23_ := hall 23 rfl
            have hb24_ := hall 24 rfl
            subst ha
            simp only [putSel, hb0_, hb1_, hb2_, hb3_, hb4_, hb5_, hb6_, hb7_, hb8_, hb9_, hb10_, hb11_, hb12_, hb13_, hb14_, hb15_, hb16_, hb17_, hb18_, hb19_, hb20_, hb21_, hb22_, hb23_, hb24_, if_true, Act.put, List.setIfInBounds_toArray, List.set_cons_zero, List.set_cons_succ]
            have HB5 := Side.mk (DR.out _ HI)
            clear hall HI hb0_ hb1_ hb2_ hb3_ hb4_ hb5_ hb6_ hb7_ hb8_ hb9_ hb10_ hb11_ hb12_ hb13_ hb14_ hb15_ hb16_ hb17_ hb18_ hb19_ hb20_ hb21_ hb22_ hb23_ hb24_
            refine ‹∀ (a : Act) (w : World), Code.wp Try.prog _ _ a w → _› _ _ ?_
            have HBF := Side.mk (below_then HB4.out HB4.out.size (below_then HBQ.out HBQ.out.size HB5.out))
            clear HB5
            go_wp2
            go_ret2
            exact ⟨_, rfl, GRow.nil _ _, HBF.out⟩
        · rw [if_neg hneg] at hm
          have n1 := decide_eq_false hneg
          obtain ⟨q, hq, hm⟩ := Option.bind_eq_some_iff.1 hm
          have HL := Side.mk hq
          clear hq
          cases q with
          | true =>
            rw [if_pos rfl] at hm
            obtain rfl : false = ok := Option.some.inj hm
            have h2 := HH.out
            rw [if_neg (show ¬ (false = true) by decide)] at h2
            simp only [Option.some.injEq, Prod.mk.injEq] at h2
            obtain ⟨rfl, rfl⟩ := h2
            clear hm HH HM
            refine start_ (n := 25) (S := fun w' => True) (ds := []) #[false, false, false, false, false, false, false, false, false, false, false, false, false, false, false, false, false, false, false, false, false, false, false, false, false] (by kernel_rfl) rfl rfl trivial (fun _ => ?_)
            refine inv_at (B := [0, 0, 3, 7, 15, 31, 63, 127, 255, 255, 1023, 2047, 4095, 8191, 16383, 32767, 65535, 131071, 131071, 131071, 917503, 1966079, 4063231, 8388607, 16777215]) [0, 1, 2, 3, 4, 5, 6, 7, 8, 9, 10, 11, 12, 13, 14, 15, 16, 17, 18, 19, 20, 21, 22, 23, 24] (fun a0_ b a w' => a = putSel a0_ b [(0, 44, .slice (some ⟨g, off, none⟩) l.length c), (1, 45, .int .i64 j), (2, 46, .pointer (some ⟨g, off + j * 4, none⟩)), (3, 47, .pointer (some ⟨g, off + j * 4 + 1, none⟩)), (4, 48, .agg #[.int .i64 x1, .int .i64 x2]), (5, 49, .bool true), (6, 50, .bool false), (7, 51, .bool false), (8, 52, .slice (some ⟨g, off, none⟩) l.length c), (9, 53, .int .i64 j), (10, 54, .pointer (some ⟨g, off + j * 4, none⟩)), (11, 55, .pointer (some ⟨g, off + j * 4 + 1, none⟩)), (12, 56, .pointer (some ⟨g, off + j * 4 + 1, none⟩)), (13, 57, .int .i64 x1), (14, 58, .bool false), (15, 59, .bool false), (16, 60, .bool false), (17, 61, .agg #[.int .i64 G, .int .i64 1]), (18, 62, .slice (some ⟨g, off, none⟩) l.length c), (19, 63, .int .i64 j), (20, 64, .pointer (some ⟨g, off + j * 4, none⟩)), (21, 65, .pointer (some ⟨g, off + j * 4 + 1, none⟩)), (22, 66, .agg #[.int .i64 x1, .int .i64 x2]), (23, 67, .bool true), (24, 68, .bool true)] ∧ Below wq.drew.heap.size wq.drew w') rfl (by kernel_rfl) (by kernel_rfl) (by kernel_rfl) ?_ ?_ ?_
            · exact ⟨by simp only [putSel, Bool.false_eq_true, if_false], Below.refl _ _⟩
            · refine steps_cons (by rintro b a w' ⟨ha, HI⟩ hb hon hoff; refine ⟨_, rfl, fun K hK => ?_⟩; have e0 := poff ha (t := 0) rfl rfl; exact value_ (v := .slice (some ⟨g, off, none⟩) l.length c) (by rfl) rfl (by clear HI ha; go_simp) (hK.out _ _ ⟨upk ha 0 hb rfl rfl, HI⟩)) ?_
              refine steps_cons (by rintro b a w' ⟨ha, HI⟩ hb hon hoff; refine ⟨_, rfl, fun K hK => ?_⟩; have e12 := poff ha (t := 12) rfl rfl; exact value_ (v := .int .i64 j) (by rfl) rfl (by clear HI ha; go_simp) (hK.out _ _ ⟨upk ha 1 hb rfl rfl, HI⟩)) ?_
              refine steps_cons (by rintro b a w' ⟨ha, HI⟩ hb hon hoff; refine ⟨_, rfl, fun K hK => ?_⟩; have e44 := pon ha 0 (hon 0 rfl) rfl rfl rfl; have e45 := pon ha 1 (hon 1 rfl) rfl rfl rfl; exact value_ (v := .pointer (some ⟨g, off + j * 4, none⟩)) (by rfl) rfl (by clear HI ha; go_simp) (hK.out _ _ ⟨upk ha 2 hb rfl rfl, HI⟩)) ?_
              refine steps_cons (by rintro b a w' ⟨ha, HI⟩ hb hon hoff; refine ⟨_, rfl, fun K hK => ?_⟩; have e46 := pon ha 2 (hon 2 rfl) rfl rfl rfl; exact value_ (v := .pointer (some ⟨g, off + j * 4 + 1, none⟩)) (by rfl) rfl (by clear HI ha; go_simp) (hK.out _ _ ⟨upk ha 3 hb rfl rfl, HI⟩)) ?_
              refine steps_cons (by rintro b a w' ⟨ha, HI⟩ hb hon hoff; refine ⟨_, rfl, fun K hK => ?_⟩; have e47 := pon ha 3 (hon 3 rfl) rfl rfl rfl; have k0_ := bc HI hgl c1; have k1_ := bc HI hgl c2; have kz_ := bz HI hgl; exact value_ (v := .agg #[.int .i64 x1, .int .i64 x2]) (by rfl) rfl (by clear HI ha; go_simp) (hK.out _ _ ⟨upk ha 4 hb rfl rfl, HI⟩)) ?_
              refine steps_cons (by rintro b a w' ⟨ha, HI⟩ hb hon hoff; refine ⟨_, rfl, fun K hK => ?_⟩; have e48 := pon ha 4 (hon 4 rfl) rfl rfl rfl; refine goes_ Try.func30 (by kernel_rfl) rfl #[.agg #[.int .i64 x1, .int .i64 x2]] (by rfl) rfl rfl (by simp [Act.eval, e48]) ((RMayQ HM1.out _).out.mono ?_); rintro e_ w'' ⟨rfl, hbc⟩; exact ⟨_, rfl, hK.out _ _ ⟨upk ha 5 hb rfl rfl, below_then HI HI.size hbc⟩⟩) ?_
              refine steps_cons (by rintro b a w' ⟨ha, HI⟩ hb hon hoff; refine ⟨_, rfl, fun K hK => ?_⟩; have e49 := pon ha 5 (hon 5 rfl) rfl rfl rfl; exact value_ (v := .bool false) (by rfl) rfl (by clear HI ha; go_simp) (hK.out _ _ ⟨upk ha 6 hb rfl rfl, HI⟩)) ?_
              refine steps_cons (by rintro b a w' ⟨ha, HI⟩ hb hon hoff; refine ⟨_, rfl, fun K hK => ?_⟩; have e50 := pon ha 6 (hon 6 rfl) rfl rfl rfl; exact value_ (v := .bool false) (by rfl) rfl (by clear HI ha; go_simp) (hK.out _ _ ⟨upk ha 7 hb rfl rfl, HI⟩)) ?_
              refine steps_cons (by rintro b a w' ⟨ha, HI⟩ hb hon hoff; refine ⟨_, rfl, fun K hK => ?_⟩; have e0 := poff ha (t := 0) rfl rfl; have e51 := pon ha 7 (hon 7 rfl) rfl rfl rfl; exact value_ (v := .slice (some ⟨g, off, none⟩) l.length c) (wanted_on (t := 51) (u := false) rfl rfl rfl e51) rfl (by clear HI ha; go_simp) (hK.out _ _ ⟨upk ha 8 hb rfl rfl, HI⟩)) ?_
              refine steps_cons (by rintro b a w' ⟨ha, HI⟩ hb hon hoff; refine ⟨_, rfl, fun K hK => ?_⟩; have e12 := poff ha (t := 12) rfl rfl; have e51 := pon ha 7 (hon 7 rfl) rfl rfl rfl; exact value_ (v := .int .i64 j) (wanted_on (t := 51) (u := false) rfl rfl rfl e51) rfl (by clear HI ha; go_simp) (hK.out _ _ ⟨upk ha 9 hb rfl rfl, HI⟩)) ?_
              refine steps_cons (by rintro b a w' ⟨ha, HI⟩ hb hon hoff; refine ⟨_, rfl, fun K hK => ?_⟩; have e52 := pon ha 8 (hon 8 rfl) rfl rfl rfl; have e53 := pon ha 9 (hon 9 rfl) rfl rfl rfl; have e51 := pon ha 7 (hon 7 rfl) rfl rfl rfl; exact value_ (v := .pointer (some ⟨g, off + j * 4, none⟩)) (wanted_on (t := 51) (u := false) rfl rfl rfl e51) rfl (by clear HI ha; go_simp) (hK.out _ _ ⟨upk ha 10 hb rfl rfl, HI⟩)) ?_
              refine steps_cons (by rintro b a w' ⟨ha, HI⟩ hb hon hoff; refine ⟨_, rfl, fun K hK => ?_⟩; have e54 := pon ha 10 (hon 10 rfl) rfl rfl rfl; have e51 := pon ha 7 (hon 7 rfl) rfl rfl rfl; exact value_ (v := .pointer (some ⟨g, off + j * 4 + 1, none⟩)) (wanted_on (t := 51) (u := false) rfl rfl rfl e51) rfl (by clear HI ha; go_simp) (hK.out _ _ ⟨upk ha 11 hb rfl rfl, HI⟩)) ?_
              refine steps_cons (by rintro b a w' ⟨ha, HI⟩ hb hon hoff; refine ⟨_, rfl, fun K hK => ?_⟩; have e55 := pon ha 11 (hon 11 rfl) rfl rfl rfl; have e51 := pon ha 7 (hon 7 rfl) rfl rfl rfl; exact value_ (v := .pointer (some ⟨g, off + j * 4 + 1, none⟩)) (wanted_on (t := 51) (u := false) rfl rfl rfl e51) rfl (by clear HI ha; go_simp) (hK.out _ _ ⟨upk ha 12 hb rfl rfl, HI⟩)) ?_
              refine steps_cons (by rintro b a w' ⟨ha, HI⟩ hb hon hoff; refine ⟨_, rfl, fun K hK => ?_⟩; have e56 := pon ha 12 (hon 12 rfl) rfl rfl rfl; have e51 := pon ha 7 (hon 7 rfl) rfl rfl rfl; have k0_ := bc HI hgl c1; have kz_ := bz HI hgl; exact value_ (v := .int .i64 x1) (wanted_on (t := 51) (u := false) rfl rfl rfl e51) rfl (by clear HI ha; go_simp) (hK.out _ _ ⟨upk ha 13 hb rfl rfl, HI⟩)) ?_
              refine steps_cons (by rintro b a w' ⟨ha, HI⟩ hb hon hoff; refine ⟨_, rfl, fun K hK => ?_⟩; have e57 := pon ha 13 (hon 13 rfl) rfl rfl rfl; have e51 := pon ha 7 (hon 7 rfl) rfl rfl rfl; exact value_ (v := .bool false) (wanted_on (t := 51) (u := false) rfl rfl rfl e51) rfl (by clear HI ha; go_simp) (hK.out _ _ ⟨upk ha 14 hb rfl rfl, HI⟩)) ?_
              refine steps_cons (by rintro b a w' ⟨ha, HI⟩ hb hon hoff; refine ⟨_, rfl, fun K hK => ?_⟩; have e51 := pon ha 7 (hon 7 rfl) rfl rfl rfl; have e58 := pon ha 14 (hon 14 rfl) rfl rfl rfl; exact value_ (v := .bool false) (by rfl) rfl (by clear HI ha; go_simp) (hK.out _ _ ⟨upk ha 15 hb rfl rfl, HI⟩)) ?_
              refine steps_cons (by rintro b a w' ⟨ha, HI⟩ hb hon hoff; refine ⟨_, rfl, fun K hK => ?_⟩; have e59 := pon ha 15 (hon 15 rfl) rfl rfl rfl; exact value_ (v := .bool false) (by rfl) rfl (by clear HI ha; go_simp) (hK.out _ _ ⟨upk ha 16 hb rfl rfl, HI⟩)) ?_
              refine steps_cons (by rintro b a w' ⟨ha, HI⟩ hb hon hoff; refine ⟨_, rfl, fun K hK => ?_⟩; have e10 := poff ha (t := 10) rfl rfl; have e60 := pon ha 16 (hon 16 rfl) rfl rfl rfl; have k0_ := bc HI hgz z0; have k1_ := bc HI hgz z1; have kz_ := bz HI hgz; exact value_ (v := .agg #[.int .i64 G, .int .i64 1]) (wanted_on (t := 60) (u := false) rfl rfl rfl e60) rfl (by clear HI ha; go_simp) (hK.out _ _ ⟨upk ha 17 hb rfl rfl, HI⟩)) ?_
              refine steps_cons (by rintro b a w' ⟨ha, HI⟩ hb hon hoff; refine ⟨_, rfl, fun K hK => ?_⟩; have e0 := poff ha (t := 0) rfl rfl; have e60 := pon ha 16 (hon 16 rfl) rfl rfl rfl; exact value_ (v := .slice (some ⟨g, off, none⟩) l.length c) (wanted_on (t := 60) (u := false) rfl rfl rfl e60) rfl (by clear HI ha; go_simp) (hK.out _ _ ⟨upk ha 18 hb rfl rfl, HI⟩)) ?_
              refine steps_cons (by rintro b a w' ⟨ha, HI⟩ hb hon hoff; refine ⟨_, rfl, fun K hK => ?_⟩; have e12 := poff ha (t := 12) rfl rfl; have e60 := pon ha 16 (hon 16 rfl) rfl rfl rfl; exact value_ (v := .int .i64 j) (wanted_on (t := 60) (u := false) rfl rfl rfl e60) rfl (by clear HI ha; go_simp) (hK.out _ _ ⟨upk ha 19 hb rfl rfl, HI⟩)) ?_
              refine steps_cons (by rintro b a w' ⟨ha, HI⟩ hb hon hoff; refine ⟨_, rfl, fun K hK => ?_⟩; have e62 := pon ha 18 (hon 18 rfl) rfl rfl rfl; have e63 := pon ha 19 (hon 19 rfl) rfl rfl rfl; have e60 := pon ha 16 (hon 16 rfl) rfl rfl rfl; exact value_ (v := .pointer (some ⟨g, off + j * 4, none⟩)) (wanted_on (t := 60) (u := false) rfl rfl rfl e60) rfl (by clear HI ha; go_simp) (hK.out _ _ ⟨upk ha 20 hb rfl rfl, HI⟩)) ?_
              refine steps_cons (by rintro b a w' ⟨ha, HI⟩ hb hon hoff; refine ⟨_, rfl, fun K hK => ?_⟩; have e64 := pon ha 20 (hon 20 rfl) rfl rfl rfl; have e60 := pon ha 16 (hon 16 rfl) rfl rfl rfl; exact value_ (v := .pointer (some ⟨g, off + j * 4 + 1, none⟩)) (wanted_on (t := 60) (u := false) rfl rfl rfl e60) rfl (by clear HI ha; go_simp) (hK.out _ _ ⟨upk ha 21 hb rfl rfl, HI⟩)) ?_
              refine steps_cons (by rintro b a w' ⟨ha, HI⟩ hb hon hoff; refine ⟨_, rfl, fun K hK => ?_⟩; have e65 := pon ha 21 (hon 21 rfl) rfl rfl rfl; have e60 := pon ha 16 (hon 16 rfl) rfl rfl rfl; have k0_ := bc HI hgl c1; have k1_ := bc HI hgl c2; have kz_ := bz HI hgl; exact value_ (v := .agg #[.int .i64 x1, .int .i64 x2]) (wanted_on (t := 60) (u := false) rfl rfl rfl e60) rfl (by clear HI ha; go_simp) (hK.out _ _ ⟨upk ha 22 hb rfl rfl, HI⟩)) ?_
              refine steps_cons (by rintro b a w' ⟨ha, HI⟩ hb hon hoff; refine ⟨_, rfl, fun K hK => ?_⟩; have e61 := pon ha 17 (hon 17 rfl) rfl rfl rfl; have e66 := pon ha 22 (hon 22 rfl) rfl rfl rfl; have e60 := pon ha 16 (hon 16 rfl) rfl rfl rfl; refine goes_ Try.func17 (by kernel_rfl) rfl #[.agg #[.int .i64 G, .int .i64 1], .agg #[.int .i64 x1, .int .i64 x2]] (wanted_on (t := 60) (u := false) rfl rfl rfl e60) rfl rfl (by simp [Act.eval, e61, e66, e60]) ((RLessQ HL.out _).out.mono ?_); rintro e_ w'' ⟨rfl, hbc⟩; exact ⟨_, rfl, hK.out _ _ ⟨upk ha 23 hb rfl rfl, below_then HI HI.size hbc⟩⟩) ?_
              refine steps_cons (by rintro b a w' ⟨ha, HI⟩ hb hon hoff; refine ⟨_, rfl, fun K hK => ?_⟩; have e60 := pon ha 16 (hon 16 rfl) rfl rfl rfl; have e67 := pon ha 23 (hon 23 rfl) rfl rfl rfl; exact value_ (v := .bool true) (by rfl) rfl (by clear HI ha; go_simp) (hK.out _ _ ⟨upk ha 24 hb rfl rfl, HI⟩)) ?_
              exact steps_nil
            · rintro b a w' hall ⟨ha, HI⟩
              have hb0_ := hall 0 rfl; have hb1_ := hall 1 rfl; have hb2_ := hall 2 rfl; have hb3_ := hall 3 rfl; have hb4_ := hall 4 rfl; have hb5_ := hall 5 rfl; have hb6_ := hall 6 rfl; have hb7_ := hall 7 rfl
              have hb8_ := hall 8 rfl; have hb9_ := hall 9 rfl; have hb10_ := hall 10 rfl; have hb11_ := hall 11 rfl; have hb12_ := hall 12 rfl; have hb13_ := hall 13 rfl; have hb14_ := hall 14 rfl; have hb15_ := hall 15 rfl
              have hb16_ := hall 16 rfl; have hb17_ := hall 17 rfl; have hb18_ := hall 18 rfl; have hb19_ := hall 19 rfl; have hb20_ := hall 20 rfl; have hb21_ := hall 21 rfl; have hb22_ := hall 22 rfl; have hb23_ := hall 23 rfl
              have hb24_ := hall 24 rfl
              subst ha
              simp only [putSel, hb0_, hb1_, hb2_, hb3_, hb4_, hb5_, hb6_, hb7_, hb8_, hb9_, hb10_, hb11_, hb12_, hb13_, hb14_, hb15_, hb16_, hb17_, hb18_, hb19_, hb20_, hb21_, hb22_, hb23_, hb24_, if_true, Act.put, List.setIfInBounds_toArray, List.set_cons_zero, List.set_cons_succ]
              have HB5 := Side.mk (DR.out _ HI)
              clear hall HI hb0_ hb1_ hb2_ hb3_ hb4_ hb5_ hb6_ hb7_ hb8_ hb9_ hb10_ hb11_ hb12_ hb13_ hb14_ hb15_ hb16_ hb17_ hb18_ hb19_ hb20_ hb21_ hb22_ hb23_ hb24_
              refine ‹∀ (a : Act) (w : World), Code.wp Try.prog _ _ a w → _› _ _ ?_
              have HBF := Side.mk (below_then HB4.out HB4.out.size (below_then HBQ.out HBQ.out.size HB5.out))
              clear HB5
              go_wp2
              go_ret2
              exact ⟨_, rfl, GRow.nil _ _, HBF.out⟩
          | false =>
            rw [if_neg (show ¬ (false = true) by decide)] at hm
            have HM2 := Side.mk hm
            clear hm HM
            refine start_ (n := 25) (S := fun w' => True) (ds := []) #[false, false, false, false, false, false, false, false, false, false, false, false, false, false, false, false, false, false, false, false, false, false, false, false, false] (by kernel_rfl) rfl rfl trivial (fun _ => ?_)
            refine inv_at (B := [0, 0, 3, 7, 15, 31, 63, 127, 255, 255, 1023, 2047, 4095, 8191, 16383, 32767, 65535, 131071, 131071, 131071, 917503, 1966079, 4063231, 8388607, 16777215]) [0, 1, 2, 3, 4, 5, 6, 7, 8, 9, 10, 11, 12, 13, 14, 15, 16, 17, 18, 19, 20, 21, 22, 23, 24] (fun a0_ b a w' => a = putSel a0_ b [(0, 44, .slice (some ⟨g, off, none⟩) l.length c), (1, 45, .int .i64 j), (2, 46, .pointer (some ⟨g, off + j * 4, none⟩)), (3, 47, .pointer (some ⟨g, off + j * 4 + 1, none⟩)), (4, 48, .agg #[.int .i64 x1, .int .i64 x2]), (5, 49, .bool true), (6, 50, .bool false), (7, 51, .bool false), (8, 52, .slice (some ⟨g, off, none⟩) l.length c), (9, 53, .int .i64 j), (10, 54, .pointer (some ⟨g, off + j * 4, none⟩)), (11, 55, .pointer (some ⟨g, off + j * 4 + 1, none⟩)), (12, 56, .pointer (some ⟨g, off + j * 4 + 1, none⟩)), (13, 57, .int .i64 x1), (14, 58, .bool false), (15, 59, .bool false), (16, 60, .bool false), (17, 61, .agg #[.int .i64 G, .int .i64 1]), (18, 62, .slice (some ⟨g, off, none⟩) l.length c), (19, 63, .int .i64 j), (20, 64, .pointer (some ⟨g, off + j * 4, none⟩)), (21, 65, .pointer (some ⟨g, off + j * 4 + 1, none⟩)), (22, 66, .agg #[.int .i64 x1, .int .i64 x2]), (23, 67, .bool false), (24, 68, .bool false)] ∧ Below wq.drew.heap.size wq.drew w') rfl (by kernel_rfl) (by kernel_rfl) (by kernel_rfl) ?_ ?_ ?_
            · exact ⟨by simp only [putSel, Bool.false_eq_true, if_false], Below.refl _ _⟩
            · refine steps_cons (by rintro b a w' ⟨ha, HI⟩ hb hon hoff; refine ⟨_, rfl, fun K hK => ?_⟩; have e0 := poff ha (t := 0) rfl rfl; exact value_ (v := .slice (some ⟨g, off, none⟩) l.length c) (by rfl) rfl (by clear HI ha; go_simp) (hK.out _ _ ⟨upk ha 0 hb rfl rfl, HI⟩)) ?_
              refine steps_cons (by rintro b a w' ⟨ha, HI⟩ hb hon hoff; refine ⟨_, rfl, fun K hK => ?_⟩; have e12 := poff ha (t := 12) rfl rfl; exact value_ (v := .int .i64 j) (by rfl) rfl (by clear HI ha; go_simp) (hK.out _ _ ⟨upk ha 1 hb rfl rfl, HI⟩)) ?_
              refine steps_cons (by rintro b a w' ⟨ha, HI⟩ hb hon hoff; refine ⟨_, rfl, fun K hK => ?_⟩; have e44 := pon ha 0 (hon 0 rfl) rfl rfl rfl; have e45 := pon ha 1 (hon 1 rfl) rfl rfl rfl; exact value_ (v := .pointer (some ⟨g, off + j * 4, none⟩)) (by rfl) rfl (by clear HI ha; go_simp) (hK.out _ _ ⟨upk ha 2 hb rfl rfl, HI⟩)) ?_
              refine steps_cons (by rintro b a w' ⟨ha, HI⟩ hb hon hoff; refine ⟨_, rfl, fun K hK => ?_⟩; have e46 := pon ha 2 (hon 2 rfl) rfl rfl rfl; exact value_ (v := .pointer (some ⟨g, off + j * 4 + 1, none⟩)) (by rfl) rfl (by clear HI ha; go_simp) (hK.out _ _ ⟨upk ha 3 hb rfl rfl, HI⟩)) ?_
              refine steps_cons (by rintro b a w' ⟨ha, HI⟩ hb hon hoff; refine ⟨_, rfl, fun K hK => ?_⟩; have e47 := pon ha 3 (hon 3 rfl) rfl rfl rfl; have k0_ := bc HI hgl c1; have k1_ := bc HI hgl c2; have kz_ := bz HI hgl; exact value_ (v := .agg #[.int .i64 x1, .int .i64 x2]) (by rfl) rfl (by clear HI ha; go_simp) (hK.out _ _ ⟨upk ha 4 hb rfl rfl, HI⟩)) ?_
              refine steps_cons (by rintro b a w' ⟨ha, HI⟩ hb hon hoff; refine ⟨_, rfl, fun K hK => ?_⟩; have e48 := pon ha 4 (hon 4 rfl) rfl rfl rfl; refine goes_ Try.func30 (by kernel_rfl) rfl #[.agg #[.int .i64 x1, .int .i64 x2]] (by rfl) rfl rfl (by simp [Act.eval, e48]) ((RMayQ HM1.out _).out.mono ?_); rintro e_ w'' ⟨rfl, hbc⟩; exact ⟨_, rfl, hK.out _ _ ⟨upk ha 5 hb rfl rfl, below_then HI HI.size hbc⟩⟩) ?_
              refine steps_cons (by rintro b a w' ⟨ha, HI⟩ hb hon hoff; refine ⟨_, rfl, fun K hK => ?_⟩; have e49 := pon ha 5 (hon 5 rfl) rfl rfl rfl; exact value_ (v := .bool false) (by rfl) rfl (by clear HI ha; go_simp) (hK.out _ _ ⟨upk ha 6 hb rfl rfl, HI⟩)) ?_
              refine steps_cons (by rintro b a w' ⟨ha, HI⟩ hb hon hoff; refine ⟨_, rfl, fun K hK => ?_⟩; have e50 := pon ha 6 (hon 6 rfl) rfl rfl rfl; exact value_ (v := .bool false) (by rfl) rfl (by clear HI ha; go_simp) (hK.out _ _ ⟨upk ha 7 hb rfl rfl, HI⟩)) ?_
              refine steps_cons (by rintro b a w' ⟨ha, HI⟩ hb hon hoff; refine ⟨_, rfl, fun K hK => ?_⟩; have e0 := poff ha (t := 0) rfl rfl; have e51 := pon ha 7 (hon 7 rfl) rfl rfl rfl; exact value_ (v := .slice (some ⟨g, off, none⟩) l.length c) (wanted_on (t := 51) (u := false) rfl rfl rfl e51) rfl (by clear HI ha; go_simp) (hK.out _ _ ⟨upk ha 8 hb rfl rfl, HI⟩)) ?_
              refine steps_cons (by rintro b a w' ⟨ha, HI⟩ hb hon hoff; refine ⟨_, rfl, fun K hK => ?_⟩; have e12 := poff ha (t := 12) rfl rfl; have e51 := pon ha 7 (hon 7 rfl) rfl rfl rfl; exact value_ (v := .int .i64 j) (wanted_on (t := 51) (u := false) rfl rfl rfl e51) rfl (by clear HI ha; go_simp) (hK.out _ _ ⟨upk ha 9 hb rfl rfl, HI⟩)) ?_
              refine steps_cons (by rintro b a w' ⟨ha, HI⟩ hb hon hoff; refine ⟨_, rfl, fun K hK => ?_⟩; have e52 := pon ha 8 (hon 8 rfl) rfl rfl rfl; have e53 := pon ha 9 (hon 9 rfl) rfl rfl rfl; have e51 := pon ha 7 (hon 7 rfl) rfl rfl rfl; exact value_ (v := .pointer (some ⟨g, off + j * 4, none⟩)) (wanted_on (t := 51) (u := false) rfl rfl rfl e51) rfl (by clear HI ha; go_simp) (hK.out _ _ ⟨upk ha 10 hb rfl rfl, HI⟩)) ?_
              refine steps_cons (by rintro b a w' ⟨ha, HI⟩ hb hon hoff; refine ⟨_, rfl, fun K hK => ?_⟩; have e54 := pon ha 10 (hon 10 rfl) rfl rfl rfl; have e51 := pon ha 7 (hon 7 rfl) rfl rfl rfl; exact value_ (v := .pointer (some ⟨g, off + j * 4 + 1, none⟩)) (wanted_on (t := 51) (u := false) rfl rfl rfl e51) rfl (by clear HI ha; go_simp) (hK.out _ _ ⟨upk ha 11 hb rfl rfl, HI⟩)) ?_
              refine steps_cons (by rintro b a w' ⟨ha, HI⟩ hb hon hoff; refine ⟨_, rfl, fun K hK => ?_⟩; have e55 := pon ha 11 (hon 11 rfl) rfl rfl rfl; have e51 := pon ha 7 (hon 7 rfl) rfl rfl rfl; exact value_ (v := .pointer (some ⟨g, off + j * 4 + 1, none⟩)) (wanted_on (t := 51) (u := false) rfl rfl rfl e51) rfl (by clear HI ha; go_simp) (hK.out _ _ ⟨upk ha 12 hb rfl rfl, HI⟩)) ?_
              refine steps_cons (by rintro b a w' ⟨ha, HI⟩ hb hon hoff; refine ⟨_, rfl, fun K hK => ?_⟩; have e56 := pon ha 12 (hon 12 rfl) rfl rfl rfl; have e51 := pon ha 7 (hon 7 rfl) rfl rfl rfl; have k0_ := bc HI hgl c1; have kz_ := bz HI hgl; exact value_ (v := .int .i64 x1) (wanted_on (t := 51) (u := false) rfl rfl rfl e51) rfl (by clear HI ha; go_simp) (hK.out _ _ ⟨upk ha 13 hb rfl rfl, HI⟩)) ?_
              refine steps_cons (by rintro b a w' ⟨ha, HI⟩ hb hon hoff; refine ⟨_, rfl, fun K hK => ?_⟩; have e57 := pon ha 13 (hon 13 rfl) rfl rfl rfl; have e51 := pon ha 7 (hon 7 rfl) rfl rfl rfl; exact value_ (v := .bool false) (wanted_on (t := 51) (u := false) rfl rfl rfl e51) rfl (by clear HI ha; go_simp) (hK.out _ _ ⟨upk ha 14 hb rfl rfl, HI⟩)) ?_
              refine steps_cons (by rintro b a w' ⟨ha, HI⟩ hb hon hoff; refine ⟨_, rfl, fun K hK => ?_⟩; have e51 := pon ha 7 (hon 7 rfl) rfl rfl rfl; have e58 := pon ha 14 (hon 14 rfl) rfl rfl rfl; exact value_ (v := .bool false) (by rfl) rfl (by clear HI ha; go_simp) (hK.out _ _ ⟨upk ha 15 hb rfl rfl, HI⟩)) ?_
              refine steps_cons (by rintro b a w' ⟨ha, HI⟩ hb hon hoff; refine ⟨_, rfl, fun K hK => ?_⟩; have e59 := pon ha 15 (hon 15 rfl) rfl rfl rfl; exact value_ (v := .bool false) (by rfl) rfl (by clear HI ha; go_simp) (hK.out _ _ ⟨upk ha 16 hb rfl rfl, HI⟩)) ?_
              refine steps_cons (by rintro b a w' ⟨ha, HI⟩ hb hon hoff; refine ⟨_, rfl, fun K hK => ?_⟩; have e10 := poff ha (t := 10) rfl rfl; have e60 := pon ha 16 (hon 16 rfl) rfl rfl rfl; have k0_ := bc HI hgz z0; have k1_ := bc HI hgz z1; have kz_ := bz HI hgz; exact value_ (v := .agg #[.int .i64 G, .int .i64 1]) (wanted_on (t := 60) (u := false) rfl rfl rfl e60) rfl (by clear HI ha; go_simp) (hK.out _ _ ⟨upk ha 17 hb rfl rfl, HI⟩)) ?_
              refine steps_cons (by rintro b a w' ⟨ha, HI⟩ hb hon hoff; refine ⟨_, rfl, fun K hK => ?_⟩; have e0 := poff ha (t := 0) rfl rfl; have e60 := pon ha 16 (hon 16 rfl) rfl rfl rfl; exact value_ (v := .slice (some ⟨g, off, none⟩) l.length c) (wanted_on (t := 60) (u := false) rfl rfl rfl e60) rfl (by clear HI ha; go_simp) (hK.out _ _ ⟨upk ha 18 hb rfl rfl, HI⟩)) ?_
              refine steps_cons (by rintro b a w' ⟨ha, HI⟩ hb hon hoff; refine ⟨_, rfl, fun K hK => ?_⟩; have e12 := poff ha (t := 12) rfl rfl; have e60 := pon ha 16 (hon 16 rfl) rfl rfl rfl; exact value_ (v := .int .i64 j) (wanted_on (t := 60) (u := false) rfl rfl rfl e60) rfl (by clear HI ha; go_simp) (hK.out _ _ ⟨upk ha 19 hb rfl rfl, HI⟩)) ?_
              refine steps_cons (by rintro b a w' ⟨ha, HI⟩ hb hon hoff; refine ⟨_, rfl, fun K hK => ?_⟩; have e62 := pon ha 18 (hon 18 rfl) rfl rfl rfl; have e63 := pon ha 19 (hon 19 rfl) rfl rfl rfl; have e60 := pon ha 16 (hon 16 rfl) rfl rfl rfl; exact value_ (v := .pointer (some ⟨g, off + j * 4, none⟩)) (wanted_on (t := 60) (u := false) rfl rfl rfl e60) rfl (by clear HI ha; go_simp) (hK.out _ _ ⟨upk ha 20 hb rfl rfl, HI⟩)) ?_
              refine steps_cons (by rintro b a w' ⟨ha, HI⟩ hb hon hoff; refine ⟨_, rfl, fun K hK => ?_⟩; have e64 := pon ha 20 (hon 20 rfl) rfl rfl rfl; have e60 := pon ha 16 (hon 16 rfl) rfl rfl rfl; exact value_ (v := .pointer (some ⟨g, off + j * 4 + 1, none⟩)) (wanted_on (t := 60) (u := false) rfl rfl rfl e60) rfl (by clear HI ha; go_simp) (hK.out _ _ ⟨upk ha 21 hb rfl rfl, HI⟩)) ?_
              refine steps_cons (by rintro b a w' ⟨ha, HI⟩ hb hon hoff; refine ⟨_, rfl, fun K hK => ?_⟩; have e65 := pon ha 21 (hon 21 rfl) rfl rfl rfl; have e60 := pon ha 16 (hon 16 rfl) rfl rfl rfl; have k0_ := bc HI hgl c1; have k1_ := bc HI hgl c2; have kz_ := bz HI hgl; exact value_ (v := .agg #[.int .i64 x1, .int .i64 x2]) (wanted_on (t := 60) (u := false) rfl rfl rfl e60) rfl (by clear HI ha; go_simp) (hK.out _ _ ⟨upk ha 22 hb rfl rfl, HI⟩)) ?_
              refine steps_cons (by rintro b a w' ⟨ha, HI⟩ hb hon hoff; refine ⟨_, rfl, fun K hK => ?_⟩; have e61 := pon ha 17 (hon 17 rfl) rfl rfl rfl; have e66 := pon ha 22 (hon 22 rfl) rfl rfl rfl; have e60 := pon ha 16 (hon 16 rfl) rfl rfl rfl; refine goes_ Try.func17 (by kernel_rfl) rfl #[.agg #[.int .i64 G, .int .i64 1], .agg #[.int .i64 x1, .int .i64 x2]] (wanted_on (t := 60) (u := false) rfl rfl rfl e60) rfl rfl (by simp [Act.eval, e61, e66, e60]) ((RLessQ HL.out _).out.mono ?_); rintro e_ w'' ⟨rfl, hbc⟩; exact ⟨_, rfl, hK.out _ _ ⟨upk ha 23 hb rfl rfl, below_then HI HI.size hbc⟩⟩) ?_
              refine steps_cons (by rintro b a w' ⟨ha, HI⟩ hb hon hoff; refine ⟨_, rfl, fun K hK => ?_⟩; have e60 := pon ha 16 (hon 16 rfl) rfl rfl rfl; have e67 := pon ha 23 (hon 23 rfl) rfl rfl rfl; exact value_ (v := .bool false) (by rfl) rfl (by clear HI ha; go_simp) (hK.out _ _ ⟨upk ha 24 hb rfl rfl, HI⟩)) ?_
              exact steps_nil
            · rintro b a w' hall ⟨ha, HI⟩
              have hb0_ := hall 0 rfl; have hb1_ := hall 1 rfl; have hb2_ := hall 2 rfl; have hb3_ := hall 3 rfl; have hb4_ := hall 4 rfl; have hb5_ := hall 5 rfl; have hb6_ := hall 6 rfl; have hb7_ := hall 7 rfl
              have hb8_ := hall 8 rfl; have hb9_ := hall 9 rfl; have hb10_ := hall 10 rfl; have hb11_ := hall 11 rfl; have hb12_ := hall 12 rfl; have hb13_ := hall 13 rfl; have hb14_ := hall 14 rfl; have hb15_ := hall 15 rfl
              have hb16_ := hall 16 rfl; have hb17_ := hall 17 rfl; have hb18_ := hall 18 rfl; have hb19_ := hall 19 rfl; have hb20_ := hall 20 rfl; have hb21_ := hall 21 rfl; have hb22_ := hall 22 rfl; have hb23_ := hall 23 rfl
              have hb24_ := hall 24 rfl
              subst ha
              simp only [putSel, hb0_, hb1_, hb2_, hb3_, hb4_, hb5_, hb6_, hb7_, hb8_, hb9_, hb10_, hb11_, hb12_, hb13_, hb14_, hb15_, hb16_, hb17_, hb18_, hb19_, hb20_, hb21_, hb22_, hb23_, hb24_, if_true, Act.put, List.setIfInBounds_toArray, List.set_cons_zero, List.set_cons_succ]
              have HB5 := Side.mk (DR.out _ HI)
              clear hall HI hb0_ hb1_ hb2_ hb3_ hb4_ hb5_ hb6_ hb7_ hb8_ hb9_ hb10_ hb11_ hb12_ hb13_ hb14_ hb15_ hb16_ hb17_ hb18_ hb19_ hb20_ hb21_ hb22_ hb23_ hb24_
              refine ‹∀ (a : Act) (w : World), Code.wp Try.prog _ _ a w → _› _ _ ?_
              have HI2 : Side (mayR k G (l.drop (j + 1)) = some ok ∧ Below W.heap.size W w') := ⟨HM2.out, below_then HBQ.out HBQ.out.size HB5.out⟩
              clear HM2 HB5 HL HBQ HM1 c0 c1 c2 c3 z0 z1 hgz
              go_wp2
              go_roundw
              case rel => exact ⟨j + 1, by simp, by omega, HI2⟩
              case measure => simp [intOf]; omega
    · have hjj : ¬ (j : Int) < l.length := by omega
      obtain rfl : j = l.length := by omega
      have hm := HI.out.1
      rw [List.drop_length] at hm
      obtain rfl : true = ok := Option.some.inj hm
      have h2 := HH.out
      rw [if_pos rfl] at h2
      obtain ⟨⟨s0, s1⟩, hs, h2⟩ := Option.bind_eq_some_iff.1 h2
      obtain ⟨bb, hbb, h2⟩ := Option.bind_eq_some_iff.1 h2
      have HSUM := Side.mk hs
      have HLS := Side.mk hbb
      have HH2 := Side.mk h2
      have HZ5 := Side.mk (keep_blk HZ4.out HI.out.2)
      have HS5 := Side.mk (keep_blk HS.out HI.out.2)
      have HB5 := Side.mk (below_then HB4.out HB4.out.size HI.out.2)
      clear hm h2 hs hbb HH HI hj hjj hlt hj0 HZ4 HS HB4
      go_wp2_with fail
      go_loopw [13] (fun v13 wr => ∃ (j : Nat) (a b : Int), v13 = .int .i64 (j : Int) ∧ j ≤ l.length ∧ Side (sumR k (l.drop j) a b = some (s0, s1)) ∧ Side (wr.heap[gs]? = some (rat a b)) ∧ Side (wr.heap[gz]? = some (rat G 1)) ∧ Side (Below w.heap.size w wr)) (fun v13 _ => (l.length - intOf v13).toNat)
      case atStart => exact ⟨0, 0, 1, rfl, Nat.zero_le _, HSUM, HS5, HZ5, HB5⟩
      case round =>
        clear HSUM HS5 HZ5 HB5
        obtain ⟨j, a_, b_, rfl, hj, HSUM, HS5, HZ5, HB5⟩ := hrel
        have hj0 : (0 : Int) ≤ j := by omega
        obtain ⟨wq, hwq⟩ : ∃ wq, wq = wr := ⟨_, rfl⟩
        rw [← hwq] at HS5 HZ5 HB5 ⊢
        clear hwq
        by_cases hlt : j < l.length
        · have hjj : (j : Int) < l.length := by omega
          have hj1 : (j : Int) + 1 ≤ 9223372036854775807 := by omega
          obtain ⟨g, off, rfl, hgl, c0, c1, c2, c3⟩ := at39 (HRW.out wq HB5.out) j hlt
          have hm := HSUM.out
          rw [rd39 hlt] at hm
          generalize rd_T39 l (j : Int) = x at *
          obtain ⟨x0, ⟨x1, x2⟩, x3⟩ := x
          simp only at c0 c1 c2 c3
          simp only [sumR] at hm
          obtain ⟨⟨r0, r1⟩, hr1, hm⟩ := Option.bind_eq_some_iff.1 hm
          have HP := Side.mk hr1
          have HM := Side.mk hm
          clear hr1 hm HSUM
          have t0 := rat0 HS5.out
          have t1 := rat1 HS5.out
          have hgs := lt_of HS5.out
          have HSD : Side (wq.drew.heap[gs]? = some (rat a_ b_)) := ⟨HS5.out⟩
          go_upto_region 13 with (fail)
          refine start_ (n := 8) (S := fun w' => True) (ds := []) #[false, false, false, false, false, false, false, false] (by kernel_rfl) rfl rfl trivial (fun _ => ?_)
          refine inv_at (B := [0, 0, 0, 6, 14, 30, 63, 127]) [0, 1, 2, 3, 4, 5, 6, 7] (fun a0_ b a w' => a = putSel a0_ b [(0, 75, .agg #[.int .i64 a_, .int .i64 b_]), (1, 76, .slice (some ⟨g, off, none⟩) l.length c), (2, 77, .int .i64 j), (3, 78, .pointer (some ⟨g, off + j * 4, none⟩)), (4, 79, .pointer (some ⟨g, off + j * 4 + 1, none⟩)), (5, 80, .agg #[.int .i64 x1, .int .i64 x2]), (6, 81, .agg #[.int .i64 r0, .int .i64 r1])] ∧ A13 wq.drew gs r0 r1 b w') rfl (by kernel_rfl) (by kernel_rfl) (by kernel_rfl) ?_ ?_ ?_
          · exact ⟨by simp only [putSel, Bool.false_eq_true, if_false], A13.start⟩
          · refine steps_cons (by rintro b a w' ⟨ha, HI⟩ hb hon hoff; refine ⟨_, rfl, fun K hK => ?_⟩; have e11 := poff ha (t := 11) rfl rfl; have k0_ := bc (HI.n (hoff 7 rfl)) hgs t0; have k1_ := bc (HI.n (hoff 7 rfl)) hgs t1; have kz_ := bz (HI.n (hoff 7 rfl)) hgs; exact value_ (v := .agg #[.int .i64 a_, .int .i64 b_]) (by rfl) rfl (by clear HI ha; go_simp) (hK.out _ _ ⟨upk ha 0 hb rfl rfl, HI.low (Below.refl _ _) 0 (by decide) (hoff 7 rfl)⟩)) ?_
            refine steps_cons (by rintro b a w' ⟨ha, HI⟩ hb hon hoff; refine ⟨_, rfl, fun K hK => ?_⟩; have e0 := poff ha (t := 0) rfl rfl; exact value_ (v := .slice (some ⟨g, off, none⟩) l.length c) (by rfl) rfl (by clear HI ha; go_simp) (hK.out _ _ ⟨upk ha 1 hb rfl rfl, HI.low (Below.refl _ _) 1 (by decide) (hoff 7 rfl)⟩)) ?_
            refine steps_cons (by rintro b a w' ⟨ha, HI⟩ hb hon hoff; refine ⟨_, rfl, fun K hK => ?_⟩; have e13 := poff ha (t := 13) rfl rfl; exact value_ (v := .int .i64 j) (by rfl) rfl (by clear HI ha; go_simp) (hK.out _ _ ⟨upk ha 2 hb rfl rfl, HI.low (Below.refl _ _) 2 (by decide) (hoff 7 rfl)⟩)) ?_
            refine steps_cons (by rintro b a w' ⟨ha, HI⟩ hb hon hoff; refine ⟨_, rfl, fun K hK => ?_⟩; have e76 := pon ha 1 (hon 1 rfl) rfl rfl rfl; have e77 := pon ha 2 (hon 2 rfl) rfl rfl rfl; exact value_ (v := .pointer (some ⟨g, off + j * 4, none⟩)) (by rfl) rfl (by clear HI ha; go_simp) (hK.out _ _ ⟨upk ha 3 hb rfl rfl, HI.low (Below.refl _ _) 3 (by decide) (hoff 7 rfl)⟩)) ?_
            refine steps_cons (by rintro b a w' ⟨ha, HI⟩ hb hon hoff; refine ⟨_, rfl, fun K hK => ?_⟩; have e78 := pon ha 3 (hon 3 rfl) rfl rfl rfl; exact value_ (v := .pointer (some ⟨g, off + j * 4 + 1, none⟩)) (by rfl) rfl (by clear HI ha; go_simp) (hK.out _ _ ⟨upk ha 4 hb rfl rfl, HI.low (Below.refl _ _) 4 (by decide) (hoff 7 rfl)⟩)) ?_
            refine steps_cons (by rintro b a w' ⟨ha, HI⟩ hb hon hoff; refine ⟨_, rfl, fun K hK => ?_⟩; have e79 := pon ha 4 (hon 4 rfl) rfl rfl rfl; have k0_ := bc (HI.n (hoff 7 rfl)) hgl c1; have k1_ := bc (HI.n (hoff 7 rfl)) hgl c2; have kz_ := bz (HI.n (hoff 7 rfl)) hgl; exact value_ (v := .agg #[.int .i64 x1, .int .i64 x2]) (by rfl) rfl (by clear HI ha; go_simp) (hK.out _ _ ⟨upk ha 5 hb rfl rfl, HI.low (Below.refl _ _) 5 (by decide) (hoff 7 rfl)⟩)) ?_
            refine steps_cons (by rintro b a w' ⟨ha, HI⟩ hb hon hoff; refine ⟨_, rfl, fun K hK => ?_⟩; have e75 := pon ha 0 (hon 0 rfl) rfl rfl rfl; have e80 := pon ha 5 (hon 5 rfl) rfl rfl rfl; refine goes_ Try.func15 (by kernel_rfl) rfl #[.agg #[.int .i64 a_, .int .i64 b_], .agg #[.int .i64 x1, .int .i64 x2]] (by rfl) rfl rfl (by simp [Act.eval, e75, e80]) ((RPlusQ HP.out _).out.mono ?_); rintro e_ w'' ⟨rfl, hbc⟩; exact ⟨_, rfl, hK.out _ _ ⟨upk ha 6 hb rfl rfl, HI.low hbc 6 (by decide) (hoff 7 rfl)⟩⟩) ?_
            refine steps_cons (by rintro b a w' ⟨ha, HI⟩ hb hon hoff; refine ⟨_, rfl, fun K hK => ?_⟩; have e11 := poff ha (t := 11) rfl rfl; have e81 := pon ha 6 (hon 6 rfl) rfl rfl rfl; have hst := run_rat (keep_blk HSD.out (HI.n hb)) r0 r1; exact skip_ (w1 := w'.setCells gs 0 [.int .i64 r0, .int .i64 r1]) (by rfl) rfl (by unfold execOp; simp [Act.eval, e11, e81, hst]) (hK.out _ _ ⟨ups ha rfl, HI.s7 hb (keep_blk HSD.out (HI.n hb))⟩)) ?_
            exact steps_nil
          · rintro b a w' hall ⟨ha, HI⟩
            have hb0_ := hall 0 rfl; have hb1_ := hall 1 rfl; have hb2_ := hall 2 rfl; have hb3_ := hall 3 rfl; have hb4_ := hall 4 rfl; have hb5_ := hall 5 rfl; have hb6_ := hall 6 rfl; have hb7_ := hall 7 rfl
            subst ha
            simp only [putSel, hb0_, hb1_, hb2_, hb3_, hb4_, hb5_, hb6_, if_true, Act.put, List.setIfInBounds_toArray, List.set_cons_zero, List.set_cons_succ]
            obtain ⟨hch_, hgs_⟩ := HI.y hb7_
            have HCH := Side.mk ((Chg.of_below (S := fun k => k = gs) (below_drew (Below.refl _ wq))).trans hch_ (fun _ _ e => e))
            have HS6 := Side.mk hgs_
            clear hch_ hgs_
            clear hall HI hb0_ hb1_ hb2_ hb3_ hb4_ hb5_ hb6_ hb7_
            refine ‹∀ (a : Act) (w : World), Code.wp Try.prog _ _ a w → _› _ _ ?_
            have HZ6 := Side.mk (chg_blk HCH.out HZ5.out HGS.out.2.symm)
            have HB6 := Side.mk (HB5.out.trans (Chg.below HCH.out HB5.out.size (fun k e => by rw [e]; exact HGS.out.1)))
            clear HCH HZ5 HB5 HS5 HSD t0 t1 hgs c0 c1 c2 c3 HP
            go_wp2
            go_roundw
            case rel => exact ⟨j + 1, _, _, by simp, by omega, HM, HS6, HZ6, HB6⟩
            case measure => simp [intOf]; omega
        · have hjj : ¬ (j : Int) < l.length := by omega
          obtain rfl : j = l.length := by omega
          have hm := HSUM.out
          rw [List.drop_length] at hm
          simp only [sumR, Option.some.injEq, Prod.mk.injEq] at hm
          obtain ⟨rfl, rfl⟩ := hm
          clear HSUM hj hjj hlt hj0
          have hcg : 0 ≤ co * G := Int.mul_nonneg (by omega) hG0
          have hcg2 : co * G ≤ 64 * 1024 := Int.mul_le_mul (by omega) hG1 hG0 (by omega)
          have hwC : IntKind.i64.wrap (co * G) = co * G := IntWalk.i64_in _ (by omega)
          clear hcg hcg2
          have t0 := rat0 HS5.out
          have t1 := rat1 HS5.out
          have hgs := lt_of HS5.out
          have DR : Side (∀ w', Below wq.drew.heap.size wq.drew w' → Below wq.heap.size wq w') := ⟨fun w' hb => below_then (below_drew (Below.refl _ wq)) (Nat.le_refl _) hb⟩
          go_upto_region 14 with (fail)
          refine start_ (n := 8) (S := fun w' => True) (ds := []) #[false, false, false, false, false, false, false, false] (by kernel_rfl) rfl rfl trivial (fun _ => ?_)
          refine inv_at (B := [0, 0, 0, 6, 15, 31, 0, 127]) [0, 1, 2, 3, 4, 5, 6, 7] (fun a0_ b a w' => a = putSel a0_ b [(0, 82, .int .i64 co), (1, 83, .int .i64 tt), (2, 84, .int .i64 fr), (3, 85, .int .i64 G), (4, 86, .int .i64 (co * G)), (5, 87, .agg #[.int .i64 (co * G), .int .i64 1]), (6, 88, .agg #[.int .i64 a_, .int .i64 b_]), (7, 89, .bool bb)] ∧ Below wq.drew.heap.size wq.drew w') rfl (by kernel_rfl) (by kernel_rfl) (by kernel_rfl) ?_ ?_ ?_
          · exact ⟨by simp only [putSel, Bool.false_eq_true, if_false], Below.refl _ _⟩
          · refine steps_cons (by rintro b a w' ⟨ha, HI⟩ hb hon hoff; refine ⟨_, rfl, fun K hK => ?_⟩; have e3 := poff ha (t := 3) rfl rfl; exact value_ (v := .int .i64 co) (by rfl) rfl (by clear HI ha; go_simp) (hK.out _ _ ⟨upk ha 0 hb rfl rfl, HI⟩)) ?_
            refine steps_cons (by rintro b a w' ⟨ha, HI⟩ hb hon hoff; refine ⟨_, rfl, fun K hK => ?_⟩; have e2 := poff ha (t := 2) rfl rfl; exact value_ (v := .int .i64 tt) (by rfl) rfl (by clear HI ha; go_simp) (hK.out _ _ ⟨upk ha 1 hb rfl rfl, HI⟩)) ?_
            refine steps_cons (by rintro b a w' ⟨ha, HI⟩ hb hon hoff; refine ⟨_, rfl, fun K hK => ?_⟩; have e1 := poff ha (t := 1) rfl rfl; exact value_ (v := .int .i64 fr) (by rfl) rfl (by clear HI ha; go_simp) (hK.out _ _ ⟨upk ha 2 hb rfl rfl, HI⟩)) ?_
            refine steps_cons (by rintro b a w' ⟨ha, HI⟩ hb hon hoff; refine ⟨_, rfl, fun K hK => ?_⟩; have e83 := pon ha 1 (hon 1 rfl) rfl rfl rfl; have e84 := pon ha 2 (hon 2 rfl) rfl rfl rfl; exact value_ (v := .int .i64 G) (by rfl) rfl (by clear HI ha; go_simp) (hK.out _ _ ⟨upk ha 3 hb rfl rfl, HI⟩)) ?_
            refine steps_cons (by rintro b a w' ⟨ha, HI⟩ hb hon hoff; refine ⟨_, rfl, fun K hK => ?_⟩; have e82 := pon ha 0 (hon 0 rfl) rfl rfl rfl; have e85 := pon ha 3 (hon 3 rfl) rfl rfl rfl; exact value_ (v := .int .i64 (co * G)) (by rfl) rfl (by clear HI ha; go_simp) (hK.out _ _ ⟨upk ha 4 hb rfl rfl, HI⟩)) ?_
            refine steps_cons (by rintro b a w' ⟨ha, HI⟩ hb hon hoff; refine ⟨_, rfl, fun K hK => ?_⟩; have e86 := pon ha 4 (hon 4 rfl) rfl rfl rfl; refine goes_ Try.func29 (by kernel_rfl) rfl #[.int .i64 (co * G)] (by rfl) rfl rfl (by simp [Act.eval, e86]) ((RWholeQ _ _).out.mono ?_); rintro e_ w'' ⟨rfl, hbc⟩; exact ⟨_, rfl, hK.out _ _ ⟨upk ha 5 hb rfl rfl, below_then HI HI.size hbc⟩⟩) ?_
            refine steps_cons (by rintro b a w' ⟨ha, HI⟩ hb hon hoff; refine ⟨_, rfl, fun K hK => ?_⟩; have e11 := poff ha (t := 11) rfl rfl; have k0_ := bc HI hgs t0; have k1_ := bc HI hgs t1; have kz_ := bz HI hgs; exact value_ (v := .agg #[.int .i64 a_, .int .i64 b_]) (by rfl) rfl (by clear HI ha; go_simp) (hK.out _ _ ⟨upk ha 6 hb rfl rfl, HI⟩)) ?_
            refine steps_cons (by rintro b a w' ⟨ha, HI⟩ hb hon hoff; refine ⟨_, rfl, fun K hK => ?_⟩; have e87 := pon ha 5 (hon 5 rfl) rfl rfl rfl; have e88 := pon ha 6 (hon 6 rfl) rfl rfl rfl; refine goes_ Try.func17 (by kernel_rfl) rfl #[.agg #[.int .i64 (co * G), .int .i64 1], .agg #[.int .i64 a_, .int .i64 b_]] (by rfl) rfl rfl (by simp [Act.eval, e87, e88]) ((RLessQ HLS.out _).out.mono ?_); rintro e_ w'' ⟨rfl, hbc⟩; exact ⟨_, rfl, hK.out _ _ ⟨upk ha 7 hb rfl rfl, below_then HI HI.size hbc⟩⟩) ?_
            exact steps_nil
          · rintro b a w' hall ⟨ha, HI⟩
            have hb0_ := hall 0 rfl; have hb1_ := hall 1 rfl; have hb2_ := hall 2 rfl; have hb3_ := hall 3 rfl; have hb4_ := hall 4 rfl; have hb5_ := hall 5 rfl; have hb6_ := hall 6 rfl; have hb7_ := hall 7 rfl
            subst ha
            simp only [putSel, hb0_, hb1_, hb2_, hb3_, hb4_, hb5_, hb6_, hb7_, if_true, Act.put, List.setIfInBounds_toArray, List.set_cons_zero, List.set_cons_succ]
            have HB6 := Side.mk (DR.out _ HI)
            clear hall HI hb0_ hb1_ hb2_ hb3_ hb4_ hb5_ hb6_ hb7_
            refine ‹∀ (a : Act) (w : World), Code.wp Try.prog _ _ a w → _› _ _ ?_
            have HZ6 := Side.mk (keep_blk HZ5.out HB6.out)
            have HB7 := Side.mk (below_then HB5.out HB5.out.size HB6.out)
            clear HB5 HB6 HZ5 HS5 DR t0 t1 hgs HLS HGS hwC hwG
            have h2 := HH2.out
            cases bb with
            | true =>
              rw [if_pos rfl] at h2
              simp only [Option.some.injEq, Prod.mk.injEq] at h2
              obtain ⟨rfl, rfl⟩ := h2
              go_wp2
              go_ret2
              exact ⟨_, rfl, GRow.nil _ _, HB7.out⟩
            | false =>
              rw [if_neg (show ¬ (false = true) by decide)] at h2
              obtain ⟨o2, ho2, h2⟩ := Option.bind_eq_some_iff.1 h2
              simp only [Option.some.injEq, Prod.mk.injEq] at h2
              obtain ⟨rfl, rfl⟩ := h2
              have HLA := Side.mk ho2
              clear ho2 HH2
              go_wp2_with fail
              refine (RWholeQ _ _).out.mono ?_
              rintro r_ w8 ⟨rfl, hb8⟩
              have HZ8 := Side.mk (keep_blk HZ6.out hb8)
              have HB8 := Side.mk (below_then HB7.out HB7.out.size hb8)
              clear hb8 HZ6 HB7
              go_upto_region 18 with (fail)
              have hba := (Below.refl w8.heap.size w8).alloc (Nat.le_refl _) (.cells #[.int .i64 0, .int .i64 1] 37)
              have HL0 : Side (Rl w (w8.alloc (.cells #[.int .i64 0, .int .i64 1] 37)) gz w8.heap.size G 0 1 (.slice none 0 0) []) := ⟨⟨below_then HB8.out HB8.out.size hba, keep_blk HZ8.out hba, heap_alloc_new w8 _, GRow.nil _ _, HB8.out.size, by have := lt_of HZ8.out; omega⟩⟩
              clear hba HZ8 HB8
              generalize w8.alloc (.cells #[.int .i64 0, .int .i64 1] 37) = w9 at *
              generalize w8.heap.size = ga at *
              go_wp2_with fail
              go_loopw [14, 15, 17] (fun v14 v15 v17 wr => ∃ (j : Nat) (core a0 a1 : Int) (out : List S41), v15 = .int .i64 core ∧ v17 = .int .i64 (j : Int) ∧ j ≤ l.length ∧ Side (Rl w wr gz ga G a0 a1 v14 out ∧ layR k F fr G (l.drop j) core a0 a1 out = some o2)) (fun _ _ v17 _ => (l.length - intOf v17).toNat)
              case atStart => exact ⟨0, 0, 0, 1, [], rfl, rfl, Nat.zero_le _, ⟨HL0.out, HLA.out⟩⟩
              case round =>
                clear HL0 HLA
                obtain ⟨j, core, a0, a1, out, rfl, rfl, hj, HI⟩ := hrel
                have hj0 : (0 : Int) ≤ j := by omega
                obtain ⟨wq, hwq⟩ : ∃ wq, wq = wr := ⟨_, rfl⟩
                rw [← hwq] at HI ⊢
                clear hwq
                by_cases hlt : j < l.length
                · have hjj : (j : Int) < l.length := by omega
                  have hj1 : (j : Int) + 1 ≤ 9223372036854775807 := by omega
                  obtain ⟨g, off, rfl, hgl, c0, c1, c2, c3⟩ := at39 (HRW.out wq HI.out.1.bel) j hlt
                  have hm := HI.out.2
                  rw [rd39 hlt] at hm
                  have hx : rd_T39 l (j : Int) = rd_T39 l (j : Int) := rfl
                  have HX : Side (∀ w', Below w.heap.size w w' → g < w'.heap.size ∧ w'.cell? ⟨g, off + j * 4, none⟩ = some (.int .i64 (rd_T39 l (j : Int)).f0) ∧ w'.cell? ⟨g, off + j * 4 + 3, none⟩ = some (.bool (rd_T39 l (j : Int)).f2)) := ⟨fun w' hb => by
                    obtain ⟨g', off', he, q1, q2, -, -, q3⟩ := at39 (HRW.out w' hb) j hlt
                    simp only [Option.some.injEq, Addr.mk.injEq] at he
                    obtain ⟨rfl, rfl, -⟩ := he
                    exact ⟨q1, q2, q3⟩⟩
                  clear hx
                  generalize rd_T39 l (j : Int) = x at *
                  obtain ⟨x0, ⟨x1, x2⟩, x3⟩ := x
                  simp only at c0 c1 c2 c3 HX
                  simp only [layR] at hm
                  obtain ⟨⟨core2, b0, b1, out2⟩, hin, hm⟩ := Option.bind_eq_some_iff.1 hm
                  simp only at hm
                  have HIN := Side.mk hin
                  have HM := Side.mk hm
                  have HLY := Side.mk HI.out.1
                  clear hin hm HI
                  go_upto_region 21 with (fail)
                  go_wp2_with fail
                  have hba := (Below.refl wq.heap.size wq).alloc (Nat.le_refl _) (.cells #[.int .i64 x1, .int .i64 x2] 37)
                  have LF : Side ((wq.alloc (.cells #[.int .i64 x1, .int .i64 x2] 37)).heap[wq.heap.size]? = some (rat x1 x2)) := ⟨heap_alloc_new wq _⟩
                  have HL3 := Side.mk (HLY.out.below hba)
                  have HGL : Side (w.heap.size ≤ wq.heap.size ∧ wq.heap.size ≠ ga ∧ wq.heap.size ≠ gz) := ⟨HLY.out.bel.size, by have := lt_of HLY.out.a; omega, by have := lt_of HLY.out.z; omega⟩
                  clear HLY c0 c1 c2 c3 hba hgl
                  generalize wq.alloc (.cells #[.int .i64 x1, .int .i64 x2] 37) = w11 at *
                  generalize wq.heap.size = gl at *
                  go_loopg [14, 15] F (fun kq v14 v15 we => ∃ (core a0 a1 l0 l1 : Int) (out : List S41), v15 = .int .i64 core ∧ Side (kq ≤ F) ∧ Side (Rl w we gz ga G a0 a1 v14 out) ∧ Side (we.heap[gl]? = some (rat l0 l1)) ∧ Side (innR k fr G x0 x3 kq core a0 a1 l0 l1 out = some (core2, b0, b1, out2)))
                  case atStart => exact ⟨core, a0, a1, x1, x2, out, rfl, ⟨Nat.le_refl _⟩, HL3, LF, HIN⟩
                  case round =>
                    clear HL3 LF HIN
                    obtain ⟨core, a0, a1, l0, l1, out, rfl, HKF, HLY, LF, HIN⟩ := hrel
                    obtain ⟨wq, hwq⟩ : ∃ wq, wq = wr := ⟨_, rfl⟩
                    rw [← hwq] at HLY LF ⊢
                    clear hwq
                    cases gk with
                    | zero => exact absurd HIN.out (by simp [innR])
                    | succ k1 =>
                      have hm := HIN.out
                      clear HIN
                      simp only [innR] at hm
                      have g0 := rat0 LF.out
                      have g1 := rat1 LF.out
                      have hgl := lt_of LF.out
                      by_cases hpos : l0 > 0
                      · rw [if_pos hpos] at hm
                        have dp := decide_eq_true hpos
                        obtain ⟨⟨r0, r1⟩, h1_, hm⟩ := Option.bind_eq_some_iff.1 hm
                        obtain ⟨cc, h2_, hm⟩ := Option.bind_eq_some_iff.1 hm
                        simp only at h2_ hm
                        obtain ⟨p0, hp0⟩ : ∃ p0, p0 = (if cc = true then r0 else l0) := ⟨_, rfl⟩
                        obtain ⟨p1, hp1⟩ : ∃ p1, p1 = (if cc = true then r1 else l1) := ⟨_, rfl⟩
                        rw [← hp0, ← hp1] at hm
                        obtain ⟨⟨e0, e1⟩, h3_, hm⟩ := Option.bind_eq_some_iff.1 hm
                        simp only at hm
                        by_cases hpp : p0 > 0
                        rotate_left
                        · rw [if_neg hpp] at hm; cases hm
                        rw [if_pos hpp] at hm
                        obtain ⟨⟨fa0, fa1⟩, h4_, hm⟩ := Option.bind_eq_some_iff.1 hm
                        obtain ⟨⟨fe0, fe1⟩, h5_, hm⟩ := Option.bind_eq_some_iff.1 hm
                        obtain ⟨⟨m0, m1⟩, h6_, hm⟩ := Option.bind_eq_some_iff.1 hm
                        obtain ⟨dd, h7_, hm⟩ := Option.bind_eq_some_iff.1 hm
                        simp only at hm h5_ h7_
                        by_cases hbd : 0 ≤ core ∧ core < 1000 ∧ out.length < 1000
                        rotate_left
                        · rw [if_neg hbd] at hm; cases hm
                        rw [if_pos hbd] at hm
                        have H1 := Side.mk h1_
                        have H2 := Side.mk h2_
                        have H3 := Side.mk h3_
                        have H4 := Side.mk h4_
                        have H5 := Side.mk h5_
                        have H6 := Side.mk h6_
                        have H7 := Side.mk h7_
                        have HM2 := Side.mk hm
                        have HBD := Side.mk hbd
                        have HPE : Side (p0 = (if cc = true then r0 else l0) ∧ p1 = (if cc = true then r1 else l1)) := ⟨hp0, hp1⟩
                        have dpp := decide_eq_true hpp
                        clear h1_ h2_ h3_ h4_ h5_ h6_ h7_ hm hbd hp0 hp1
                        go_upto_region 24 with (fail)
                        have hba := (Below.refl wq.heap.size wq).alloc (Nat.le_refl _) (.cells #[.int .i64 l0, .int .i64 l1] 37)
                        have PB : Side ((wq.alloc (.cells #[.int .i64 l0, .int .i64 l1] 37)).heap[wq.heap.size]? = some (rat l0 l1)) := ⟨heap_alloc_new wq _⟩
                        have HLY1 := Side.mk (HLY.out.below hba)
                        have LF1 := Side.mk (keep_blk LF.out hba)
                        have HGP : Side (w.heap.size ≤ wq.heap.size ∧ wq.heap.size ≠ ga ∧ wq.heap.size ≠ gz ∧ wq.heap.size ≠ gl) := ⟨HLY.out.bel.size, by have := lt_of HLY.out.a; omega, by have := lt_of HLY.out.z; omega, by omega⟩
                        clear HLY LF hba g0 g1 hgl
                        generalize wq.alloc (.cells #[.int .i64 l0, .int .i64 l1] 37) = y0 at *
                        generalize wq.heap.size = gp at *
                        have z0 := rat0 HLY1.out.z
                        have z1 := rat1 HLY1.out.z
                        have hz := lt_of HLY1.out.z
                        have t0 := rat0 HLY1.out.a
                        have t1 := rat1 HLY1.out.a
                        have ht := lt_of HLY1.out.a
                        go_wp2_with fail
                        refine (RMinusQ H1.out _).out.mono ?_
                        rintro r_ y1 ⟨rfl, hb⟩
                        clear z0 z1 hz t0 t1 ht H1
                        have HLY2 := Side.mk (HLY1.out.below hb)
                        have LF2 := Side.mk (keep_blk LF1.out hb)
                        have PB2 := Side.mk (keep_blk PB.out hb)
                        clear hb HLY1 LF1 PB
                        go_upto_region 25 with (fail)
                        have hba := (Below.refl y1.heap.size y1).alloc (Nat.le_refl _) (.cells #[.int .i64 r0, .int .i64 r1] 37)
                        have RB : Side ((y1.alloc (.cells #[.int .i64 r0, .int .i64 r1] 37)).heap[y1.heap.size]? = some (rat r0 r1)) := ⟨heap_alloc_new y1 _⟩
                        have HLY3 := Side.mk (HLY2.out.below hba)
                        have LF3 := Side.mk (keep_blk LF2.out hba)
                        have PB3 := Side.mk (keep_blk PB2.out hba)
                        clear HLY2 LF2 PB2 hba
                        generalize y1.alloc (.cells #[.int .i64 r0, .int .i64 r1] 37) = y2 at *
                        generalize y1.heap.size = gr at *
                        have q0 := rat0 RB.out
                        have q1 := rat1 RB.out
                        have hq := lt_of RB.out
                        have p_0 := rat0 PB3.out
                        have p_1 := rat1 PB3.out
                        have hp := lt_of PB3.out
                        go_wp2_with fail
                        refine (RLessQ H2.out _).out.mono ?_
                        rintro r_ y3 ⟨rfl, hb⟩
                        clear q0 q1 hq p_0 p_1 hp H2
                        have HLY4 := Side.mk (HLY3.out.below hb)
                        have LF4 := Side.mk (keep_blk LF3.out hb)
                        have PB4 := Side.mk (keep_blk PB3.out hb)
                        have RB4 := Side.mk (keep_blk RB.out hb)
                        clear hb HLY3 LF3 PB3 RB
                        dsimp only
                        refine ‹∀ (a : Act) (w : World), wpList Try.prog _ _ [] a w → _› _ _ ?_
                        refine ‹∀ (a : Act) (w : World), Code.wp Try.prog (Code.cond _ _ _) _ a w → _› _ _ ?_
                        go_cut [112] (fun v112 we => Side (Rl w we gz ga G a0 a1 u14 out) ∧ Side (we.heap[gl]? = some (rat l0 l1)) ∧ Side (we.heap[gp]? = some (rat p0 p1)))
                        case first =>
                          cases cc with
                          | true =>
                            have PB5 : Side (((y3.setCell ⟨gp, 0, none⟩ (.int .i64 r0)).setCell ⟨gp, 1, none⟩ (.int .i64 r1)).heap[gp]? = some (rat p0 p1)) := ⟨by
                              have h := HPE.out
                              rw [if_pos rfl, if_pos rfl] at h
                              rw [h.1, h.2]
                              exact (set_rat PB4.out).1⟩
                            have hch := (set_rat (x' := r0) (y' := r1) PB4.out).2
                            have HLY5 := Side.mk (HLY4.out.far (fun k e => ⟨l0, l1, by rw [e]; exact PB4.out⟩) (fun k e => by rw [e]; exact HGP.out.1) (fun e => HGP.out.2.1 e.symm) (fun e => HGP.out.2.2.1 e.symm) hch)
                            have LF5 := Side.mk (chg_blk hch LF4.out (fun e => HGP.out.2.2.2 e.symm))
                            have q0 := rat0 RB4.out
                            have q1 := rat1 RB4.out
                            have hq := lt_of RB4.out
                            have p_0 := rat0 PB4.out
                            have p_1 := rat1 PB4.out
                            have hp := lt_of PB4.out
                            have f0 := blk_frozen PB4.out 0
                            have f1 := blk_frozen PB4.out 1
                            clear hch HLY4 LF4 PB4
                            go_wp2
                            go_meet
                            case rel => exact ⟨HLY5, LF5, PB5⟩
                          | false =>
                            have PB5 : Side (y3.heap[gp]? = some (rat p0 p1)) := ⟨by
                              have h := HPE.out
                              rw [if_neg (show ¬ (false = true) by decide), if_neg (show ¬ (false = true) by decide)] at h
                              rw [h.1, h.2]
                              exact PB4.out⟩
                            go_wp2
                            go_meet
                            case rel => exact ⟨HLY4, LF4, PB5⟩
                        case rest =>
                          obtain ⟨HLY5, LF5, PB5⟩ := hcut
                          clear HLY4 LF4 PB4 RB4 HPE
                          go_upto_region 27 with (fail)
                          generalize wc = y4 at *
                          have p_0 := rat0 PB5.out
                          have p_1 := rat1 PB5.out
                          have hp := lt_of PB5.out
                          have t0 := rat0 HLY5.out.a
                          have t1 := rat1 HLY5.out.a
                          have ht := lt_of HLY5.out.a
                          go_wp2_with fail
                          refine (RPlusQ H3.out _).out.mono ?_
                          rintro r_ y5 ⟨rfl, hb⟩
                          clear p_0 p_1 hp t0 t1 ht H3
                          have HLY6 := Side.mk (HLY5.out.below hb)
                          have LF6 := Side.mk (keep_blk LF5.out hb)
                          have PB6 := Side.mk (keep_blk PB5.out hb)
                          clear hb HLY5 LF5 PB5
                          go_upto_region 28 with (fail)
                          have hba := (Below.refl y5.heap.size y5).alloc (Nat.le_refl _) (.cells #[.int .i64 e0, .int .i64 e1] 37)
                          have EB : Side ((y5.alloc (.cells #[.int .i64 e0, .int .i64 e1] 37)).heap[y5.heap.size]? = some (rat e0 e1)) := ⟨heap_alloc_new y5 _⟩
                          have HLY7 := Side.mk (HLY6.out.below hba)
                          have LF7 := Side.mk (keep_blk LF6.out hba)
                          have PB7 := Side.mk (keep_blk PB6.out hba)
                          have HGE : Side (y5.heap.size ≠ ga ∧ y5.heap.size ≠ gl) := ⟨by have := lt_of HLY6.out.a; omega, by have := lt_of LF6.out; omega⟩
                          clear HLY6 LF6 PB6 hba
                          generalize y5.alloc (.cells #[.int .i64 e0, .int .i64 e1] 37) = y6 at *
                          generalize y5.heap.size = ge at *
                          have p_0 := rat0 PB7.out
                          have p_1 := rat1 PB7.out
                          have hp := lt_of PB7.out
                          go_upto_region 29 with (fail)
                          clear p_0 p_1 hp
                          have e_0 := rat0 EB.out
                          have e_1 := rat1 EB.out
                          have he := lt_of EB.out
                          have t0 := rat0 HLY7.out.a
                          have t1 := rat1 HLY7.out.a
                          have ht := lt_of HLY7.out.a
                          obtain ⟨hgl, c0, c3⟩ := HX.out y6 HLY7.out.bel
                          have HROW := Side.mk HLY7.out.row
                          have DR : Side (∀ w', Below y6.drew.heap.size y6.drew w' → Below y6.heap.size y6 w') := ⟨fun w' hb => below_then (below_drew (Below.refl _ y6)) (Nat.le_refl _) hb⟩
                          refine start_ (n := 24) (S := fun w' => True) (ds := []) #[false, false, false, false, false, false, false, false, false, false, false, false, false, false, false, false, false, false, false, false, false, false, false, false] (by kernel_rfl) rfl rfl trivial (fun _ => ?_)
                          refine inv_at (B := [0, 0, 0, 0, 12, 28, 60, 0, 128, 0, 896, 0, 3968, 0, 16256, 0, 0, 98304, 229376, 491520, 1048574, 2097150, 4194303, 8388607]) [0, 1, 2, 3, 4, 5, 6, 7, 8, 9, 10, 11, 12, 13, 14, 15, 16, 17, 18, 19, 20, 21, 22, 23] (fun a0_ b a w' => ∃ p_ v_ u_, a = putSel a0_ b [(0, 119, u14), (1, 120, .int .i64 core), (2, 121, .slice (some ⟨g, off, none⟩) l.length c), (3, 122, .int .i64 j), (4, 123, .pointer (some ⟨g, off + j * 4, none⟩)), (5, 124, .pointer (some ⟨g, off + j * 4, none⟩)), (6, 125, .int .i64 x0), (7, 126, .int .i64 fr), (8, 127, .agg #[.int .i64 fr, .int .i64 1]), (9, 128, .agg #[.int .i64 a0, .int .i64 a1]), (10, 129, .agg #[.int .i64 fa0, .int .i64 fa1]), (11, 130, .int .i64 fr), (12, 131, .agg #[.int .i64 fr, .int .i64 1]), (13, 132, .agg #[.int .i64 e0, .int .i64 e1]), (14, 133, .agg #[.int .i64 fe0, .int .i64 fe1]), (15, 134, .slice (some ⟨g, off, none⟩) l.length c), (16, 135, .int .i64 j), (17, 136, .pointer (some ⟨g, off + j * 4, none⟩)), (18, 137, .pointer (some ⟨g, off + j * 4 + 3, none⟩)), (19, 138, .bool x3), (20, 139, .agg #[.int .i64 3, .int .i64 core, .int .i64 x0, .int .i64 fa0, .int .i64 fa1, .int .i64 fe0, .int .i64 fe1, .bool x3]), (21, 140, .slice (some ⟨p_, 0, none⟩) 1 1), (22, 141, v_), (23, 14, u_)] ∧ A9 y6.drew w.heap.size u14 out ⟨3, core, x0, ⟨fa0, fa1⟩, ⟨fe0, fe1⟩, x3⟩ b p_ v_ u_ w') rfl (by kernel_rfl) (by kernel_rfl) (by kernel_rfl) ?_ ?_ ?_
                          · exact ⟨0, .bool false, .bool false, by simp only [putSel, Bool.false_eq_true, if_false], A9.start⟩
                          · refine steps_cons (by rintro b a w' ⟨p_, v_, u_, ha, HI⟩ hb hon hoff; refine ⟨_, rfl, fun K hK => ?_⟩; have e14 := poffb ha (t := 14) (hoff 23 rfl) rfl rfl; exact value_ (v := u14) (by rfl) rfl (by clear HI ha; go_simp) (hK.out _ _ ⟨p_, v_, u_, upk ha 0 hb rfl rfl, HI.low (Below.refl _ _) 0 (by decide) (hoff 22 rfl)⟩)) ?_
                            refine steps_cons (by rintro b a w' ⟨p_, v_, u_, ha, HI⟩ hb hon hoff; refine ⟨_, rfl, fun K hK => ?_⟩; have e15 := poff ha (t := 15) rfl rfl; exact value_ (v := .int .i64 core) (by rfl) rfl (by clear HI ha; go_simp) (hK.out _ _ ⟨p_, v_, u_, upk ha 1 hb rfl rfl, HI.low (Below.refl _ _) 1 (by decide) (hoff 22 rfl)⟩)) ?_
                            refine steps_cons (by rintro b a w' ⟨p_, v_, u_, ha, HI⟩ hb hon hoff; refine ⟨_, rfl, fun K hK => ?_⟩; have e0 := poff ha (t := 0) rfl rfl; exact value_ (v := .slice (some ⟨g, off, none⟩) l.length c) (by rfl) rfl (by clear HI ha; go_simp) (hK.out _ _ ⟨p_, v_, u_, upk ha 2 hb rfl rfl, HI.low (Below.refl _ _) 2 (by decide) (hoff 22 rfl)⟩)) ?_
                            refine steps_cons (by rintro b a w' ⟨p_, v_, u_, ha, HI⟩ hb hon hoff; refine ⟨_, rfl, fun K hK => ?_⟩; have e17 := poff ha (t := 17) rfl rfl; exact value_ (v := .int .i64 j) (by rfl) rfl (by clear HI ha; go_simp) (hK.out _ _ ⟨p_, v_, u_, upk ha 3 hb rfl rfl, HI.low (Below.refl _ _) 3 (by decide) (hoff 22 rfl)⟩)) ?_
                            refine steps_cons (by rintro b a w' ⟨p_, v_, u_, ha, HI⟩ hb hon hoff; refine ⟨_, rfl, fun K hK => ?_⟩; have e121 := pon ha 2 (hon 2 rfl) rfl rfl rfl; have e122 := pon ha 3 (hon 3 rfl) rfl rfl rfl; exact value_ (v := .pointer (some ⟨g, off + j * 4, none⟩)) (by rfl) rfl (by clear HI ha; go_simp) (hK.out _ _ ⟨p_, v_, u_, upk ha 4 hb rfl rfl, HI.low (Below.refl _ _) 4 (by decide) (hoff 22 rfl)⟩)) ?_
                            refine steps_cons (by rintro b a w' ⟨p_, v_, u_, ha, HI⟩ hb hon hoff; refine ⟨_, rfl, fun K hK => ?_⟩; have e123 := pon ha 4 (hon 4 rfl) rfl rfl rfl; exact value_ (v := .pointer (some ⟨g, off + j * 4, none⟩)) (by rfl) rfl (by clear HI ha; go_simp) (hK.out _ _ ⟨p_, v_, u_, upk ha 5 hb rfl rfl, HI.low (Below.refl _ _) 5 (by decide) (hoff 22 rfl)⟩)) ?_
                            refine steps_cons (by rintro b a w' ⟨p_, v_, u_, ha, HI⟩ hb hon hoff; refine ⟨_, rfl, fun K hK => ?_⟩; have e124 := pon ha 5 (hon 5 rfl) rfl rfl rfl; have k0_ := bc (HI.n (hoff 22 rfl)) hgl c0; have kz_ := bz (HI.n (hoff 22 rfl)) hgl; exact value_ (v := .int .i64 x0) (by rfl) rfl (by clear HI ha; go_simp) (hK.out _ _ ⟨p_, v_, u_, upk ha 6 hb rfl rfl, HI.low (Below.refl _ _) 6 (by decide) (hoff 22 rfl)⟩)) ?_
                            refine steps_cons (by rintro b a w' ⟨p_, v_, u_, ha, HI⟩ hb hon hoff; refine ⟨_, rfl, fun K hK => ?_⟩; have e1 := poff ha (t := 1) rfl rfl; exact value_ (v := .int .i64 fr) (by rfl) rfl (by clear HI ha; go_simp) (hK.out _ _ ⟨p_, v_, u_, upk ha 7 hb rfl rfl, HI.low (Below.refl _ _) 7 (by decide) (hoff 22 rfl)⟩)) ?_
                            refine steps_cons (by rintro b a w' ⟨p_, v_, u_, ha, HI⟩ hb hon hoff; refine ⟨_, rfl, fun K hK => ?_⟩; have e126 := pon ha 7 (hon 7 rfl) rfl rfl rfl; refine goes_ Try.func29 (by kernel_rfl) rfl #[.int .i64 fr] (by rfl) rfl rfl (by simp [Act.eval, e126]) ((RWholeQ _ _).out.mono ?_); rintro e_ w'' ⟨rfl, hbc⟩; exact ⟨_, rfl, hK.out _ _ ⟨p_, v_, u_, upk ha 8 hb rfl rfl, HI.low hbc 8 (by decide) (hoff 22 rfl)⟩⟩) ?_
                            refine steps_cons (by rintro b a w' ⟨p_, v_, u_, ha, HI⟩ hb hon hoff; refine ⟨_, rfl, fun K hK => ?_⟩; have e16 := poff ha (t := 16) rfl rfl; have k0_ := bc (HI.n (hoff 22 rfl)) ht t0; have k1_ := bc (HI.n (hoff 22 rfl)) ht t1; have kz_ := bz (HI.n (hoff 22 rfl)) ht; exact value_ (v := .agg #[.int .i64 a0, .int .i64 a1]) (by rfl) rfl (by clear HI ha; go_simp) (hK.out _ _ ⟨p_, v_, u_, upk ha 9 hb rfl rfl, HI.low (Below.refl _ _) 9 (by decide) (hoff 22 rfl)⟩)) ?_
                            refine steps_cons (by rintro b a w' ⟨p_, v_, u_, ha, HI⟩ hb hon hoff; refine ⟨_, rfl, fun K hK => ?_⟩; have e127 := pon ha 8 (hon 8 rfl) rfl rfl rfl; have e128 := pon ha 9 (hon 9 rfl) rfl rfl rfl; refine goes_ Try.func15 (by kernel_rfl) rfl #[.agg #[.int .i64 fr, .int .i64 1], .agg #[.int .i64 a0, .int .i64 a1]] (by rfl) rfl rfl (by simp [Act.eval, e127, e128]) ((RPlusQ H4.out _).out.mono ?_); rintro e_ w'' ⟨rfl, hbc⟩; exact ⟨_, rfl, hK.out _ _ ⟨p_, v_, u_, upk ha 10 hb rfl rfl, HI.low hbc 10 (by decide) (hoff 22 rfl)⟩⟩) ?_
                            refine steps_cons (by rintro b a w' ⟨p_, v_, u_, ha, HI⟩ hb hon hoff; refine ⟨_, rfl, fun K hK => ?_⟩; have e1 := poff ha (t := 1) rfl rfl; exact value_ (v := .int .i64 fr) (by rfl) rfl (by clear HI ha; go_simp) (hK.out _ _ ⟨p_, v_, u_, upk ha 11 hb rfl rfl, HI.low (Below.refl _ _) 11 (by decide) (hoff 22 rfl)⟩)) ?_
                            refine steps_cons (by rintro b a w' ⟨p_, v_, u_, ha, HI⟩ hb hon hoff; refine ⟨_, rfl, fun K hK => ?_⟩; have e130 := pon ha 11 (hon 11 rfl) rfl rfl rfl; refine goes_ Try.func29 (by kernel_rfl) rfl #[.int .i64 fr] (by rfl) rfl rfl (by simp [Act.eval, e130]) ((RWholeQ _ _).out.mono ?_); rintro e_ w'' ⟨rfl, hbc⟩; exact ⟨_, rfl, hK.out _ _ ⟨p_, v_, u_, upk ha 12 hb rfl rfl, HI.low hbc 12 (by decide) (hoff 22 rfl)⟩⟩) ?_
                            refine steps_cons (by rintro b a w' ⟨p_, v_, u_, ha, HI⟩ hb hon hoff; refine ⟨_, rfl, fun K hK => ?_⟩; have e21 := poff ha (t := 21) rfl rfl; have k0_ := bc (HI.n (hoff 22 rfl)) he e_0; have k1_ := bc (HI.n (hoff 22 rfl)) he e_1; have kz_ := bz (HI.n (hoff 22 rfl)) he; exact value_ (v := .agg #[.int .i64 e0, .int .i64 e1]) (by rfl) rfl (by clear HI ha; go_simp) (hK.out _ _ ⟨p_, v_, u_, upk ha 13 hb rfl rfl, HI.low (Below.refl _ _) 13 (by decide) (hoff 22 rfl)⟩)) ?_
                            refine steps_cons (by rintro b a w' ⟨p_, v_, u_, ha, HI⟩ hb hon hoff; refine ⟨_, rfl, fun K hK => ?_⟩; have e131 := pon ha 12 (hon 12 rfl) rfl rfl rfl; have e132 := pon ha 13 (hon 13 rfl) rfl rfl rfl; refine goes_ Try.func15 (by kernel_rfl) rfl #[.agg #[.int .i64 fr, .int .i64 1], .agg #[.int .i64 e0, .int .i64 e1]] (by rfl) rfl rfl (by simp [Act.eval, e131, e132]) ((RPlusQ H5.out _).out.mono ?_); rintro e_ w'' ⟨rfl, hbc⟩; exact ⟨_, rfl, hK.out _ _ ⟨p_, v_, u_, upk ha 14 hb rfl rfl, HI.low hbc 14 (by decide) (hoff 22 rfl)⟩⟩) ?_
                            refine steps_cons (by rintro b a w' ⟨p_, v_, u_, ha, HI⟩ hb hon hoff; refine ⟨_, rfl, fun K hK => ?_⟩; have e0 := poff ha (t := 0) rfl rfl; exact value_ (v := .slice (some ⟨g, off, none⟩) l.length c) (by rfl) rfl (by clear HI ha; go_simp) (hK.out _ _ ⟨p_, v_, u_, upk ha 15 hb rfl rfl, HI.low (Below.refl _ _) 15 (by decide) (hoff 22 rfl)⟩)) ?_
                            refine steps_cons (by rintro b a w' ⟨p_, v_, u_, ha, HI⟩ hb hon hoff; refine ⟨_, rfl, fun K hK => ?_⟩; have e17 := poff ha (t := 17) rfl rfl; exact value_ (v := .int .i64 j) (by rfl) rfl (by clear HI ha; go_simp) (hK.out _ _ ⟨p_, v_, u_, upk ha 16 hb rfl rfl, HI.low (Below.refl _ _) 16 (by decide) (hoff 22 rfl)⟩)) ?_
                            refine steps_cons (by rintro b a w' ⟨p_, v_, u_, ha, HI⟩ hb hon hoff; refine ⟨_, rfl, fun K hK => ?_⟩; have e134 := pon ha 15 (hon 15 rfl) rfl rfl rfl; have e135 := pon ha 16 (hon 16 rfl) rfl rfl rfl; exact value_ (v := .pointer (some ⟨g, off + j * 4, none⟩)) (by rfl) rfl (by clear HI ha; go_simp) (hK.out _ _ ⟨p_, v_, u_, upk ha 17 hb rfl rfl, HI.low (Below.refl _ _) 17 (by decide) (hoff 22 rfl)⟩)) ?_
                            refine steps_cons (by rintro b a w' ⟨p_, v_, u_, ha, HI⟩ hb hon hoff; refine ⟨_, rfl, fun K hK => ?_⟩; have e136 := pon ha 17 (hon 17 rfl) rfl rfl rfl; exact value_ (v := .pointer (some ⟨g, off + j * 4 + 3, none⟩)) (by rfl) rfl (by clear HI ha; go_simp) (hK.out _ _ ⟨p_, v_, u_, upk ha 18 hb rfl rfl, HI.low (Below.refl _ _) 18 (by decide) (hoff 22 rfl)⟩)) ?_
                            refine steps_cons (by rintro b a w' ⟨p_, v_, u_, ha, HI⟩ hb hon hoff; refine ⟨_, rfl, fun K hK => ?_⟩; have e137 := pon ha 18 (hon 18 rfl) rfl rfl rfl; have k0_ := bc (HI.n (hoff 22 rfl)) hgl c3; have kz_ := bz (HI.n (hoff 22 rfl)) hgl; exact value_ (v := .bool x3) (by rfl) rfl (by clear HI ha; go_simp) (hK.out _ _ ⟨p_, v_, u_, upk ha 19 hb rfl rfl, HI.low (Below.refl _ _) 19 (by decide) (hoff 22 rfl)⟩)) ?_
                            refine steps_cons (by rintro b a w' ⟨p_, v_, u_, ha, HI⟩ hb hon hoff; refine ⟨_, rfl, fun K hK => ?_⟩; have e120 := pon ha 1 (hon 1 rfl) rfl rfl rfl; have e125 := pon ha 6 (hon 6 rfl) rfl rfl rfl; have e129 := pon ha 10 (hon 10 rfl) rfl rfl rfl; have e133 := pon ha 14 (hon 14 rfl) rfl rfl rfl; have e138 := pon ha 19 (hon 19 rfl) rfl rfl rfl; exact value_ (v := .agg #[.int .i64 3, .int .i64 core, .int .i64 x0, .int .i64 fa0, .int .i64 fa1, .int .i64 fe0, .int .i64 fe1, .bool x3]) (by rfl) rfl (by clear HI ha; go_simp) (hK.out _ _ ⟨p_, v_, u_, upk ha 20 hb rfl rfl, HI.low (Below.refl _ _) 20 (by decide) (hoff 22 rfl)⟩)) ?_
                            refine steps_cons (by rintro b a w' ⟨p_, v_, u_, ha, HI⟩ hb hon hoff; refine ⟨_, rfl, fun K hK => ?_⟩; have e139 := pon ha 20 (hon 20 rfl) rfl rfl rfl; exact value_ (w1 := w'.alloc (.cells #[.int .i64 3, .int .i64 core, .int .i64 x0, .int .i64 fa0, .int .i64 fa1, .int .i64 fe0, .int .i64 fe1, .bool x3] 41)) (v := .slice (some ⟨w'.heap.size, 0, none⟩) 1 1) (by rfl) rfl (by clear HI ha; go_simp) (hK.out _ _ ⟨w'.heap.size, v_, u_, by rw [ha]; exact putSel_upk 21 hb rfl rfl rfl, HI.s21 (hoff 22 rfl)⟩)) ?_
                            refine steps_cons (by rintro b a w' ⟨p_, v_, u_, ha, HI⟩ hb hon hoff; refine ⟨_, rfl, fun K hK => ?_⟩; have e119 := pon ha 0 (hon 0 rfl) rfl rfl rfl; have e140 := pon ha 21 (hon 21 rfl) rfl rfl rfl; obtain ⟨v', w3, q1_, q2_, q3_⟩ := run_papp 26 (HROW.out.below (DR.out _ (HI.n hb))) p_ ⟨3, core, x0, ⟨fa0, fa1⟩, ⟨fe0, fe1⟩, x3⟩ (HI.box (hon 21 rfl) hb) HBD.out.2.2 (Nat.le_trans HLY7.out.bel.size (DR.out _ (HI.n hb)).size); exact value_ (w1 := w3) (v := v') (by rfl) rfl (exec_app rfl (by simp [Act.eval, e119]) (by simp [Act.eval, e140]) q1_) (hK.out _ _ ⟨p_, v', u_, by rw [ha]; exact putSel_upk 22 hb rfl rfl rfl, HI.s22 hb (hoff 23 rfl) q2_ q3_⟩)) ?_
                            refine steps_cons (by rintro b a w' ⟨p_, v_, u_, ha, HI⟩ hb hon hoff; refine ⟨_, rfl, fun K hK => ?_⟩; have e141 := pon ha 22 (hon 22 rfl) rfl rfl rfl; exact value_ (w1 := w') (v := v_) (by rfl) rfl (by clear HI ha; go_simp) (hK.out _ _ ⟨p_, v_, v_, by rw [ha]; exact putSel_upk 23 hb rfl rfl rfl, HI.s23⟩)) ?_
                            exact steps_nil
                          · rintro b a w' hall ⟨p_, v_, u_, ha, HI⟩
                            have hb0_ := hall 0 rfl; have hb1_ := hall 1 rfl; have hb2_ := hall 2 rfl; have hb3_ := hall 3 rfl; have hb4_ := hall 4 rfl; have hb5_ := hall 5 rfl; have hb6_ := hall 6 rfl; have hb7_ := hall 7 rfl
                            have hb8_ := hall 8 rfl; have hb9_ := hall 9 rfl; have hb10_ := hall 10 rfl; have hb11_ := hall 11 rfl; have hb12_ := hall 12 rfl; have hb13_ := hall 13 rfl; have hb14_ := hall 14 rfl; have hb15_ := hall 15 rfl
                            have hb16_ := hall 16 rfl; have hb17_ := hall 17 rfl; have hb18_ := hall 18 rfl; have hb19_ := hall 19 rfl; have hb20_ := hall 20 rfl; have hb21_ := hall 21 rfl; have hb22_ := hall 22 rfl; have hb23_ := hall 23 rfl
                            subst ha
                            simp only [putSel, hb0_, hb1_, hb2_, hb3_, hb4_, hb5_, hb6_, hb7_, hb8_, hb9_, hb10_, hb11_, hb12_, hb13_, hb14_, hb15_, hb16_, hb17_, hb18_, hb19_, hb20_, hb21_, hb22_, hb23_, if_true, Act.put, List.setIfInBounds_toArray, List.set_cons_zero, List.set_cons_succ]
                            obtain ⟨hr_, W1_, hw1_, hw2_⟩ := HI.y hb22_
                            rw [← HI.e hb23_] at hr_
                            have HLY8 := Side.mk ((HLY7.out.below (DR.out _ hw1_)).grow hr_ hw2_)
                            have LF8 := Side.mk (grown_blk (HROW.out.below (DR.out _ hw1_)) hw2_ (keep_blk LF7.out (DR.out _ hw1_)) (by decide))
                            have PB8 := Side.mk (grown_blk (HROW.out.below (DR.out _ hw1_)) hw2_ (keep_blk PB7.out (DR.out _ hw1_)) (by decide))
                            have EB8 := Side.mk (grown_blk (HROW.out.below (DR.out _ hw1_)) hw2_ (keep_blk EB.out (DR.out _ hw1_)) (by decide))
                            clear hr_ hw1_ hw2_ W1_
                            clear hall HI hb0_ hb1_ hb2_ hb3_ hb4_ hb5_ hb6_ hb7_ hb8_ hb9_ hb10_ hb11_ hb12_ hb13_ hb14_ hb15_ hb16_ hb17_ hb18_ hb19_ hb20_ hb21_ hb22_ hb23_
                            refine ‹∀ (a : Act) (w : World), Code.wp Try.prog _ _ a w → _› _ _ ?_
                            clear HLY7 LF7 PB7 EB e_0 e_1 he t0 t1 ht hgl c0 c3 HROW DR H4 H5
                            obtain ⟨y7, hy7⟩ : ∃ y7, y7 = w' := ⟨_, rfl⟩
                            rw [← hy7] at HLY8 LF8 PB8 EB8 ⊢
                            clear hy7
                            have LFD : Side (y7.drew.heap[gl]? = some (rat l0 l1)) := ⟨LF8.out⟩
                            have ATD : Side (y7.drew.heap[ga]? = some (rat a0 a1)) := ⟨HLY8.out.a⟩
                            have PBD : Side (y7.drew.heap[gp]? = some (rat p0 p1)) := ⟨PB8.out⟩
                            have EBD : Side (y7.drew.heap[ge]? = some (rat e0 e1)) := ⟨EB8.out⟩
                            have HNP : Side (¬ (gp = gl ∨ gp = ga)) := ⟨fun e => by rcases e with e | e <;> first | exact HGP.out.2.2.2 e | exact HGP.out.2.1 e⟩
                            have HNE : Side (¬ (ge = gl ∨ ge = ga)) := ⟨fun e => by rcases e with e | e <;> first | exact HGE.out.2 e | exact HGE.out.1 e⟩
                            go_upto_region 30 with (fail)
                            refine start_ (n := 6) (S := fun w' => True) (ds := []) #[false, false, false, false, false, false] (by kernel_rfl) rfl rfl trivial (fun _ => ?_)
                            refine inv_at (B := [0, 0, 3, 0, 7, 31]) [0, 1, 2, 3, 4, 5] (fun a0_ b a w' => a = putSel a0_ b [(0, 142, .agg #[.int .i64 l0, .int .i64 l1]), (1, 143, .agg #[.int .i64 p0, .int .i64 p1]), (2, 144, .agg #[.int .i64 m0, .int .i64 m1]), (3, 145, .agg #[.int .i64 e0, .int .i64 e1])] ∧ A30 y7.drew gl ga l0 l1 m0 m1 a0 a1 e0 e1 b w') rfl (by kernel_rfl) (by kernel_rfl) (by kernel_rfl) ?_ ?_ ?_
                            · exact ⟨by simp only [putSel, Bool.false_eq_true, if_false], (A30.start LFD.out ATD.out)⟩
                            · refine steps_cons (by rintro b a w' ⟨ha, HI⟩ hb hon hoff; refine ⟨_, rfl, fun K hK => ?_⟩; have e18 := poff ha (t := 18) rfl rfl; have k0_ := rat0 (HI.l0 (hoff 4 rfl)); have k1_ := rat1 (HI.l0 (hoff 4 rfl)); have kz_ := lt_of (HI.l0 (hoff 4 rfl)); exact value_ (v := .agg #[.int .i64 l0, .int .i64 l1]) (by rfl) rfl (by clear HI ha; go_simp) (hK.out _ _ ⟨upk ha 0 hb rfl rfl, HI.low (Below.refl _ _) 0 (by decide)⟩)) ?_
                              refine steps_cons (by rintro b a w' ⟨ha, HI⟩ hb hon hoff; refine ⟨_, rfl, fun K hK => ?_⟩; have e19 := poff ha (t := 19) rfl rfl; have kq_ := (HI.chg.block gp (lt_of PBD.out) HNP.out).trans PBD.out; have k0_ := rat0 kq_; have k1_ := rat1 kq_; have kz_ := lt_of kq_; exact value_ (v := .agg #[.int .i64 p0, .int .i64 p1]) (by rfl) rfl (by clear HI ha; go_simp) (hK.out _ _ ⟨upk ha 1 hb rfl rfl, HI.low (Below.refl _ _) 1 (by decide)⟩)) ?_
                              refine steps_cons (by rintro b a w' ⟨ha, HI⟩ hb hon hoff; refine ⟨_, rfl, fun K hK => ?_⟩; have e142 := pon ha 0 (hon 0 rfl) rfl rfl rfl; have e143 := pon ha 1 (hon 1 rfl) rfl rfl rfl; refine goes_ Try.func16 (by kernel_rfl) rfl #[.agg #[.int .i64 l0, .int .i64 l1], .agg #[.int .i64 p0, .int .i64 p1]] (by rfl) rfl rfl (by simp [Act.eval, e142, e143]) ((RMinusQ H6.out _).out.mono ?_); rintro e_ w'' ⟨rfl, hbc⟩; exact ⟨_, rfl, hK.out _ _ ⟨upk ha 2 hb rfl rfl, HI.low hbc 2 (by decide)⟩⟩) ?_
                              refine steps_cons (by rintro b a w' ⟨ha, HI⟩ hb hon hoff; refine ⟨_, rfl, fun K hK => ?_⟩; have e21 := poff ha (t := 21) rfl rfl; have kq_ := (HI.chg.block ge (lt_of EBD.out) HNE.out).trans EBD.out; have k0_ := rat0 kq_; have k1_ := rat1 kq_; have kz_ := lt_of kq_; exact value_ (v := .agg #[.int .i64 e0, .int .i64 e1]) (by rfl) rfl (by clear HI ha; go_simp) (hK.out _ _ ⟨upk ha 3 hb rfl rfl, HI.low (Below.refl _ _) 3 (by decide)⟩)) ?_
                              refine steps_cons (by rintro b a w' ⟨ha, HI⟩ hb hon hoff; refine ⟨_, rfl, fun K hK => ?_⟩; have e18 := poff ha (t := 18) rfl rfl; have e144 := pon ha 2 (hon 2 rfl) rfl rfl rfl; have hst := run_rat (HI.l0 hb) m0 m1; exact skip_ (w1 := w'.setCells gl 0 [.int .i64 m0, .int .i64 m1]) (by rfl) rfl (by unfold execOp; simp [Act.eval, e18, e144, hst]) (hK.out _ _ ⟨ups ha rfl, HI.s4 hb HGL.out.2.1⟩)) ?_
                              refine steps_cons (by rintro b a w' ⟨ha, HI⟩ hb hon hoff; refine ⟨_, rfl, fun K hK => ?_⟩; have e16 := poff ha (t := 16) rfl rfl; have e145 := pon ha 3 (hon 3 rfl) rfl rfl rfl; have hst := run_rat (HI.a0 hb) e0 e1; exact skip_ (w1 := w'.setCells ga 0 [.int .i64 e0, .int .i64 e1]) (by rfl) rfl (by unfold execOp; simp [Act.eval, e16, e145, hst]) (hK.out _ _ ⟨ups ha rfl, HI.s5 hb HGL.out.2.1⟩)) ?_
                              exact steps_nil
                            · rintro b a w' hall ⟨ha, HI⟩
                              have hb0_ := hall 0 rfl; have hb1_ := hall 1 rfl; have hb2_ := hall 2 rfl; have hb3_ := hall 3 rfl; have hb4_ := hall 4 rfl; have hb5_ := hall 5 rfl
                              subst ha
                              simp only [putSel, hb0_, hb1_, hb2_, hb3_, if_true, Act.put, List.setIfInBounds_toArray, List.set_cons_zero, List.set_cons_succ]
                              have HCH := Side.mk ((Chg.of_below (S := fun k => k = gl ∨ k = ga) (below_drew (Below.refl _ y7))).trans HI.chg (fun _ _ e => e))
                              have LF9 := Side.mk (HI.l1 hb4_)
                              have AT9 := Side.mk (HI.a1 hb5_)
                              clear hall HI hb0_ hb1_ hb2_ hb3_ hb4_ hb5_
                              refine ‹∀ (a : Act) (w : World), Code.wp Try.prog _ _ a w → _› _ _ ?_
                              have HLY9 := Side.mk (HLY8.out.both LF8.out HGL.out.1 HGL.out.2.2 HCH.out AT9.out)
                              clear HCH AT9 HLY8 LF8 PB8 EB8 LFD ATD PBD EBD HNP HNE H6
                              obtain ⟨y8, hy8⟩ : ∃ y8, y8 = w' := ⟨_, rfl⟩
                              rw [← hy8] at HLY9 LF9 ⊢
                              clear hy8
                              have z0 := rat0 HLY9.out.z
                              have z1 := rat1 HLY9.out.z
                              have hz := lt_of HLY9.out.z
                              have t0 := rat0 HLY9.out.a
                              have t1 := rat1 HLY9.out.a
                              have ht := lt_of HLY9.out.a
                              go_wp2_with fail
                              refine (RLessQ H7.out _).out.mono ?_
                              rintro r_ y9 ⟨rfl, hb⟩
                              have HLYa := Side.mk (HLY9.out.below hb)
                              have LFa := Side.mk (keep_blk LF9.out hb)
                              clear hb HLY9 LF9 H7 z0 z1 hz t0 t1 ht
                              have hm := HM2.out
                              clear HM2
                              cases dd with
                              | true =>
                                rw [if_pos rfl] at hm
                                have HM3 := Side.mk hm
                                clear hm
                                go_wp2
                                go_roundg k1
                                case rel => exact ⟨core, e0, e1, m0, m1, _, rfl, ⟨by have := HKF.out; omega⟩, HLYa, LFa, HM3⟩
                                case measure => have := HKF.out; omega
                              | false =>
                                rw [if_neg (show ¬ (false = true) by decide)] at hm
                                have HM3 := Side.mk hm
                                clear hm
                                have hcw : core + 1 ≤ 9223372036854775807 := by have := HBD.out; omega
                                have hcw0 : 0 ≤ core := HBD.out.1
                                go_wp2_with fail
                                refine (RWholeQ _ _).out.mono ?_
                                rintro r_ ya ⟨rfl, hb⟩
                                have HLYb := Side.mk (HLYa.out.below hb)
                                have LFb := Side.mk (keep_blk LFa.out hb)
                                clear hb HLYa LFa
                                obtain ⟨hat, hch⟩ := set_rat (x' := 0) (y' := 1) HLYb.out.a
                                have HLYc := Side.mk (HLYb.out.at_ hch hat)
                                have LFc := Side.mk (chg_blk hch LFb.out HGL.out.2.1)
                                have t0 := rat0 HLYb.out.a
                                have t1 := rat1 HLYb.out.a
                                have ht := lt_of HLYb.out.a
                                have f0 := blk_frozen HLYb.out.a 0
                                have f1 := blk_frozen HLYb.out.a 1
                                clear hat hch HLYb LFb
                                go_wp2
                                go_roundg k1
                                case rel => exact ⟨core + 1, 0, 1, m0, m1, _, rfl, ⟨by have := HKF.out; omega⟩, HLYc, LFc, HM3⟩
                                case measure => have := HKF.out; omega
                      · rw [if_neg hpos] at hm
                        have dp := decide_eq_false hpos
                        simp only [Option.some.injEq, Prod.mk.injEq] at hm
                        obtain ⟨rfl, rfl, rfl, rfl⟩ := hm
                        clear LF g1 HKF
                        go_wp2
                        exact ⟨⟨j + 1, _, _, _, _, rfl, by simp, by omega, ⟨HLY.out, HM.out⟩⟩, by simp [intOf]; omega⟩
                · have hjj : ¬ (j : Int) < l.length := by omega
                  obtain rfl : j = l.length := by omega
                  have hm := HI.out.2
                  rw [List.drop_length] at hm
                  obtain rfl : out = o2 := Option.some.inj hm
                  have HLY := Side.mk HI.out.1
                  clear hm HI
                  go_wp2
                  go_ret2
                  exact ⟨_, rfl, HLY.out.row, HLY.out.bel⟩
end Go.Proofs.Ytkgafogkeaaniaa.RlB
