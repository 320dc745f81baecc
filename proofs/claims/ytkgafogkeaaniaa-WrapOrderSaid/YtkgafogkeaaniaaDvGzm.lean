/- Package ratio: a size of two words by one of two words. No condition. -/
import Derived.Test.YtkgafogkeaaniaaDvFzm
set_option linter.unusedVariables false
set_option linter.unusedSimpArgs false
namespace Go.Proofs.Ytkgafogkeaaniaa.DvG
open Go.RowKit Go.Proofs.Ytkgafogkeaaniaa.Kit Go.Proofs.Ytkgafogkeaaniaa.Kit4 Go.Proofs.Ytkgafogkeaaniaa.DvA Go.Proofs.Ytkgafogkeaaniaa.DvB Go.Proofs.Ytkgafogkeaaniaa.DvC Go.Proofs.Ytkgafogkeaaniaa.DvD Go.Proofs.Ytkgafogkeaaniaa.DvE Go.Proofs.Ytkgafogkeaaniaa.DvF DvPlain
open Go.Proofs.YtkgafogkeaaniaaW.PrintLast
set_option maxHeartbeats 8000000 in
set_option maxRecDepth 100000 in
theorem by1_core (h1 l1 h2 l2 : Nat) (s1 s2 : Bool) (a0 : h1 < 18446744073709551616) (a1 : l1 < 18446744073709551616) (a2 : h2 < 18446744073709551616) (a3 : l2 < 18446744073709551616) (hz : 0 < h2) (w : World) :
    Calls Try.prog 53 #[W h1 l1 s1, W h2 l2 s2] w fun e w' => e = .returned (.tuple #[.int .u64 ((nat2 h1 l1 / nat2 h2 l2 : Nat) : Int), .bool true]) ∧ Below w.heap.size w w' := by
  have t1 : ((h2 : Int) == 0) = false := by simp; omega
  have t2 : ¬ (h2 : Int) = 0 := by omega
  have hA := nat2_lt h1 l1 a0 a1
  have hB := nat2_lt h2 l2 a2 a3
  have hB2 : 18446744073709551616 ≤ nat2 h2 l2 := by unfold nat2; omega
  have hB0 : 0 < nat2 h2 l2 := by omega
  obtain ⟨d1, d2, d3, d4⟩ := Dv.start hA hB0 hB
  have d3 := d3 hB2
  rw [blen_of h1 l1 a1, blen_of h2 l2 a3] at d1 d2 d3 d4
  have CA := fun w => Side.mk (length_at h1 l1 s1 a0 a1 w)
  have CB := fun w => Side.mk (length_at h2 l2 s2 a2 a3 w)
  have x3 := (blen_at _ hA).2.2
  have y3 := (blen_at _ hB).2.2
  rw [blen_of h1 l1 a1] at x3
  rw [blen_of h2 l2 a3] at y3
  obtain ⟨x1, hx1⟩ : ∃ x1, x1 = wlen h1 l1 := ⟨_, rfl⟩
  obtain ⟨x2, hx2⟩ : ∃ x2, x2 = wlen h2 l2 := ⟨_, rfl⟩
  rw [← hx1] at CA d1 d2 d3 d4 x3
  rw [← hx2] at CB d1 d2 d3 d4 y3
  obtain ⟨Q, hQ⟩ : ∃ Q, Q = nat2 h1 l1 / nat2 h2 l2 := ⟨_, rfl⟩
  rw [← hQ]
  have HQQ := Side.mk hQ
  clear hQ
  have HD1 := Side.mk d1
  have HD4 := Side.mk d4
  clear hx1 hx2 d1 d4
  go_enter Try.func53, Try.ntmps53
  go_upto_region 7 with (fail)
  obtain ⟨w0, hw0⟩ : ∃ w0 : World, w0 = (w.alloc (.cells #[.int .u64 (h1 : Int), .int .u64 (l1 : Int), .bool s1] 69)).alloc (.cells #[.int .u64 (h2 : Int), .int .u64 (l2 : Int), .bool s2] 69) := ⟨_, rfl⟩
  rw [← hw0]
  have HP0 : Side (Bx w0 w.heap.size h1 l1 s1) := ⟨by rw [hw0]; exact (Bx.new w h1 l1 s1).below ((Below.refl _ _).alloc (Nat.le_refl _) _)⟩
  have HQ0 : Side (Bx w0 (w.heap.size + 1) h2 l2 s2) := ⟨by rw [hw0]; have := Bx.new (w.alloc (.cells #[.int .u64 (h1 : Int), .int .u64 (l1 : Int), .bool s1] 69)) h2 l2 s2; simpa using this⟩
  have HB0 : Side (Below w.heap.size w w0) := ⟨by rw [hw0]; exact ((Below.refl _ _).alloc (Nat.le_refl _) _).alloc (by simp) _⟩
  clear hw0
  have p0 := HP0.out.c0
  have p1 := HP0.out.c1
  have p2 := HP0.out.c2
  have q0 := HQ0.out.c0
  have q1 := HQ0.out.c1
  have q2 := HQ0.out.c2
  have pl := HP0.out.lt
  have ql := HQ0.out.lt
  have HWN : Side (IntKind.i64.wrap ((x1 : Int) - x2) = (x1 : Int) - x2) := ⟨Go.IntWalk.i64_in _ (by omega)⟩
  go_cut [9] (fun v we => v = .int .i64 ((x1 : Int) - x2) ∧ Side (Below w0.heap.size w0 we))
  case first =>
    refine start_ (n := 6) (S := fun w' => True) (ds := []) #[false, false, false, false, false, false] (by kernel_rfl) rfl rfl trivial (fun _ => ?_)
    refine inv_at (B := [0, 1, 0, 7, 15, 31]) [0, 1, 2, 3, 4, 5] (fun a0_ b a w' => a = putSel a0_ b [(0, 39, .agg #[.int .u64 h1, .int .u64 l1, .bool s1]), (1, 40, .int .i64 x1), (2, 41, .agg #[.int .u64 h2, .int .u64 l2, .bool s2]), (3, 42, .int .i64 x2), (4, 43, .int .i64 ((x1 : Int) - x2)), (5, 9, .int .i64 ((x1 : Int) - x2))] ∧ Below w0.drew.heap.size w0.drew w') rfl (by kernel_rfl) (by kernel_rfl) (by kernel_rfl) ?_ ?_ ?_
    · exact ⟨by simp only [putSel, Bool.false_eq_true, if_false], Below.refl _ _⟩
    · refine steps_cons (by rintro b a w' ⟨ha, HI⟩ hb hon hoff; refine ⟨_, rfl, fun K hK => ?_⟩; have e2 := poff ha (t := 2) rfl rfl; have k0_ := bc HI pl p0; have k1_ := bc HI pl p1; have k2_ := bc HI pl p2; have kz_ := bz HI pl; exact value_ (v := .agg #[.int .u64 h1, .int .u64 l1, .bool s1]) (by rfl) rfl (by clear HI ha; go_simp) (hK.out _ _ ⟨upk ha 0 hb rfl rfl, HI⟩)) ?_
      refine steps_cons (by rintro b a w' ⟨ha, HI⟩ hb hon hoff; refine ⟨_, rfl, fun K hK => ?_⟩; have e39 := pon ha 0 (hon 0 rfl) rfl rfl rfl; refine goes_ Try.func63 (by kernel_rfl) rfl #[.agg #[.int .u64 h1, .int .u64 l1, .bool s1]] (by rfl) rfl rfl (by simp [Act.eval, e39]) ((CA w').out.mono ?_); rintro e_ w'' ⟨rfl, hbc⟩; exact ⟨_, rfl, hK.out _ _ ⟨upk ha 1 hb rfl rfl, below_then HI HI.size hbc⟩⟩) ?_
      refine steps_cons (by rintro b a w' ⟨ha, HI⟩ hb hon hoff; refine ⟨_, rfl, fun K hK => ?_⟩; have e3 := poff ha (t := 3) rfl rfl; have k0_ := bc HI ql q0; have k1_ := bc HI ql q1; have k2_ := bc HI ql q2; have kz_ := bz HI ql; exact value_ (v := .agg #[.int .u64 h2, .int .u64 l2, .bool s2]) (by rfl) rfl (by clear HI ha; go_simp) (hK.out _ _ ⟨upk ha 2 hb rfl rfl, HI⟩)) ?_
      refine steps_cons (by rintro b a w' ⟨ha, HI⟩ hb hon hoff; refine ⟨_, rfl, fun K hK => ?_⟩; have e41 := pon ha 2 (hon 2 rfl) rfl rfl rfl; refine goes_ Try.func63 (by kernel_rfl) rfl #[.agg #[.int .u64 h2, .int .u64 l2, .bool s2]] (by rfl) rfl rfl (by simp [Act.eval, e41]) ((CB w').out.mono ?_); rintro e_ w'' ⟨rfl, hbc⟩; exact ⟨_, rfl, hK.out _ _ ⟨upk ha 3 hb rfl rfl, below_then HI HI.size hbc⟩⟩) ?_
      refine steps_cons (by rintro b a w' ⟨ha, HI⟩ hb hon hoff; refine ⟨_, rfl, fun K hK => ?_⟩; have e40 := pon ha 1 (hon 1 rfl) rfl rfl rfl; have e42 := pon ha 3 (hon 3 rfl) rfl rfl rfl; exact value_ (v := .int .i64 ((x1 : Int) - x2)) (by rfl) rfl (by clear HI ha; go_simp; exact HWN.out) (hK.out _ _ ⟨upk ha 4 hb rfl rfl, HI⟩)) ?_
      refine steps_cons (by rintro b a w' ⟨ha, HI⟩ hb hon hoff; refine ⟨_, rfl, fun K hK => ?_⟩; have e43 := pon ha 4 (hon 4 rfl) rfl rfl rfl; exact value_ (v := .int .i64 ((x1 : Int) - x2)) (by rfl) rfl (by clear HI ha; go_simp) (hK.out _ _ ⟨upk ha 5 hb rfl rfl, HI⟩)) ?_
      exact steps_nil
    · rintro b a w' hall ⟨ha, HI⟩
      have hb0_ := hall 0 rfl; have hb1_ := hall 1 rfl; have hb2_ := hall 2 rfl; have hb3_ := hall 3 rfl; have hb4_ := hall 4 rfl; have hb5_ := hall 5 rfl
      subst ha
      simp only [putSel, hb0_, hb1_, hb2_, hb3_, hb4_, hb5_, if_true, Act.put, List.setIfInBounds_toArray, List.set_cons_zero, List.set_cons_succ]
      have hB := (below_then (below_drew (Below.refl _ w0)) (Nat.le_refl _) HI : Below w0.heap.size w0 w')
      clear hall HI hb0_ hb1_ hb2_ hb3_ hb4_ hb5_
      refine ‹∀ (a' : Act) (w' : World), Met _ a' w' → _› _ _ ?_
      go_meet
      case rel => exact ⟨rfl, ⟨hB⟩⟩
  case rest =>
  obtain ⟨rfl, HC⟩ := hcut
  have HP1 := Side.mk (HP0.out.below HC.out)
  have HQ1 := Side.mk (HQ0.out.below HC.out)
  have HB1 : Side (Below w.heap.size w wc) := ⟨HB0.out.trans (HC.out.mono HB0.out.size)⟩
  clear HP0 HQ0 HB0 HC p0 p1 p2 q0 q1 q2 pl ql CA CB HWN
  go_wp2_with fail
  go_loopw [8, 9] (fun v8 v9 wr => ∃ (q k h l : Nat) (z : Int), v8 = .int .u64 (q : Int) ∧ v9 = .int .i64 z ∧ ((0 < k ∧ z = (k : Int) - 1) ∨ (k = 0 ∧ z < 0 ∧ -200 < z)) ∧ k ≤ 64 ∧ h < 18446744073709551616 ∧ l < 18446744073709551616 ∧ Side (Dv (nat2 h1 l1) (nat2 h2 l2) k q (nat2 h l)) ∧ Side (0 < k → nat2 h2 l2 * 2 ^ (k - 1) < 2 ^ 128) ∧ Side (Bx wr w.heap.size h l s1) ∧ Side (Bx wr (w.heap.size + 1) h2 l2 s2) ∧ Side (Below w.heap.size w wr)) (fun _ v9 _ => (intOf v9 + 1).toNat)
  case atStart => exact ⟨0, x1 + 1 - x2, h1, l1, (x1 : Int) - x2, rfl, rfl, by omega, d3, a0, a1, HD1, HD4, HP1, HQ1, HB1⟩
  case round =>
    clear HP1 HQ1 HB1 HD1 HD4
    obtain ⟨q, k, h, l, z, rfl, rfl, hkz, hk, hh, hl, HD, HM, HP, HQ, HB⟩ := hrel
    obtain ⟨wz, hwz⟩ : ∃ wz : World, wz = wr := ⟨_, rfl⟩
    rw [← hwz] at HP HQ HB ⊢
    clear hwz
    have hzl : -200 < z := by omega
    have hzu : z ≤ 64 := by omega
    rcases Nat.eq_zero_or_pos k with rfl | hkp
    · have hz0 : ¬ (0 : Int) ≤ z := by omega
      obtain rfl : q = Q := by rw [HQQ.out]; exact HD.out.fin hB0
      clear hkz
      go_wp2_with fail
      go_ret2
      exact ⟨rfl, HB.out.trans (by (repeat (with_reducible first | exact Below.refl _ _ | apply below_drewN | apply below_drew | apply below_alloc)))⟩
    · obtain ⟨n, rfl⟩ : ∃ n, k = n + 1 := ⟨k - 1, by omega⟩
      obtain rfl : z = (n : Int) := by omega
      have hn0 : (0 : Int) ≤ (n : Int) := by omega
      clear hkz hzl
      have hM := HM.out hkp
      rw [Nat.add_sub_cancel] at hM
      obtain ⟨u, hu⟩ : ∃ u, u = nat2 h2 l2 * 2 ^ n := ⟨_, rfl⟩
      rw [← hu] at hM
      have CU := fun w => Side.mk (up_V (nat2 h2 l2) n hB s2 (by omega) (by rw [← hu]; exact hM) w)
      rw [← hu, V_of h2 l2 s2 a3] at CU
      obtain ⟨b3, b4⟩ := V_lt u hM
      have e9 := nat2_V u
      obtain ⟨uh, huh⟩ : ∃ uh, uh = u / 18446744073709551616 := ⟨_, rfl⟩
      obtain ⟨ul, hul⟩ : ∃ ul, ul = u % 18446744073709551616 := ⟨_, rfl⟩
      have eu : V u s2 = W uh ul s2 := by rw [huh, hul]
      rw [eu] at CU
      rw [← huh, ← hul] at e9
      rw [← huh] at b3
      rw [← hul] at b4
      clear huh hul eu
      have p0 := HP.out.c0
      have p1 := HP.out.c1
      have p2 := HP.out.c2
      have q0 := HQ.out.c0
      have q1 := HQ.out.c1
      have q2 := HQ.out.c2
      have pl := HP.out.lt
      have ql := HQ.out.lt
      have HU := Side.mk hu
      have HE9 := Side.mk e9
      clear hu e9
      go_wp2_with fail
      refine (CU _).out.mono ?_
      rintro e w2 ⟨rfl, hb⟩
      have hb2 : Below wz.heap.size wz w2 := below_then (by (repeat (with_reducible first | exact Below.refl _ _ | apply below_drewN | apply below_drew | apply below_alloc))) (by first | exact Nat.le_refl _ | (simp; omega)) hb
      have HP2 := Side.mk (HP.out.below hb2)
      have HQ2 := Side.mk (HQ.out.below hb2)
      have HB2 : Side (Below w.heap.size w w2) := ⟨below_then HB.out HB.out.size hb2⟩
      clear hb hb2 HP HQ HB p0 p1 p2 q0 q1 q2 pl ql
      go_upto_region 11 with (fail)
      obtain ⟨w3, hw3⟩ : ∃ w3 : World, w3 = w2.alloc (.cells #[.int .u64 (uh : Int), .int .u64 (ul : Int), .bool s2] 69) := ⟨_, rfl⟩
      rw [← hw3]
      have HP3 : Side (Bx w3 w.heap.size h l s1) := ⟨by rw [hw3]; exact HP2.out.below ((Below.refl _ _).alloc (Nat.le_refl _) _)⟩
      have HQ3 : Side (Bx w3 (w.heap.size + 1) h2 l2 s2) := ⟨by rw [hw3]; exact HQ2.out.below ((Below.refl _ _).alloc (Nat.le_refl _) _)⟩
      have HU3 : Side (Bx w3 w2.heap.size uh ul s2) := ⟨by rw [hw3]; exact Bx.new w2 uh ul s2⟩
      have HB3 : Side (Below w.heap.size w w3) := ⟨by rw [hw3]; exact HB2.out.alloc HB2.out.size _⟩
      have hpne : w.heap.size + 1 < w2.heap.size := by have := HQ2.out.lt; omega
      generalize w2.heap.size = g at *
      clear hw3 HP2 HQ2 HB2 CU
      obtain ⟨t, ht⟩ : ∃ t : Bool, t = decide (nat2 h l < nat2 uh ul) := ⟨_, rfl⟩
      have CL := Side.mk (fun w => less_at h l uh ul s1 s2 hl b4 t ht w)
      have HT := Side.mk ht
      clear ht
      have p0 := HP3.out.c0
      have p1 := HP3.out.c1
      have p2 := HP3.out.c2
      have u0 := HU3.out.c0
      have u1 := HU3.out.c1
      have u2 := HU3.out.c2
      have pl := HP3.out.lt
      have ul' := HU3.out.lt
      go_wp2_with fail
      refine (CL.out _).mono ?_
      rintro e w4 ⟨rfl, hb⟩
      have hb2 : Below w3.heap.size w3 w4 := below_then (by (repeat (with_reducible first | exact Below.refl _ _ | apply below_drewN | apply below_drew | apply below_alloc))) (by first | exact Nat.le_refl _ | (simp; omega)) hb
      have HP4 := Side.mk (HP3.out.below hb2)
      have HQ4 := Side.mk (HQ3.out.below hb2)
      have HU4 := Side.mk (HU3.out.below hb2)
      have HB4 : Side (Below w.heap.size w w4) := ⟨below_then HB3.out HB3.out.size hb2⟩
      clear hb hb2 HP3 HQ3 HU3 HB3 p0 p1 p2 u0 u1 u2 pl ul' CL
      cases t
      · -- it goes in once more
        obtain ⟨c, hc⟩ : ∃ c : Nat, c = if l < ul + 0 then 1 else 0 := ⟨_, rfl⟩
        obtain ⟨lr, hlr⟩ : ∃ lr : Nat, lr = (l + 18446744073709551616 - ul - 0) % 18446744073709551616 := ⟨_, rfl⟩
        obtain ⟨hr, hhr⟩ : ∃ hr : Nat, hr = (h + 18446744073709551616 - uh - c) % 18446744073709551616 := ⟨_, rfl⟩
        obtain ⟨d, hd⟩ : ∃ d : Nat, d = if h < uh + c then 1 else 0 := ⟨_, rfl⟩
        have hc1 : c ≤ 1 := by rw [hc]; split <;> omega
        have S1 : ∀ w, (callFunc 57 #[.int .u64 (l : Int), .int .u64 (ul : Int), .int .u64 0]).run Try.prog w = .ok (.value (.tuple #[.int .u64 (lr : Int), .int .u64 (c : Int)])) w := fun w => by
          have := sub_run l ul 0 (by omega) w
          rw [← hlr, ← hc] at this
          exact this
        have S2 : ∀ w, (callFunc 57 #[.int .u64 (h : Int), .int .u64 (uh : Int), .int .u64 (c : Int)]).run Try.prog w = .ok (.value (.tuple #[.int .u64 (hr : Int), .int .u64 (d : Int)])) w := fun w => by
          have := sub_run h uh c hc1 w
          rw [← hhr, ← hd] at this
          exact this
        have HR := Side.mk (sub_at h l uh ul c lr hr hl b4 hh (by have := of_decide_eq_false HT.out.symm; unfold nat2 at this; omega) hc hlr hhr)
        have hle : u ≤ nat2 h l := by have := of_decide_eq_false HT.out.symm; have := HE9.out; omega
        have HD2 : Side (Dv (nat2 h1 l1) (nat2 h2 l2) n (q + 2 ^ n) (nat2 hr lr)) := ⟨by
          have h := HD.out.sub (by rw [← HU.out]; exact hle)
          rw [← HU.out, ← HE9.out] at h
          have e := HR.out.1
          unfold nat2 at *
          rw [e]
          exact h⟩
        have hq2 := HD2.out.le hB2 hA
        have hpn : 2 ^ n < 2 ^ 64 := Nat.pow_lt_pow_right (by decide) (by omega)
        have eor := bit_or q n (by omega) HD.out.mo (by omega)
        have p0 := HP4.out.c0
        have p1 := HP4.out.c1
        have u0 := HU4.out.c0
        have u1 := HU4.out.c1
        have f0 := HP4.out.fz 0
        have f1 := HP4.out.fz 1
        have pl := HP4.out.lt
        have ul' := HU4.out.lt
        clear hc hlr hhr hd hc1 HD HT hle
        have hmin : min n 64 = n := by omega
        have ew : IntKind.u64.wrap ((2 : Int) ^ n) = (2 : Int) ^ n := by
          have e : ((2 ^ n : Nat) : Int) = (2 : Int) ^ n := by simp
          rw [← e, IntKind.wrap_u64, show ((2 ^ n : Nat) : Int) % 18446744073709551616 = ((2 ^ n % 18446744073709551616 : Nat) : Int) from rfl, Nat.mod_eq_of_lt hpn]
        obtain ⟨qn, hqn⟩ : ∃ qn : Nat, qn = q + 2 ^ n := ⟨_, rfl⟩
        rw [← hqn] at eor HD2 hq2
        have eor2 : bits .or .u64 (q : Int) ((2 : Int) ^ n) = (qn : Int) := by
          have e : ((2 ^ n : Nat) : Int) = (2 : Int) ^ n := by simp
          rw [← e]
          exact eor
        clear hqn eor
        have HM2 : Side (0 < n → nat2 h2 l2 * 2 ^ (n - 1) < 2 ^ 128) := ⟨fun hn => by
          have h := Nat.mul_le_mul_left (nat2 h2 l2) (Nat.pow_le_pow_right (show 0 < 2 by decide) (show n - 1 ≤ n by omega))
          rw [← HU.out] at h
          omega⟩
        go_wp2
        go_roundw
        case rel => exact ⟨qn, n, hr, lr, (n : Int) - 1, rfl, by first | rfl | simp, by omega, by omega, HR.out.2.1, HR.out.2.2, HD2, HM2, ⟨(HP4.out.set0 hr).set1 lr⟩, ⟨(HQ4.out.far _ _ _ (by omega)).far _ _ _ (by omega)⟩, ⟨(HB4.out.setCell (Nat.le_refl _) _).setCell (Nat.le_refl _) _⟩⟩
        case measure => simp [intOf]; try omega
      · have hx : nat2 h l < nat2 h2 l2 * 2 ^ n := by have := of_decide_eq_true HT.out.symm; have := HE9.out; have := HU.out; omega
        have HD2 := Side.mk (HD.out.same hx)
        have HM2 : Side (0 < n → nat2 h2 l2 * 2 ^ (n - 1) < 2 ^ 128) := ⟨fun hn => by
          have h := Nat.mul_le_mul_left (nat2 h2 l2) (Nat.pow_le_pow_right (show 0 < 2 by decide) (show n - 1 ≤ n by omega))
          rw [← HU.out] at h
          omega⟩
        clear HT hx HD HM HU HE9
        go_wp2
        go_roundw
        case rel => exact ⟨q, n, h, l, (n : Int) - 1, rfl, by first | rfl | simp, by omega, by omega, hh, hl, HD2, HM2, HP4, HQ4, ⟨HB4.out.trans (by (repeat (with_reducible first | exact Below.refl _ _ | apply below_drewN | apply below_drew | apply below_alloc)))⟩⟩
        case measure => simp [intOf]; try omega
end Go.Proofs.Ytkgafogkeaaniaa.DvG
