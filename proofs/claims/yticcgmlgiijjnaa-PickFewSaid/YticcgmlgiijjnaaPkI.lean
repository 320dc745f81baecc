/- The law PickFew, walked by hand. No condition. -/
import Derived.Test.YticcgmlgiijjnaaPkH
set_option linter.unusedVariables false
set_option linter.unusedSimpArgs false
namespace Go.Proofs.Yticcgmlgiijjnaa.PkI
open Go.RowKit Go.Proofs.Yticcgmlgiijjnaa.Kit Go.Proofs.Yticcgmlgiijjnaa.Kit2 Go.Proofs.Yticcgmlgiijjnaa.Kit3 Go.Proofs.Yticcgmlgiijjnaa.Kit4 Go.Proofs.Yticcgmlgiijjnaa.Kit5 HpPlain Go.Maps EvPlain Go.Proofs.Yticcgmlgiijjnaa.HpA Go.Proofs.Yticcgmlgiijjnaa.HpB Go.Proofs.Yticcgmlgiijjnaa.HpK Go.Proofs.Yticcgmlgiijjnaa.Win Go.Proofs.Yticcgmlgiijjnaa.Rank Go.Proofs.Yticcgmlgiijjnaa.Cmp Go.Proofs.Yticcgmlgiijjnaa.PkPlain Go.Proofs.Yticcgmlgiijjnaa.PkA Go.Proofs.Yticcgmlgiijjnaa.PkB Go.Proofs.Yticcgmlgiijjnaa.PkC Go.Proofs.Yticcgmlgiijjnaa.PkD Go.Proofs.Yticcgmlgiijjnaa.PkF Go.Proofs.Yticcgmlgiijjnaa.PkH
theorem Rows_n (a : Option Addr) (cap n : Nat) (ts : List Tk) (w : World) (hrow : QRow w a ts) (hn : ts.length = n) (hl : n ≤ 1000) :
    Calls Try.prog 16 #[.slice a n cap] w fun r w' => ∃ v, r = .returned v ∧ TRow w' w.heap.size v ts ∧ Below w.heap.size w w' := by
  subst hn
  exact Rows_at a cap ts w hrow hl
set_option maxHeartbeats 8000000 in
set_option maxRecDepth 100000 in
theorem walk (a : Option Addr) (len cap : Nat) (V : Nat → Nat → Value) (c n0 n1 : Int) (w : World) (hrow : InRow TK w a len V) (hlen : len ≤ maxLen) (wc : (Lit.int .u8 c).wf = true) (w0 : (Lit.int .u8 n0).wf = true) (w1 : (Lit.int .u8 n1).wf = true) :
    Calls Try.prog 4 #[.slice a len cap, .int .u8 c, .agg #[.int .u8 n0, .int .u8 n1]] w fun r w' => r = .returned (.bool true) ∧ Below w.heap.size w w' := by
  have hc := isu8 wc
  have hn0 := isu8 w0
  have hn1 := isu8 w1
  have hl64 : (len : Int) ≤ 9223372036854775807 := by unfold maxLen at hlen; omega
  have HQ := Side.mk (qrow hrow)
  have HWF := Side.mk (wfs hrow)
  clear hrow hlen wc w0 w1
  by_cases hbig : 40 < len
  · have hb3 : (40 : Int) < len := by omega
    clear hbig
    go_enter Try.func4, Try.ntmps4
    go_wp2_with fail
    refine (awake_at _).mono ?_
    rintro e w1 ⟨rfl, hb⟩
    have HB := Side.mk (below_then ((Below.refl _ w).alloc (Nat.le_refl _) _) (by simp) hb)
    clear hb
    go_wp2
    go_ret
    exact ⟨rfl, HB.out⟩
  have hb3 : ¬ (40 : Int) < len := by omega
  obtain ⟨ts, hts⟩ : ∃ ts, ts = tks V len := ⟨_, rfl⟩
  have hln : ts.length = len := by rw [hts, tks_len]
  have HW : Side (∀ i, i < len → Wf (PkB.at_ ts i)) := ⟨fun i hi => by rw [hts, tks_at V len i hi]; exact HWF.out i hi⟩
  rw [← hts] at HQ
  have HLN := Side.mk hln
  clear hts hln HWF
  go_enter Try.func4, Try.ntmps4
  go_wp2_with fail
  refine (awake_at _).mono ?_
  rintro e w1 ⟨rfl, hb⟩
  have HB : Side (Below w.heap.size w w1) := Side.mk (below_then ((Below.refl _ w).alloc (Nat.le_refl _) _) (by simp) hb)
  have HBX : Side (Val w1 43 w.heap.size [.int .u8 n0, .int .u8 n1]) := ⟨⟨_, rfl, (hb.block w.heap.size (by simp)).trans (heap_alloc_new w _)⟩⟩
  clear hb
  go_wp2_with fail
  go_loopw [7] (fun v7 wr => ∃ i : Nat, v7 = .int .i64 (i : Int) ∧ i ≤ len ∧ Side (∀ j, j < i → (-1099511627776 ≤ (PkB.at_ ts j).r ∧ (PkB.at_ ts j).r ≤ 1099511627776) ∧ fresh (PkB.at_ ts) j = true) ∧ Side (Below w.heap.size w wr ∧ Val wr 43 w.heap.size [.int .u8 n0, .int .u8 n1])) (fun v7 _ => (len - intOf v7).toNat)
  case atStart => exact ⟨0, rfl, Nat.zero_le _, ⟨fun j hj => absurd hj (by omega)⟩, ⟨HB.out, HBX.out⟩⟩
  case round =>
    clear HB HBX
    obtain ⟨i, rfl, hi, HP, HB⟩ := hrel
    have hi0 : (0 : Int) ≤ i := by omega
    obtain ⟨wp, hwp⟩ : ∃ wp : World, wp = wr := ⟨_, rfl⟩
    rw [← hwp] at HB ⊢
    clear hwp
    by_cases hlt : i < len
    · have hii : (i : Int) < len := by omega
      have hi1 : (i : Int) + 1 ≤ 9223372036854775807 := by omega
      obtain ⟨g, off, rfl, hgl, hcs⟩ := (HQ.out.below HB.out.1).get i (by rw [HLN.out]; exact hlt)
      obtain ⟨t, ht⟩ : ∃ t, t = PkB.at_ ts i := ⟨_, rfl⟩
      have HT := Side.mk ht
      rw [← ht] at hcs
      clear ht
      have u7 : wp.cell? ⟨g, off + i * 11 + 7, none⟩ = some (.int .i64 t.r) := hcs 7 _ rfl
      have u8 : wp.cell? ⟨g, off + i * 11 + 8, none⟩ = some (.int .i64 t.g) := hcs 8 _ rfl
      clear hcs
      by_cases h1 : t.r < -1099511627776
      · go_wp2
        go_ret
        exact ⟨rfl, HB.out.1⟩
      by_cases h2 : 1099511627776 < t.r
      · go_wp2
        go_ret
        exact ⟨rfl, HB.out.1⟩
      by_cases h3 : 1099511627776 < t.g
      · go_wp2
        go_ret
        exact ⟨rfl, HB.out.1⟩
      go_wp2_with fail
      clear u7 u8 hgl
      go_loopw [8] (fun v8 wr2 => ∃ k : Nat, v8 = .int .i64 (k : Int) ∧ k ≤ i ∧ Side (∀ j, j < k → (PkB.at_ ts j).id ≠ t.id) ∧ Side (Below w.heap.size w wr2 ∧ Val wr2 43 w.heap.size [.int .u8 n0, .int .u8 n1])) (fun v8 _ => (i - intOf v8).toNat)
      case atStart => exact ⟨0, rfl, Nat.zero_le _, ⟨fun j hj => absurd hj (by omega)⟩, HB⟩
      case round =>
        clear HB
        obtain ⟨k, rfl, hk, HN, HB⟩ := hrel
        have hk0 : (0 : Int) ≤ k := by omega
        obtain ⟨wq, hwq⟩ : ∃ wq : World, wq = wr := ⟨_, rfl⟩
        rw [← hwq] at HB ⊢
        clear hwq
        by_cases hklt : k < i
        · have hkk : (k : Int) < i := by omega
          have hkl : (k : Int) < len := by omega
          have hk1 : (k : Int) + 1 ≤ 9223372036854775807 := by omega
          obtain ⟨g', off', hgo, hgl, hcs⟩ := (HQ.out.below HB.out.1).get i (by rw [HLN.out]; exact hlt)
          obtain ⟨rfl, rfl⟩ : g = g' ∧ off = off' := by simpa using hgo
          obtain ⟨g', off', hgo2, -, hcs2⟩ := (HQ.out.below HB.out.1).get k (by rw [HLN.out]; omega)
          obtain ⟨rfl, rfl⟩ : g = g' ∧ off = off' := by simpa using hgo2
          rw [← HT.out] at hcs
          obtain ⟨u, hu⟩ : ∃ u, u = PkB.at_ ts k := ⟨_, rfl⟩
          have HU := Side.mk hu
          rw [← hu] at hcs2
          clear hu
          have x0 : wq.cell? ⟨g, off + i * 11, none⟩ = some (.int .i64 t.id) := hcs 0 _ rfl
          have y0 : wq.cell? ⟨g, off + k * 11, none⟩ = some (.int .i64 u.id) := hcs2 0 _ rfl
          clear hcs hcs2 hgo hgo2
          by_cases he : t.id = u.id
          · have he2 : (t.id == u.id) = true := by simp [he]
            have he3 : decide (t.id = u.id) = true := decide_eq_true he
            go_upto_region 13 with (fail)
            go_quiet (fail)
            go_wp2
            go_ret
            exact ⟨rfl, (by (repeat (with_reducible first | exact HB.out.1 | apply below_drewN | apply below_drew)))⟩
          · have he2 : (t.id == u.id) = false := by simp [he]
            have he3 : decide (t.id = u.id) = false := decide_eq_false he
            have HN2 : Side (∀ j, j < k + 1 → (PkB.at_ ts j).id ≠ t.id) := ⟨fun j hj => by
              by_cases e : j = k
              · rw [e, ← HU.out]; exact fun e => he e.symm
              · exact HN.out j (by omega)⟩
            go_upto_region 13 with (fail)
            go_quiet (fail)
            clear x0 y0 HU HN he he2 he3 hgl
            go_wp2
            go_roundw
            case rel => exact ⟨k + 1, by simp, by omega, HN2, ⟨(by (repeat (with_reducible first | exact HB.out.1 | apply below_drewN | apply below_drew))), HB.out.2⟩⟩
            case measure => simp [intOf]; omega
        · have hkk : ¬ (k : Int) < i := by omega
          obtain rfl : k = i := by omega
          have HP2 : Side (∀ j, j < k + 1 → (-1099511627776 ≤ (PkB.at_ ts j).r ∧ (PkB.at_ ts j).r ≤ 1099511627776) ∧ fresh (PkB.at_ ts) j = true) := ⟨fun j hj => by
            by_cases e : j = k
            · rw [e]
              refine ⟨by rw [← HT.out]; omega, fresh_of _ _ fun q hq => ?_⟩
              rw [← HT.out]; exact HN.out q hq
            · exact HP.out j (by omega)⟩
          clear HP HN HT
          go_wp2
          go_roundw
          case rel => exact ⟨k + 1, by simp, by omega, HP2, HB⟩
          case measure => simp [intOf]; omega
    · have hii : ¬ (i : Int) < len := by omega
      obtain rfl : i = len := by omega
      clear hlt hi
      have HFI : Side (∀ j, j < i → Fit (PkB.at_ ts j)) := ⟨fun j hj => (HW.out j hj).fit (HP.out j hj).1.1 (HP.out j hj).1.2⟩
      have HFR : Side (∀ j, j < i → fresh (PkB.at_ ts) j = true) := ⟨fun j hj => (HP.out j hj).2⟩
      clear HP
      have hwc : IntKind.i64.wrap c = c := Go.IntWalk.i64_in c (by omega)
      have hwn : IntKind.i64.wrap n0 = n0 := Go.IntWalk.i64_in n0 (by omega)
      have k0 : wp.cell? ⟨w.heap.size, 0, none⟩ = some (.int .u8 n0) := HB.out.2.cell 0 _ rfl
      have k1 : wp.cell? ⟨w.heap.size, 1, none⟩ = some (.int .u8 n1) := HB.out.2.cell 1 _ rfl
      have hnl := HB.out.2.lt
      go_upto_region 15 with (fail)
      go_quiet (fail)
      clear hwc k1
      have HB2 : Side (Below w.heap.size w (wp.drewN nq) ∧ Val (wp.drewN nq) 43 w.heap.size [.int .u8 n0, .int .u8 n1]) := ⟨below_drewN HB.out.1 nq, HB.out.2⟩
      have k0 : (wp.drewN nq).cell? ⟨w.heap.size, 0, none⟩ = some (.int .u8 n0) := k0
      have hnl : w.heap.size < (wp.drewN nq).heap.size := hnl
      clear HB
      generalize wp.drewN nq = w2 at *
      generalize (bits BinOp.and IntKind.u8 n1 1 == 1) = y at *
      have hK0 : 0 ≤ n0 % 6 ∧ n0 % 6 ≤ 5 := by omega
      go_wp2_with fail
      refine (Rows_n _ _ _ ts _ (HQ.out.below HB2.out.1) HLN.out (by omega)).mono ?_
      rintro e w3 ⟨v3, rfl, hr3, hb3⟩
      have HB3 : Side (Below w.heap.size w w3 ∧ Val w3 43 w.heap.size [.int .u8 n0, .int .u8 n1]) := ⟨below_then HB2.out.1 HB2.out.1.size hb3, HB2.out.2.below hb3⟩
      have HR3 := Side.mk hr3
      obtain ⟨a3, c3, rfl, -, -⟩ := hr3.shape E11
      clear hr3 hb3 HB2 k0 hnl
      go_wp2_with fail
      refine (Best_at _ _ _ ts c 100 y _ (GRow.lower HR3.out (Nat.zero_le _)) (by rw [HLN.out]; omega) (by rw [HLN.out]; exact HFI.out) (by rw [HLN.out]; exact fun j hj => (HW.out j hj).id)).mono ?_
      rintro e w4 ⟨v4, rfl, hr4, hb4⟩
      have HB4 : Side (Below w.heap.size w w4 ∧ Val w4 43 w.heap.size [.int .u8 n0, .int .u8 n1]) := ⟨below_then HB3.out.1 HB3.out.1.size hb4, HB3.out.2.below hb4⟩
      have HR4 := Side.mk (GRow.below HR3.out hb4)
      have HI4 := Side.mk hr4
      clear hr4 hb4 HB3 HR3
      have k0 : w4.cell? ⟨w.heap.size, 0, none⟩ = some (.int .u8 n0) := HB4.out.2.cell 0 _ rfl
      have hnl := HB4.out.2.lt
      go_wp2_with fail
      refine (Best_at _ _ _ ts c (n0 % 6) y _ (GRow.lower HR4.out (Nat.zero_le _)) (by rw [HLN.out]; omega) (by rw [HLN.out]; exact HFI.out) (by rw [HLN.out]; exact fun j hj => (HW.out j hj).id)).mono ?_
      rintro e w5 ⟨v5, rfl, hr5, hb5⟩
      obtain ⟨A, hA⟩ : ∃ A, A = ids (PkB.at_ ts) ts.length c (100 : Int).toNat y := ⟨_, rfl⟩
      obtain ⟨S, hS⟩ : ∃ S, S = ids (PkB.at_ ts) ts.length c (n0 % 6).toNat y := ⟨_, rfl⟩
      have hST : S = A.take (n0 % 6).toNat := by rw [hS, hA]; exact ids_take _ _ _ _ _ _ (by omega)
      have hAL : A.length = cnt (PkB.at_ ts) c y i := by
        rw [hA, ids_cnt _ _ _ _ _ (by rw [HLN.out]; exact HFR.out), HLN.out]
        have := cnt_le (PkB.at_ ts) c y i
        rw [show (100 : Int).toNat = 100 from rfl]
        omega
      have hSL : (S.length : Int) = min (cnt (PkB.at_ ts) c y i : Int) (n0 % 6) := by
        rw [hST, List.length_take, hAL]
        omega
      rw [← hA] at HI4
      rw [← hS] at hr5
      have HB5 : Side (Below w.heap.size w w5 ∧ Val w5 43 w.heap.size [.int .u8 n0, .int .u8 n1] ∧ IRow w5 w3.heap.size v4 A ∧ IRow w5 w4.heap.size v5 S) := ⟨below_then HB4.out.1 HB4.out.1.size hb5, HB4.out.2.below hb5, GRow.below HI4.out hb5, hr5⟩
      have HST := Side.mk hST
      have HAL := Side.mk hAL
      have HSL := Side.mk hSL
      clear hr5 hb5 HB4 HR4 HI4 hA hS hST hAL hSL k0 hnl
      obtain ⟨a4, c4, rfl, -, -⟩ := HB5.out.2.2.1.shape E1
      obtain ⟨a5, c5, rfl, -, -⟩ := HB5.out.2.2.2.shape E1
      go_wp2_with fail
      go_loopw [14, 15] (fun v14 v15 wr => ∃ j : Nat, v15 = .int .i64 (j : Int) ∧ j ≤ i ∧ v14 = .int .i64 (cnt (PkB.at_ ts) c y j) ∧ Side (Below w.heap.size w wr ∧ Val wr 43 w.heap.size [.int .u8 n0, .int .u8 n1] ∧ IRow wr w3.heap.size (.slice a4 A.length c4) A ∧ IRow wr w4.heap.size (.slice a5 S.length c5) S)) (fun _ v15 _ => (i - intOf v15).toNat)
      case atStart => exact ⟨0, rfl, Nat.zero_le _, rfl, HB5⟩
      case round =>
        clear HB5
        obtain ⟨j, rfl, hj, rfl, HB⟩ := hrel
        have hj0 : (0 : Int) ≤ j := by omega
        obtain ⟨wq, hwq⟩ : ∃ wq : World, wq = wr := ⟨_, rfl⟩
        rw [← hwq] at HB ⊢
        clear hwq
        by_cases hlt : j < i
        · have hjj : (j : Int) < i := by omega
          have hj1 : (j : Int) + 1 ≤ 9223372036854775807 := by omega
          have hcl := cnt_le (PkB.at_ ts) c y j
          have hc1 : (cnt (PkB.at_ ts) c y j : Int) + 1 ≤ 9223372036854775807 := by omega
          have hc0 : (0 : Int) ≤ (cnt (PkB.at_ ts) c y j : Int) := by omega
          have HCS := Side.mk (cnt_succ (PkB.at_ ts) c y j)
          obtain ⟨g, off, rfl, hgl, hcs⟩ := (HQ.out.below HB.out.1).get j (by rw [HLN.out]; exact hlt)
          have CAN := fun w => Side.mk (RCan_at (PkB.at_ ts j) (HFI.out j hlt) c (by omega) (by omega) y w)
          obtain ⟨t, ht⟩ : ∃ t, t = PkB.at_ ts j := ⟨_, rfl⟩
          rw [← ht] at hcs CAN HCS
          clear ht
          generalize cnt (PkB.at_ ts) c y j = q at *
          have u0 : wq.cell? ⟨g, off + j * 11, none⟩ = some (.int .i64 t.id) := hcs 0 _ rfl
          have u1 : wq.cell? ⟨g, off + j * 11 + 1, none⟩ = some (.int .i64 t.e) := hcs 1 _ rfl
          have u2 : wq.cell? ⟨g, off + j * 11 + 2, none⟩ = some (.int .i64 t.p) := hcs 2 _ rfl
          have u3 : wq.cell? ⟨g, off + j * 11 + 3, none⟩ = some (.bool t.s) := hcs 3 _ rfl
          have u4 : wq.cell? ⟨g, off + j * 11 + 4, none⟩ = some (.bool t.l) := hcs 4 _ rfl
          have u5 : wq.cell? ⟨g, off + j * 11 + 5, none⟩ = some (.bool t.wt) := hcs 5 _ rfl
          have u6 : wq.cell? ⟨g, off + j * 11 + 6, none⟩ = some (.bool t.a) := hcs 6 _ rfl
          have u7 : wq.cell? ⟨g, off + j * 11 + 7, none⟩ = some (.int .i64 t.r) := hcs 7 _ rfl
          have u8 : wq.cell? ⟨g, off + j * 11 + 8, none⟩ = some (.int .i64 t.g) := hcs 8 _ rfl
          have u9 : wq.cell? ⟨g, off + j * 11 + 9, none⟩ = some (.bool t.d) := hcs 9 _ rfl
          have u10 : wq.cell? ⟨g, off + j * 11 + 10, none⟩ = some (.int .i64 t.c) := hcs 10 _ rfl
          clear hcs
          go_wp2_with fail
          refine (CAN _).out.mono ?_
          rintro e w6 ⟨rfl, hb6⟩
          have HB6 : Side (Below w.heap.size w w6 ∧ Val w6 43 w.heap.size [.int .u8 n0, .int .u8 n1] ∧ IRow w6 w3.heap.size (.slice a4 A.length c4) A ∧ IRow w6 w4.heap.size (.slice a5 S.length c5) S) := ⟨below_then HB.out.1 HB.out.1.size hb6, HB.out.2.1.below hb6, GRow.below HB.out.2.2.1 hb6, GRow.below HB.out.2.2.2 hb6⟩
          clear hb6 HB CAN u0 u1 u2 u3 u4 u5 u6 u7 u8 u9 u10 hgl
          have hcsv := HCS.out
          clear HCS
          cases hcan : can t c y
          · rw [hcan, if_neg (by decide)] at hcsv
            have HC := Side.mk hcsv
            clear hcsv hcan
            go_wp2
            go_roundw
            case rel => exact ⟨j + 1, by simp, by omega, by rw [HC.out], HB6⟩
            case measure => simp [intOf]; omega
          · rw [hcan, if_pos rfl] at hcsv
            have HC := Side.mk hcsv
            clear hcsv hcan
            go_wp2
            go_roundw
            case rel => exact ⟨j + 1, by simp, by omega, by rw [HC.out]; simp, HB6⟩
            case measure => simp [intOf]; omega
        · have hjj : ¬ (j : Int) < i := by omega
          obtain rfl : j = i := by omega
          have hAL := HAL.out
          have hSL := HSL.out
          have hcl := cnt_le (PkB.at_ ts) c y j
          generalize cnt (PkB.at_ ts) c y j = q at *
          subst hAL
          have k0 : wq.cell? ⟨w.heap.size, 0, none⟩ = some (.int .u8 n0) := HB.out.2.1.cell 0 _ rfl
          have hnl := HB.out.2.1.lt
          clear hlt hj
          go_upto_region 25 with (fail)
          go_cut [115] (fun v we => v = .bool false ∧ we = wq)
          case first =>
            clear HB HST HAL HSL HFI HFR HQ HLN HW
            go_wp2
            all_goals (go_meet; case rel => exact ⟨by simp; try omega, rfl⟩)
          case rest =>
          obtain ⟨rfl, hwq⟩ := hcut
          rw [← hwq] at HB
          have hSb : S.length ≤ 5 := by omega
          clear hwq k0 hnl HAL HSL hSL hcl
          go_step
          go_wp2_with fail
          go_loopw [16] (fun v16 wr => ∃ k : Nat, v16 = .int .i64 (k : Int) ∧ k ≤ S.length ∧ Side (Below w.heap.size w wr ∧ Val wr 43 w.heap.size [.int .u8 n0, .int .u8 n1] ∧ IRow wr w3.heap.size (.slice a4 A.length c4) A ∧ IRow wr w4.heap.size (.slice a5 S.length c5) S)) (fun v16 _ => (S.length - intOf v16).toNat)
          case atStart => exact ⟨0, rfl, Nat.zero_le _, HB⟩
          case round =>
            clear HB
            obtain ⟨k, rfl, hk, HB⟩ := hrel
            have hk0 : (0 : Int) ≤ k := by omega
            obtain ⟨wq, hwq⟩ : ∃ wq : World, wq = wr := ⟨_, rfl⟩
            rw [← hwq] at HB ⊢
            clear hwq
            by_cases hklt : k < S.length
            · have hkk : (k : Int) < S.length := by omega
              have hSA : S.length ≤ A.length := by rw [HST.out, List.length_take]; omega
              have hkA : (k : Int) < A.length := by omega
              have hk1 : (k : Int) + 1 ≤ 9223372036854775807 := by omega
              obtain ⟨x, hx⟩ : ∃ x, S[k]? = some x := ⟨_, List.getElem?_eq_getElem hklt⟩
              have hxA : A[k]? = some x := by
                have h1 := hx
                rw [HST.out, List.getElem?_take] at h1
                split at h1
                · exact h1
                · cases h1
              obtain ⟨g5, rfl, hg5, -, x5⟩ := IRow.get HB.out.2.2.2 k x hx
              obtain ⟨g4, rfl, hg4, -, x4⟩ := IRow.get HB.out.2.2.1 k x hxA
              clear hx hxA
              go_upto_region 30 with (fail)
              go_quiet (fail)
              clear x5 x4 hg5 hg4
              go_wp2
              go_roundw
              case rel => exact ⟨k + 1, by simp, by omega, ⟨(by (repeat (with_reducible first | exact HB.out.1 | apply below_drewN | apply below_drew))), HB.out.2⟩⟩
              case measure => simp [intOf]; omega
            · have hkk : ¬ (k : Int) < S.length := by omega
              go_wp2
              go_ret
              exact ⟨rfl, HB.out.1⟩
end Go.Proofs.Yticcgmlgiijjnaa.PkI
