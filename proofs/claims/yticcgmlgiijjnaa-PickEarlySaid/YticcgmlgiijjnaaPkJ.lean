/- The law PickEarly, walked by hand. No condition. -/
import Derived.Test.YticcgmlgiijjnaaPkH
set_option linter.unusedVariables false
set_option linter.unusedSimpArgs false
namespace Go.Proofs.Yticcgmlgiijjnaa.PkJ
open Go.RowKit Go.Proofs.Yticcgmlgiijjnaa.Kit Go.Proofs.Yticcgmlgiijjnaa.Kit2 Go.Proofs.Yticcgmlgiijjnaa.Kit3 Go.Proofs.Yticcgmlgiijjnaa.Kit4 Go.Proofs.Yticcgmlgiijjnaa.Kit5 HpPlain Go.Maps EvPlain Go.Proofs.Yticcgmlgiijjnaa.HpA Go.Proofs.Yticcgmlgiijjnaa.HpB Go.Proofs.Yticcgmlgiijjnaa.HpK Go.Proofs.Yticcgmlgiijjnaa.Win Go.Proofs.Yticcgmlgiijjnaa.Rank Go.Proofs.Yticcgmlgiijjnaa.Cmp Go.Proofs.Yticcgmlgiijjnaa.PkPlain Go.Proofs.Yticcgmlgiijjnaa.PkA Go.Proofs.Yticcgmlgiijjnaa.PkB Go.Proofs.Yticcgmlgiijjnaa.PkC Go.Proofs.Yticcgmlgiijjnaa.PkD Go.Proofs.Yticcgmlgiijjnaa.PkF Go.Proofs.Yticcgmlgiijjnaa.PkH
theorem can_fine (t : Tk) (c : Int) : can t c true = (t.a && (decide (0 ≤ t.g) && (decide (t.g < t.e) && (decide (t.r ≤ c) && (decide (t.e ≤ t.p) && decide (t.p ≤ 1048575)))))) := by
  unfold can
  rw [Bool.eq_iff_iff]
  simp only [Bool.and_eq_true, decide_eq_true_eq, Bool.true_or, and_true]
  constructor
  · rintro ⟨⟨h1, h2, h3⟩, h4⟩
    exact ⟨h1, by have := h3.i1; omega, h2, h4, h3.ep, h3.pm⟩
  · rintro ⟨h1, h2, h3, h4, h5, h6⟩
    exact ⟨⟨h1, h3, ⟨by omega, h5, h6, by omega, by omega⟩⟩, h4⟩
theorem can_mono (t : Tk) (c : Int) (h : can t c false = true) : can t c true = true := by
  unfold can at *
  simp only [Bool.and_eq_true, Bool.true_or, and_true] at *
  exact ⟨h.1, h.2.1⟩
set_option maxHeartbeats 16000000 in
set_option maxRecDepth 100000 in
theorem walk (a : Option Addr) (len cap : Nat) (V : Nat → Nat → Value) (c : Int) (w : World) (hrow : InRow TK w a len V) (hlen : len ≤ maxLen) (wc : (Lit.int .u8 c).wf = true) :
    Calls Try.prog 6 #[.slice a len cap, .int .u8 c] w fun r w' => r = .returned (.bool true) ∧ Below w.heap.size w w' := by
  have hc := isu8 wc
  have hl64 : (len : Int) ≤ 9223372036854775807 := by unfold maxLen at hlen; omega
  have HQ := Side.mk (qrow hrow)
  have HWF := Side.mk (wfs hrow)
  clear hrow hlen wc
  by_cases hbig : 60 < len
  · have hb3 : (60 : Int) < len := by omega
    clear hbig
    go_enter Try.func6, Try.ntmps6
    go_wp2_with fail
    refine (awake_at _).mono ?_
    rintro e w1 ⟨rfl, hb⟩
    have HB := Side.mk hb
    clear hb
    go_wp2
    go_ret
    exact ⟨rfl, HB.out⟩
  have hb3 : ¬ (60 : Int) < len := by omega
  obtain ⟨ts, hts⟩ : ∃ ts, ts = tks V len := ⟨_, rfl⟩
  have hln : ts.length = len := by rw [hts, tks_len]
  have HW : Side (∀ i, i < len → Wf (PkB.at_ ts i)) := ⟨fun i hi => by rw [hts, tks_at V len i hi]; exact HWF.out i hi⟩
  rw [← hts] at HQ
  have HLN := Side.mk hln
  clear hts hln HWF
  have hwc : IntKind.i64.wrap c = c := Go.IntWalk.i64_in c (by omega)
  go_enter Try.func6, Try.ntmps6
  go_wp2_with fail
  refine (awake_at _).mono ?_
  rintro e w1 ⟨rfl, hb⟩
  have HB := Side.mk hb
  clear hb
  go_wp2_with fail
  clear hwc
  go_loopw [6] (fun v6 wr => ∃ i : Nat, v6 = .int .i64 (i : Int) ∧ i ≤ len ∧ Side (Below w.heap.size w wr)) (fun v6 _ => (len - intOf v6).toNat)
  case atStart => exact ⟨0, rfl, Nat.zero_le _, HB⟩
  case round =>
    clear HB
    obtain ⟨i, rfl, hi, HB⟩ := hrel
    have hi0 : (0 : Int) ≤ i := by omega
    obtain ⟨wp, hwp⟩ : ∃ wp : World, wp = wr := ⟨_, rfl⟩
    rw [← hwp] at HB ⊢
    clear hwp
    by_cases hlt : i < len
    · have hii : (i : Int) < len := by omega
      have hi1 : (i : Int) + 1 ≤ 9223372036854775807 := by omega
      have HQ1 := Side.mk (HQ.out.below HB.out)
      obtain ⟨g, off, rfl, hgl, hcs⟩ := HQ1.out.get i (by rw [HLN.out]; exact hlt)
      have HWt := Side.mk (HW.out i hlt)
      obtain ⟨t, ht⟩ : ∃ t, t = PkB.at_ ts i := ⟨_, rfl⟩
      have HT := Side.mk ht
      rw [← ht] at hcs HWt
      clear ht
      have u0 : wp.cell? ⟨g, off + i * 11, none⟩ = some (.int .i64 t.id) := hcs 0 _ rfl
      have u1 : wp.cell? ⟨g, off + i * 11 + 1, none⟩ = some (.int .i64 t.e) := hcs 1 _ rfl
      have u2 : wp.cell? ⟨g, off + i * 11 + 2, none⟩ = some (.int .i64 t.p) := hcs 2 _ rfl
      have u3 : wp.cell? ⟨g, off + i * 11 + 3, none⟩ = some (.bool t.s) := hcs 3 _ rfl
      have u4 : wp.cell? ⟨g, off + i * 11 + 4, none⟩ = some (.bool t.l) := hcs 4 _ rfl
      have u5 : wp.cell? ⟨g, off + i * 11 + 5, none⟩ = some (.bool t.wt) := hcs 5 _ rfl
      have u6 : wp.cell? ⟨g, off + i * 11 + 6, none⟩ = some (.bool t.a) := hcs 6 _ rfl
      have u7 : wp.cell? ⟨g, off + i * 11 + 7, none⟩ = some (.int .i64 t.r) := hcs 7 _ rfl
      have u8 : wp.cell? ⟨g, off + i * 11 + 8, none⟩ = some (.int .i64 t.g) := hcs 8 _ rfl
      have u9 : wp.cell? ⟨g, off + i * 11 + 9, none⟩ = some (.bool t.d) := hcs 9 _ rfl
      have u10 : wp.cell? ⟨g, off + i * 11 + 10, none⟩ = some (.int .i64 t.c) := hcs 10 _ rfl
      clear hcs
      by_cases h1 : t.r < -1099511627776
      · go_wp2
        go_ret
        exact ⟨rfl, HB.out⟩
      by_cases h2 : 1099511627776 < t.r
      · go_wp2
        go_ret
        exact ⟨rfl, HB.out⟩
      by_cases h3 : 1099511627776 < t.g
      · go_wp2
        go_ret
        exact ⟨rfl, HB.out⟩
      have HF := Side.mk (HWt.out.fit (by omega) (by omega))
      have MD := fun w => Side.mk (TMade_at t w)
      have C0 := fun w => Side.mk (Can_at t HF.out c false w)
      have C1 := fun w => Side.mk (Can_at t HF.out c true w)
      have HMN := Side.mk (can_mono t c)
      go_wp2_with fail
      refine (MD _).out.mono ?_
      rintro e w2 ⟨rfl, hb2⟩
      have HB2 := Side.mk (below_then HB.out HB.out.size hb2)
      have HQ2 := Side.mk (HQ1.out.below hb2)
      clear hb2 HB HQ1 MD u0 u1 u2 u3 u4 u5 u6 u7 u8 u9 u10 hgl h1 h2 h3
      go_upto_region 12 with (fail)
      obtain ⟨p, hp⟩ : ∃ p, p = w2.heap.size := ⟨_, rfl⟩
      obtain ⟨W3, hW3⟩ : ∃ W3, W3 = w2.alloc (.cells #[.int .i64 t.id, .int .i64 t.e, .int .i64 t.p, .bool t.s, .bool t.l, .bool t.wt, .bool t.a, .int .i64 t.r, .int .i64 t.g, .bool t.d, .int .i64 t.c] 27) := ⟨_, rfl⟩
      rw [← hW3, ← hp]
      have hb3' : Below w2.heap.size w2 W3 := by rw [hW3]; exact (Below.refl _ _).alloc (Nat.le_refl _) _
      have HB3 := Side.mk (below_then HB2.out HB2.out.size hb3')
      have HQ3 := Side.mk (HQ2.out.below hb3')
      have V3 : Side (Val W3 27 p (tcl t)) := ⟨⟨_, rfl, by rw [hW3, hp]; exact heap_alloc_new w2 _⟩⟩
      clear hW3 hp hb3' HB2 HQ2
      obtain ⟨fine, hfn⟩ : ∃ fine, fine = can t c true := ⟨_, rfl⟩
      have HFN := Side.mk hfn
      rw [← hfn] at C1 HMN
      clear hfn
      go_cut [57] (fun v we => v = .bool false ∧ Side (Below W3.heap.size W3 we))
      case first =>
        have hpl := V3.out.lt
        have c0 : W3.cell? ⟨p, 0, none⟩ = some (.int .i64 t.id) := V3.out.cell 0 _ rfl
        have c1 : W3.cell? ⟨p, 1, none⟩ = some (.int .i64 t.e) := V3.out.cell 1 _ rfl
        have c2 : W3.cell? ⟨p, 2, none⟩ = some (.int .i64 t.p) := V3.out.cell 2 _ rfl
        have c3 : W3.cell? ⟨p, 3, none⟩ = some (.bool t.s) := V3.out.cell 3 _ rfl
        have c4 : W3.cell? ⟨p, 4, none⟩ = some (.bool t.l) := V3.out.cell 4 _ rfl
        have c5 : W3.cell? ⟨p, 5, none⟩ = some (.bool t.wt) := V3.out.cell 5 _ rfl
        have c6 : W3.cell? ⟨p, 6, none⟩ = some (.bool t.a) := V3.out.cell 6 _ rfl
        have c7 : W3.cell? ⟨p, 7, none⟩ = some (.int .i64 t.r) := V3.out.cell 7 _ rfl
        have c8 : W3.cell? ⟨p, 8, none⟩ = some (.int .i64 t.g) := V3.out.cell 8 _ rfl
        have c9 : W3.cell? ⟨p, 9, none⟩ = some (.bool t.d) := V3.out.cell 9 _ rfl
        have c10 : W3.cell? ⟨p, 10, none⟩ = some (.int .i64 t.c) := V3.out.cell 10 _ rfl
        go_wp2_with fail
        refine (C0 _).out.mono ?_
        rintro e w4 ⟨rfl, hb4⟩
        have HB4 := Side.mk hb4
        have V4 := Side.mk (V3.out.below hb4)
        have hpl := V4.out.lt
        clear hb4 c0 c1 c2 c3 c4 c5 c6 c7 c8 c9 c10
        cases hc0 : can t c false
        · go_wp2
          go_meet
          case rel => exact ⟨rfl, HB4⟩
        · obtain rfl := HMN.out hc0
          have c0 : w4.cell? ⟨p, 0, none⟩ = some (.int .i64 t.id) := V4.out.cell 0 _ rfl
          have c1 : w4.cell? ⟨p, 1, none⟩ = some (.int .i64 t.e) := V4.out.cell 1 _ rfl
          have c2 : w4.cell? ⟨p, 2, none⟩ = some (.int .i64 t.p) := V4.out.cell 2 _ rfl
          have c3 : w4.cell? ⟨p, 3, none⟩ = some (.bool t.s) := V4.out.cell 3 _ rfl
          have c4 : w4.cell? ⟨p, 4, none⟩ = some (.bool t.l) := V4.out.cell 4 _ rfl
          have c5 : w4.cell? ⟨p, 5, none⟩ = some (.bool t.wt) := V4.out.cell 5 _ rfl
          have c6 : w4.cell? ⟨p, 6, none⟩ = some (.bool t.a) := V4.out.cell 6 _ rfl
          have c7 : w4.cell? ⟨p, 7, none⟩ = some (.int .i64 t.r) := V4.out.cell 7 _ rfl
          have c8 : w4.cell? ⟨p, 8, none⟩ = some (.int .i64 t.g) := V4.out.cell 8 _ rfl
          have c9 : w4.cell? ⟨p, 9, none⟩ = some (.bool t.d) := V4.out.cell 9 _ rfl
          have c10 : w4.cell? ⟨p, 10, none⟩ = some (.int .i64 t.c) := V4.out.cell 10 _ rfl
          go_wp2_with fail
          refine (C1 _).out.mono ?_
          rintro e w5 ⟨rfl, hb5⟩
          have HB5 := Side.mk (below_then HB4.out HB4.out.size hb5)
          clear hb5
          go_wp2
          go_meet
          case rel => exact ⟨rfl, HB5⟩
      case rest =>
      obtain ⟨rfl, HC⟩ := hcut
      have HB4 := Side.mk (below_then HB3.out HB3.out.size HC.out)
      have HQ4 := Side.mk (HQ3.out.below HC.out)
      have V4 := Side.mk (V3.out.below HC.out)
      clear HC HB3 HQ3 V3 C0 HMN
      obtain ⟨wq, hwq⟩ : ∃ wq : World, wq = wc := ⟨_, rfl⟩
      rw [← hwq] at HB4 HQ4 V4 ⊢
      clear hwq
      go_step
      go_upto_region 14 with (fail)
      go_cut [8] (fun v we => v = .bool fine ∧ ∃ n, we = wq.drewN n)
      case first =>
        obtain ⟨g', off', hgo, hgl, hcs⟩ := HQ4.out.get i (by rw [HLN.out]; exact hlt)
        obtain ⟨rfl, rfl⟩ : g = g' ∧ off = off' := by simpa using hgo
        rw [← HT.out] at hcs
        have u0 : wq.cell? ⟨g, off + i * 11, none⟩ = some (.int .i64 t.id) := hcs 0 _ rfl
        have u1 : wq.cell? ⟨g, off + i * 11 + 1, none⟩ = some (.int .i64 t.e) := hcs 1 _ rfl
        have u2 : wq.cell? ⟨g, off + i * 11 + 2, none⟩ = some (.int .i64 t.p) := hcs 2 _ rfl
        have u3 : wq.cell? ⟨g, off + i * 11 + 3, none⟩ = some (.bool t.s) := hcs 3 _ rfl
        have u4 : wq.cell? ⟨g, off + i * 11 + 4, none⟩ = some (.bool t.l) := hcs 4 _ rfl
        have u5 : wq.cell? ⟨g, off + i * 11 + 5, none⟩ = some (.bool t.wt) := hcs 5 _ rfl
        have u6 : wq.cell? ⟨g, off + i * 11 + 6, none⟩ = some (.bool t.a) := hcs 6 _ rfl
        have u7 : wq.cell? ⟨g, off + i * 11 + 7, none⟩ = some (.int .i64 t.r) := hcs 7 _ rfl
        have u8 : wq.cell? ⟨g, off + i * 11 + 8, none⟩ = some (.int .i64 t.g) := hcs 8 _ rfl
        have u9 : wq.cell? ⟨g, off + i * 11 + 9, none⟩ = some (.bool t.d) := hcs 9 _ rfl
        have u10 : wq.cell? ⟨g, off + i * 11 + 10, none⟩ = some (.int .i64 t.c) := hcs 10 _ rfl
        clear hcs hgo HQ4 V4 HB4 C1 HT HF HWt HW HQ HLN
        cases ha : t.a
        · have hf : fine = false := by rw [HFN.out, can_fine]; simp [ha]
          rw [ha] at u6
          subst hf
          clear HFN
          go_quiet (fail)
          refine ‹∀ (a' : Act) (w' : World), Met _ a' w' → _› _ _ ?_
          go_meet
          case rel => exact ⟨rfl, ⟨nq, rfl⟩⟩
        rw [ha] at u6
        by_cases hg : 0 ≤ t.g
        case neg =>
          have hf : fine = false := by rw [HFN.out, can_fine]; simp [hg]
          have d0 := decide_eq_false hg
          subst hf
          clear HFN
          go_quiet (fail)
          refine ‹∀ (a' : Act) (w' : World), Met _ a' w' → _› _ _ ?_
          go_meet
          case rel => exact ⟨rfl, ⟨nq, rfl⟩⟩
        have d0 := decide_eq_true hg
        by_cases hge : t.g < t.e
        case neg =>
          have hf : fine = false := by rw [HFN.out, can_fine]; simp [hge]
          have d1 := decide_eq_false hge
          subst hf
          clear HFN
          go_quiet (fail)
          refine ‹∀ (a' : Act) (w' : World), Met _ a' w' → _› _ _ ?_
          go_meet
          case rel => exact ⟨rfl, ⟨nq, rfl⟩⟩
        have d1 := decide_eq_true hge
        by_cases hrc : t.r ≤ c
        case neg =>
          have hf : fine = false := by rw [HFN.out, can_fine]; simp [hrc]
          have d2 := decide_eq_false hrc
          subst hf
          clear HFN
          go_quiet (fail)
          refine ‹∀ (a' : Act) (w' : World), Met _ a' w' → _› _ _ ?_
          go_meet
          case rel => exact ⟨rfl, ⟨nq, rfl⟩⟩
        have d2 := decide_eq_true hrc
        by_cases hep : t.e ≤ t.p
        case neg =>
          have hf : fine = false := by rw [HFN.out, can_fine]; simp [hep]
          have d3 := decide_eq_false hep
          subst hf
          clear HFN
          go_quiet (fail)
          refine ‹∀ (a' : Act) (w' : World), Met _ a' w' → _› _ _ ?_
          go_meet
          case rel => exact ⟨rfl, ⟨nq, rfl⟩⟩
        have d3 := decide_eq_true hep
        by_cases hpm : t.p ≤ 1048575
        case neg =>
          have hf : fine = false := by rw [HFN.out, can_fine]; simp [hpm]
          have d4 := decide_eq_false hpm
          subst hf
          clear HFN
          go_quiet (fail)
          refine ‹∀ (a' : Act) (w' : World), Met _ a' w' → _› _ _ ?_
          go_meet
          case rel => exact ⟨rfl, ⟨nq, rfl⟩⟩
        have d4 := decide_eq_true hpm
        have hf : fine = true := by rw [HFN.out, can_fine]; simp [ha, hg, hge, hrc, hep, hpm]
        subst hf
        clear HFN
        go_quiet (fail)
        refine ‹∀ (a' : Act) (w' : World), Met _ a' w' → _› _ _ ?_
        go_meet
        case rel => exact ⟨rfl, ⟨nq, rfl⟩⟩
      case rest =>
      obtain ⟨rfl, n5, rfl⟩ := hcut
      have HB5 := Side.mk (below_drewN HB4.out n5)
      have V5 : Side (Val (wq.drewN n5) 27 p (tcl t)) := ⟨V4.out⟩
      clear HB4 HQ4 V4 HFN
      generalize wq.drewN n5 = w5 at *
      have hpl := V5.out.lt
      have c0 : w5.cell? ⟨p, 0, none⟩ = some (.int .i64 t.id) := V5.out.cell 0 _ rfl
      have c1 : w5.cell? ⟨p, 1, none⟩ = some (.int .i64 t.e) := V5.out.cell 1 _ rfl
      have c2 : w5.cell? ⟨p, 2, none⟩ = some (.int .i64 t.p) := V5.out.cell 2 _ rfl
      have c3 : w5.cell? ⟨p, 3, none⟩ = some (.bool t.s) := V5.out.cell 3 _ rfl
      have c4 : w5.cell? ⟨p, 4, none⟩ = some (.bool t.l) := V5.out.cell 4 _ rfl
      have c5 : w5.cell? ⟨p, 5, none⟩ = some (.bool t.wt) := V5.out.cell 5 _ rfl
      have c6 : w5.cell? ⟨p, 6, none⟩ = some (.bool t.a) := V5.out.cell 6 _ rfl
      have c7 : w5.cell? ⟨p, 7, none⟩ = some (.int .i64 t.r) := V5.out.cell 7 _ rfl
      have c8 : w5.cell? ⟨p, 8, none⟩ = some (.int .i64 t.g) := V5.out.cell 8 _ rfl
      have c9 : w5.cell? ⟨p, 9, none⟩ = some (.bool t.d) := V5.out.cell 9 _ rfl
      have c10 : w5.cell? ⟨p, 10, none⟩ = some (.int .i64 t.c) := V5.out.cell 10 _ rfl
      go_step
      go_wp2_with fail
      refine (C1 _).out.mono ?_
      rintro e w6 ⟨rfl, hb6⟩
      have HB6 := Side.mk (below_then HB5.out HB5.out.size hb6)
      clear hb6 HB5 V5 hpl c0 c1 c2 c3 c4 c5 c6 c7 c8 c9 c10
      cases fine
      all_goals
        go_wp2
        go_roundw
        case rel => exact ⟨i + 1, by simp, by omega, HB6⟩
        case measure => simp [intOf]; omega
    · have hii : ¬ (i : Int) < len := by omega
      go_wp2
      go_ret
      exact ⟨rfl, HB.out⟩
end Go.Proofs.Yticcgmlgiijjnaa.PkJ
