/- The law PickBest, walked by hand. No condition. -/
import Derived.Test.YticcgmlgiijjnaaPkK
set_option linter.unusedVariables false
set_option linter.unusedSimpArgs false
namespace Go.Proofs.Yticcgmlgiijjnaa.PkL
open Go.RowKit Go.Proofs.Yticcgmlgiijjnaa.Kit Go.Proofs.Yticcgmlgiijjnaa.Kit2 Go.Proofs.Yticcgmlgiijjnaa.Kit3 Go.Proofs.Yticcgmlgiijjnaa.Kit4 Go.Proofs.Yticcgmlgiijjnaa.Kit5 HpPlain Go.Maps EvPlain Go.Proofs.Yticcgmlgiijjnaa.HpA Go.Proofs.Yticcgmlgiijjnaa.HpB Go.Proofs.Yticcgmlgiijjnaa.HpK Go.Proofs.Yticcgmlgiijjnaa.Win Go.Proofs.Yticcgmlgiijjnaa.Rank Go.Proofs.Yticcgmlgiijjnaa.Cmp Go.Proofs.Yticcgmlgiijjnaa.PkPlain Go.Proofs.Yticcgmlgiijjnaa.PkA Go.Proofs.Yticcgmlgiijjnaa.PkB Go.Proofs.Yticcgmlgiijjnaa.PkC Go.Proofs.Yticcgmlgiijjnaa.PkD Go.Proofs.Yticcgmlgiijjnaa.PkF Go.Proofs.Yticcgmlgiijjnaa.PkH Go.Proofs.Yticcgmlgiijjnaa.PkK
open Go.Proofs.YticcgmlgiijjnaaW.PrintLast
theorem Rows_n (a : Option Addr) (cap n : Nat) (ts : List Tk) (w : World) (hrow : QRow w a ts) (hn : ts.length = n) (hl : n ≤ 1000) :
    Calls Try.prog 16 #[.slice a n cap] w fun r w' => ∃ v, r = .returned v ∧ TRow w' w.heap.size v ts ∧ Below w.heap.size w w' := by
  subst hn
  exact Rows_at a cap ts w hrow hl
theorem Best_v (v : Value) (n : Nat) (ts : List Tk) (c K : Int) (y : Bool) (B : Nat) (w : World) (hrow : TRow w B v ts) (hn : ts.length = n) (hl : n ≤ 1000) (hfit : ∀ i, i < n → Fit (PkB.at_ ts i)) (hid : ∀ i, i < n → (kv (PkB.at_ ts i).id).wf = true) :
    Calls Try.prog 15 #[v, .int .i64 c, .int .i64 K, .bool y] w fun r w' => ∃ v, r = .returned v ∧ IRow w' w.heap.size v (ids (PkB.at_ ts) n c K.toNat y) ∧ Below w.heap.size w w' := by
  subst hn
  obtain ⟨a2, c2, rfl, -, -⟩ := GRow.shape E11 hrow
  exact Best_at _ _ _ ts c K y w (GRow.lower hrow (Nat.zero_le _)) hl hfit hid
/-- The choice's region: the rows made, then the choice. -/
structure R15 (W : World) (ts : List Tk) (xs : List Int) (v x z : Value) (b : Nat → Bool) (w : World) : Prop where
  bel : Below W.heap.size W w
  r : b 1 = true → TRow w W.heap.size v ts
  s : b 7 = true → IRow w W.heap.size x xs
  e : b 8 = true → z = x
section
variable {W w w' : World} {ts : List Tk} {xs : List Int} {v x v' x' z : Value} {b : Nat → Bool}
theorem R15.start : R15 W ts xs v x z (fun _ => false) W := ⟨Below.refl _ _, fun h => (by cases h), fun h => (by cases h), fun h => (by cases h)⟩
theorem R15.low (h : R15 W ts xs v x z b w) (i : Nat) (hi : (1 != i && 7 != i && 8 != i) = true) : R15 W ts xs v x z (up b i) w := by
  simp only [Bool.and_eq_true, bne_iff_ne, ne_eq] at hi
  refine ⟨h.bel, ?_, ?_, ?_⟩
  · rw [up_ne hi.1.1]; exact h.r
  · rw [up_ne hi.1.2]; exact h.s
  · rw [up_ne hi.2]; exact h.e
theorem R15.rows (h : R15 W ts xs v x z b w) (h7 : b 7 = false) (h8 : b 8 = false) (hr : TRow w' w.heap.size v' ts) (hb : Below w.heap.size w w') : R15 W ts xs v' x z (up b 1) w' := by
  refine ⟨below_then h.bel h.bel.size hb, fun _ => GRow.lower hr h.bel.size, ?_, ?_⟩
  · rw [up_ne (by decide), h7]
    exact fun e => by cases e
  · rw [up_ne (by decide), h8]
    exact fun e => by cases e
theorem R15.best (h : R15 W ts xs v x z b w) (h8 : b 8 = false) (hr : IRow w' w.heap.size x' xs) (hb : Below w.heap.size w w') : R15 W ts xs v x' z (up b 7) w' := by
  refine ⟨below_then h.bel h.bel.size hb, ?_, fun _ => GRow.lower hr h.bel.size, ?_⟩
  · rw [up_ne (by decide)]
    exact fun e => GRow.below (h.r e) hb
  · rw [up_ne (by decide), h8]
    exact fun e => by cases e
theorem R15.last (h : R15 W ts xs v x z b w) : R15 W ts xs v x x (up b 8) w := by
  refine ⟨h.bel, ?_, ?_, fun _ => rfl⟩
  · rw [up_ne (by decide)]; exact h.r
  · rw [up_ne (by decide)]; exact h.s
end
set_option maxHeartbeats 16000000 in
set_option maxRecDepth 100000 in
theorem walk (ad : Option Addr) (n cap : Nat) (V : Nat → Nat → Value) (c kk : Int) (y : Bool) (w : World) (hrow : InRow TK w ad n V) (hlen : n ≤ maxLen) (wc : (Lit.int .i64 c).wf = true) (wk : (Lit.int .i64 kk).wf = true) :
    Calls Try.prog 3 #[.slice ad n cap, .agg #[.int .i64 c, .int .i64 kk], .bool y] w fun r w' => r = .returned (.bool true) ∧ Below w.heap.size w w' := by
  have hK := is64 wk
  have hl64 : (n : Int) ≤ 9223372036854775807 := by unfold maxLen at hlen; omega
  have HQ := Side.mk (qrow hrow)
  have HWF := Side.mk (wfs hrow)
  clear hrow hlen wc wk
  by_cases hbig : 60 < n ∨ c < -1099511627776 ∨ 1099511627776 < c
  · have hb3 : (60 : Int) < n ∨ (¬ (60 : Int) < n ∧ c < -1099511627776) ∨ (¬ (60 : Int) < n ∧ ¬ c < -1099511627776 ∧ 1099511627776 < c) := by omega
    clear hbig HQ HWF
    rcases hb3 with b1 | ⟨b1, b2⟩ | ⟨b1, b2, b3⟩
    all_goals
      go_enter Try.func3, Try.ntmps3
      go_wp2_with fail
      refine (awake_at _).mono ?_
      rintro e w1 ⟨rfl, hb⟩
      have HB := Side.mk (below_then ((Below.refl _ w).alloc (Nat.le_refl _) _) (by simp) hb)
      have k0 : w1.cell? ⟨w.heap.size, 0, none⟩ = some (.int .i64 c) := ((bcell hb).1 _ _ (by simp)).trans (by go_simp)
      have hwl : w.heap.size < w1.heap.size := by have := hb.size; simp at this; omega
      clear hb
      go_wp2
      go_ret
      exact ⟨rfl, HB.out⟩
  have hb1 : ¬ (60 : Int) < n := by omega
  have hc0 : ¬ c < -1099511627776 := by omega
  have hc1 : ¬ 1099511627776 < c := by omega
  obtain ⟨ts, hts⟩ : ∃ ts, ts = tks V n := ⟨_, rfl⟩
  have hln : ts.length = n := by rw [hts, tks_len]
  have HW : Side (∀ i, i < n → Wf (PkB.at_ ts i)) := ⟨fun i hi => by rw [hts, tks_at V n i hi]; exact HWF.out i hi⟩
  rw [← hts] at HQ
  have HLN := Side.mk hln
  clear hts hln HWF hbig
  go_enter Try.func3, Try.ntmps3
  go_wp2_with fail
  refine (awake_at _).mono ?_
  rintro e w1 ⟨rfl, hb⟩
  have HB : Side (Below w.heap.size w w1 ∧ Val w1 23 w.heap.size [.int .i64 c, .int .i64 kk]) := ⟨below_then ((Below.refl _ w).alloc (Nat.le_refl _) _) (by simp) hb, ⟨_, rfl, (hb.block w.heap.size (by simp)).trans (heap_alloc_new w _)⟩⟩
  have k0 : w1.cell? ⟨w.heap.size, 0, none⟩ = some (.int .i64 c) := HB.out.2.cell 0 _ rfl
  have hnl := HB.out.2.lt
  clear hb
  go_wp2_with fail
  clear k0 hnl
  go_loopw [7] (fun v7 wr => ∃ i : Nat, v7 = .int .i64 (i : Int) ∧ i ≤ n ∧ Side (∀ j, j < i → (-1099511627776 ≤ (PkB.at_ ts j).r ∧ (PkB.at_ ts j).r ≤ 1099511627776)) ∧ Side (Below w.heap.size w wr ∧ Val wr 23 w.heap.size [.int .i64 c, .int .i64 kk])) (fun v7 _ => (n - intOf v7).toNat)
  case atStart => exact ⟨0, rfl, Nat.zero_le _, ⟨fun j hj => absurd hj (by omega)⟩, HB⟩
  case round =>
    clear HB
    obtain ⟨i, rfl, hi, HP, HB⟩ := hrel
    have hi0 : (0 : Int) ≤ i := by omega
    obtain ⟨wp, hwp⟩ : ∃ wp : World, wp = wr := ⟨_, rfl⟩
    rw [← hwp] at HB ⊢
    clear hwp
    by_cases hlt : i < n
    · have hii : (i : Int) < n := by omega
      have hi1 : (i : Int) + 1 ≤ 9223372036854775807 := by omega
      have HQ1 := Side.mk (HQ.out.below HB.out.1)
      obtain ⟨g, off, rfl, hgl, hcs⟩ := HQ1.out.get i (by rw [HLN.out]; exact hlt)
      have HWt := Side.mk (HW.out i hlt)
      obtain ⟨t, ht⟩ : ∃ t, t = PkB.at_ ts i := ⟨_, rfl⟩
      have HT := Side.mk ht
      rw [← ht] at hcs HWt
      clear ht
      obtain ⟨ti, te, tp, tz, tl, tw, ta, tr, tg, td, tc⟩ := t
      have u0 : wp.cell? ⟨g, off + i * 11, none⟩ = some (.int .i64 ti) := hcs 0 _ rfl
      have u1 : wp.cell? ⟨g, off + i * 11 + 1, none⟩ = some (.int .i64 te) := hcs 1 _ rfl
      have u2 : wp.cell? ⟨g, off + i * 11 + 2, none⟩ = some (.int .i64 tp) := hcs 2 _ rfl
      have u3 : wp.cell? ⟨g, off + i * 11 + 3, none⟩ = some (.bool tz) := hcs 3 _ rfl
      have u4 : wp.cell? ⟨g, off + i * 11 + 4, none⟩ = some (.bool tl) := hcs 4 _ rfl
      have u5 : wp.cell? ⟨g, off + i * 11 + 5, none⟩ = some (.bool tw) := hcs 5 _ rfl
      have u6 : wp.cell? ⟨g, off + i * 11 + 6, none⟩ = some (.bool ta) := hcs 6 _ rfl
      have u7 : wp.cell? ⟨g, off + i * 11 + 7, none⟩ = some (.int .i64 tr) := hcs 7 _ rfl
      have u8 : wp.cell? ⟨g, off + i * 11 + 8, none⟩ = some (.int .i64 tg) := hcs 8 _ rfl
      have u9 : wp.cell? ⟨g, off + i * 11 + 9, none⟩ = some (.bool td) := hcs 9 _ rfl
      have u10 : wp.cell? ⟨g, off + i * 11 + 10, none⟩ = some (.int .i64 tc) := hcs 10 _ rfl
      clear hcs
      by_cases h1 : tr < -1099511627776
      · go_wp2
        go_ret
        exact ⟨rfl, HB.out.1⟩
      by_cases h2 : 1099511627776 < tr
      · go_wp2
        go_ret
        exact ⟨rfl, HB.out.1⟩
      by_cases h3 : 1099511627776 < tg
      · go_wp2
        go_ret
        exact ⟨rfl, HB.out.1⟩
      have HF := Side.mk (HWt.out.fit (show -1099511627776 ≤ tr by omega) (show tr ≤ 1099511627776 by omega))
      have HP2 : Side (∀ j, j < i + 1 → (-1099511627776 ≤ (PkB.at_ ts j).r ∧ (PkB.at_ ts j).r ≤ 1099511627776)) := ⟨fun j hj => by
        by_cases e : j = i
        · rw [e, ← HT.out]; exact ⟨by show -1099511627776 ≤ tr; omega, by show tr ≤ 1099511627776; omega⟩
        · exact HP.out j (by omega)⟩
      have MD := fun w => Side.mk (TMade_at ⟨ti, te, tp, tz, tl, tw, ta, tr, tg, td, tc⟩ w)
      go_wp2_with fail
      refine (MD _).out.mono ?_
      rintro e w2 ⟨rfl, hb2⟩
      have HB2 : Side (Below w.heap.size w w2 ∧ Val w2 23 w.heap.size [.int .i64 c, .int .i64 kk]) := ⟨below_then HB.out.1 HB.out.1.size hb2, HB.out.2.below hb2⟩
      have HQ2 := Side.mk (HQ1.out.below hb2)
      clear hb2 HB HQ1 MD HP u0 u1 u2 u3 u4 u5 u6 u7 u8 u9 u10 hgl h1 h2 h3
      go_upto_region 11 with (fail)
      obtain ⟨p, hp⟩ : ∃ p, p = w2.heap.size := ⟨_, rfl⟩
      obtain ⟨W3, hW3⟩ : ∃ W3, W3 = w2.alloc (.cells #[.int .i64 ti, .int .i64 te, .int .i64 tp, .bool tz, .bool tl, .bool tw, .bool ta, .int .i64 tr, .int .i64 tg, .bool td, .int .i64 tc] 27) := ⟨_, rfl⟩
      rw [← hW3, ← hp]
      have hb3' : Below w2.heap.size w2 W3 := by rw [hW3]; exact (Below.refl _ _).alloc (Nat.le_refl _) _
      have HB3 : Side (Below w.heap.size w W3 ∧ Val W3 23 w.heap.size [.int .i64 c, .int .i64 kk]) := ⟨below_then HB2.out.1 HB2.out.1.size hb3', HB2.out.2.below hb3'⟩
      have HQ3 := Side.mk (HQ2.out.below hb3')
      have V3 : Side (Val W3 27 p (tcl ⟨ti, te, tp, tz, tl, tw, ta, tr, tg, td, tc⟩)) := ⟨⟨_, rfl, by rw [hW3, hp]; exact heap_alloc_new w2 _⟩⟩
      clear hW3 hp hb3' HB2 HQ2
      go_cut [73] (fun v we => v = .bool false ∧ Side (Below W3.heap.size W3 we))
      case first =>
        obtain ⟨cv, hcv⟩ : ∃ cv, cv = can ⟨ti, te, tp, tz, tl, tw, ta, tr, tg, td, tc⟩ c y := ⟨_, rfl⟩
        have C0 := fun w => Side.mk (Can_at ⟨ti, te, tp, tz, tl, tw, ta, tr, tg, td, tc⟩ HF.out c y w)
        have C1 := fun w => Side.mk (RCan_at ⟨ti, te, tp, tz, tl, tw, ta, tr, tg, td, tc⟩ HF.out c (by omega) (by omega) y w)
        rw [← hcv] at C0 C1
        clear hcv
        have hpl := V3.out.lt
        have c0 : W3.cell? ⟨p, 0, none⟩ = some (.int .i64 ti) := V3.out.cell 0 _ rfl
        have c1 : W3.cell? ⟨p, 1, none⟩ = some (.int .i64 te) := V3.out.cell 1 _ rfl
        have c2 : W3.cell? ⟨p, 2, none⟩ = some (.int .i64 tp) := V3.out.cell 2 _ rfl
        have c3 : W3.cell? ⟨p, 3, none⟩ = some (.bool tz) := V3.out.cell 3 _ rfl
        have c4 : W3.cell? ⟨p, 4, none⟩ = some (.bool tl) := V3.out.cell 4 _ rfl
        have c5 : W3.cell? ⟨p, 5, none⟩ = some (.bool tw) := V3.out.cell 5 _ rfl
        have c6 : W3.cell? ⟨p, 6, none⟩ = some (.bool ta) := V3.out.cell 6 _ rfl
        have c7 : W3.cell? ⟨p, 7, none⟩ = some (.int .i64 tr) := V3.out.cell 7 _ rfl
        have c8 : W3.cell? ⟨p, 8, none⟩ = some (.int .i64 tg) := V3.out.cell 8 _ rfl
        have c9 : W3.cell? ⟨p, 9, none⟩ = some (.bool td) := V3.out.cell 9 _ rfl
        have c10 : W3.cell? ⟨p, 10, none⟩ = some (.int .i64 tc) := V3.out.cell 10 _ rfl
        obtain ⟨g', off', hgo, hgl, hcs⟩ := HQ3.out.get i (by rw [HLN.out]; exact hlt)
        obtain ⟨rfl, rfl⟩ : g = g' ∧ off = off' := by simpa using hgo
        rw [← HT.out] at hcs
        have u0 : W3.cell? ⟨g, off + i * 11, none⟩ = some (.int .i64 ti) := hcs 0 _ rfl
        have u1 : W3.cell? ⟨g, off + i * 11 + 1, none⟩ = some (.int .i64 te) := hcs 1 _ rfl
        have u2 : W3.cell? ⟨g, off + i * 11 + 2, none⟩ = some (.int .i64 tp) := hcs 2 _ rfl
        have u3 : W3.cell? ⟨g, off + i * 11 + 3, none⟩ = some (.bool tz) := hcs 3 _ rfl
        have u4 : W3.cell? ⟨g, off + i * 11 + 4, none⟩ = some (.bool tl) := hcs 4 _ rfl
        have u5 : W3.cell? ⟨g, off + i * 11 + 5, none⟩ = some (.bool tw) := hcs 5 _ rfl
        have u6 : W3.cell? ⟨g, off + i * 11 + 6, none⟩ = some (.bool ta) := hcs 6 _ rfl
        have u7 : W3.cell? ⟨g, off + i * 11 + 7, none⟩ = some (.int .i64 tr) := hcs 7 _ rfl
        have u8 : W3.cell? ⟨g, off + i * 11 + 8, none⟩ = some (.int .i64 tg) := hcs 8 _ rfl
        have u9 : W3.cell? ⟨g, off + i * 11 + 9, none⟩ = some (.bool td) := hcs 9 _ rfl
        have u10 : W3.cell? ⟨g, off + i * 11 + 10, none⟩ = some (.int .i64 tc) := hcs 10 _ rfl
        have k0 : W3.cell? ⟨w.heap.size, 0, none⟩ = some (.int .i64 c) := HB3.out.2.cell 0 _ rfl
        have hnl := HB3.out.2.lt
        clear hcs hgo HQ3 V3 HB3 HP2
        refine start_ (n := 14) (S := fun w' => True) (ds := []) #[false, false, false, false, false, false, false, false, false, false, false, false, false, false] (by kernel_rfl) rfl rfl trivial (fun _ => ?_)
        refine inv_at (B := [0, 0, 2, 0, 15, 0, 0, 96, 224, 0, 512, 0, 4095, 8191]) [0, 1, 2, 3, 4, 5, 6, 7, 8, 9, 10, 11, 12, 13] (fun a0_ b a w' => a = putSel a0_ b [(0, 60, .agg #[.int .i64 ti, .int .i64 te, .int .i64 tp, .bool tz, .bool tl, .bool tw, .bool ta, .int .i64 tr, .int .i64 tg, .bool td, .int .i64 tc]), (1, 61, .pointer (some ⟨w.heap.size, 0, none⟩)), (2, 62, .int .i64 c), (3, 63, .bool y), (4, 64, .bool cv), (5, 65, .slice (some ⟨g, off, none⟩) n cap), (6, 66, .int .i64 i), (7, 67, .pointer (some ⟨g, off + i * 11, none⟩)), (8, 68, .agg #[.int .i64 ti, .int .i64 te, .int .i64 tp, .bool tz, .bool tl, .bool tw, .bool ta, .int .i64 tr, .int .i64 tg, .bool td, .int .i64 tc]), (9, 69, .pointer (some ⟨w.heap.size, 0, none⟩)), (10, 70, .int .i64 c), (11, 71, .bool y), (12, 72, .bool cv), (13, 73, .bool false)] ∧ Below W3.drew.heap.size W3.drew w') rfl (by kernel_rfl) (by kernel_rfl) (by kernel_rfl) ?_ ?_ ?_
        · exact ⟨by simp only [putSel, Bool.false_eq_true, if_false], Below.refl _ _⟩
        · refine steps_cons (by rintro b a w' ⟨ha, HI⟩ hb hon hoff; refine ⟨_, rfl, fun K hK => ?_⟩; have e8 := poff ha (t := 8) rfl rfl; have k0_ := bc HI hpl c0; have k1_ := bc HI hpl c1; have k2_ := bc HI hpl c2; have k3_ := bc HI hpl c3; have k4_ := bc HI hpl c4; have k5_ := bc HI hpl c5; have k6_ := bc HI hpl c6; have k7_ := bc HI hpl c7; have k8_ := bc HI hpl c8; have k9_ := bc HI hpl c9; have k10_ := bc HI hpl c10; have kz_ := bz HI hpl; exact value_ (v := .agg #[.int .i64 ti, .int .i64 te, .int .i64 tp, .bool tz, .bool tl, .bool tw, .bool ta, .int .i64 tr, .int .i64 tg, .bool td, .int .i64 tc]) (by rfl) rfl (by clear HI ha; go_simp) (hK.out _ _ ⟨upk ha 0 hb rfl rfl, HI⟩)) ?_
          refine steps_cons (by rintro b a w' ⟨ha, HI⟩ hb hon hoff; refine ⟨_, rfl, fun K hK => ?_⟩; have e4 := poff ha (t := 4) rfl rfl; exact value_ (v := .pointer (some ⟨w.heap.size, 0, none⟩)) (by rfl) rfl (by clear HI ha; go_simp) (hK.out _ _ ⟨upk ha 1 hb rfl rfl, HI⟩)) ?_
          refine steps_cons (by rintro b a w' ⟨ha, HI⟩ hb hon hoff; refine ⟨_, rfl, fun K hK => ?_⟩; have e61 := pon ha 1 (hon 1 rfl) rfl rfl rfl; have k0_ := bc HI hnl k0; have kz_ := bz HI hnl; exact value_ (v := .int .i64 c) (by rfl) rfl (by clear HI ha; go_simp) (hK.out _ _ ⟨upk ha 2 hb rfl rfl, HI⟩)) ?_
          refine steps_cons (by rintro b a w' ⟨ha, HI⟩ hb hon hoff; refine ⟨_, rfl, fun K hK => ?_⟩; have e2 := poff ha (t := 2) rfl rfl; exact value_ (v := .bool y) (by rfl) rfl (by clear HI ha; go_simp) (hK.out _ _ ⟨upk ha 3 hb rfl rfl, HI⟩)) ?_
          refine steps_cons (by rintro b a w' ⟨ha, HI⟩ hb hon hoff; refine ⟨_, rfl, fun K hK => ?_⟩; have e60 := pon ha 0 (hon 0 rfl) rfl rfl rfl; have e62 := pon ha 2 (hon 2 rfl) rfl rfl rfl; have e63 := pon ha 3 (hon 3 rfl) rfl rfl rfl; refine goes_ Try.func10 (by kernel_rfl) rfl #[.agg #[.int .i64 ti, .int .i64 te, .int .i64 tp, .bool tz, .bool tl, .bool tw, .bool ta, .int .i64 tr, .int .i64 tg, .bool td, .int .i64 tc], .int .i64 c, .bool y] (by rfl) rfl rfl (by simp [Act.eval, e60, e62, e63]) ((C0 w').out.mono ?_); rintro e_ w'' ⟨rfl, hbc⟩; exact ⟨_, rfl, hK.out _ _ ⟨upk ha 4 hb rfl rfl, below_then HI HI.size hbc⟩⟩) ?_
          refine steps_cons (by rintro b a w' ⟨ha, HI⟩ hb hon hoff; refine ⟨_, rfl, fun K hK => ?_⟩; have e0 := poff ha (t := 0) rfl rfl; exact value_ (v := .slice (some ⟨g, off, none⟩) n cap) (by rfl) rfl (by clear HI ha; go_simp) (hK.out _ _ ⟨upk ha 5 hb rfl rfl, HI⟩)) ?_
          refine steps_cons (by rintro b a w' ⟨ha, HI⟩ hb hon hoff; refine ⟨_, rfl, fun K hK => ?_⟩; have e7 := poff ha (t := 7) rfl rfl; exact value_ (v := .int .i64 i) (by rfl) rfl (by clear HI ha; go_simp) (hK.out _ _ ⟨upk ha 6 hb rfl rfl, HI⟩)) ?_
          refine steps_cons (by rintro b a w' ⟨ha, HI⟩ hb hon hoff; refine ⟨_, rfl, fun K hK => ?_⟩; have e65 := pon ha 5 (hon 5 rfl) rfl rfl rfl; have e66 := pon ha 6 (hon 6 rfl) rfl rfl rfl; exact value_ (v := .pointer (some ⟨g, off + i * 11, none⟩)) (by rfl) rfl (by clear HI ha; go_simp) (hK.out _ _ ⟨upk ha 7 hb rfl rfl, HI⟩)) ?_
          refine steps_cons (by rintro b a w' ⟨ha, HI⟩ hb hon hoff; refine ⟨_, rfl, fun K hK => ?_⟩; have e67 := pon ha 7 (hon 7 rfl) rfl rfl rfl; have k0_ := bc HI hgl u0; have k1_ := bc HI hgl u1; have k2_ := bc HI hgl u2; have k3_ := bc HI hgl u3; have k4_ := bc HI hgl u4; have k5_ := bc HI hgl u5; have k6_ := bc HI hgl u6; have k7_ := bc HI hgl u7; have k8_ := bc HI hgl u8; have k9_ := bc HI hgl u9; have k10_ := bc HI hgl u10; have kz_ := bz HI hgl; exact value_ (v := .agg #[.int .i64 ti, .int .i64 te, .int .i64 tp, .bool tz, .bool tl, .bool tw, .bool ta, .int .i64 tr, .int .i64 tg, .bool td, .int .i64 tc]) (by rfl) rfl (by clear HI ha; go_simp) (hK.out _ _ ⟨upk ha 8 hb rfl rfl, HI⟩)) ?_
          refine steps_cons (by rintro b a w' ⟨ha, HI⟩ hb hon hoff; refine ⟨_, rfl, fun K hK => ?_⟩; have e4 := poff ha (t := 4) rfl rfl; exact value_ (v := .pointer (some ⟨w.heap.size, 0, none⟩)) (by rfl) rfl (by clear HI ha; go_simp) (hK.out _ _ ⟨upk ha 9 hb rfl rfl, HI⟩)) ?_
          refine steps_cons (by rintro b a w' ⟨ha, HI⟩ hb hon hoff; refine ⟨_, rfl, fun K hK => ?_⟩; have e69 := pon ha 9 (hon 9 rfl) rfl rfl rfl; have k0_ := bc HI hnl k0; have kz_ := bz HI hnl; exact value_ (v := .int .i64 c) (by rfl) rfl (by clear HI ha; go_simp) (hK.out _ _ ⟨upk ha 10 hb rfl rfl, HI⟩)) ?_
          refine steps_cons (by rintro b a w' ⟨ha, HI⟩ hb hon hoff; refine ⟨_, rfl, fun K hK => ?_⟩; have e2 := poff ha (t := 2) rfl rfl; exact value_ (v := .bool y) (by rfl) rfl (by clear HI ha; go_simp) (hK.out _ _ ⟨upk ha 11 hb rfl rfl, HI⟩)) ?_
          refine steps_cons (by rintro b a w' ⟨ha, HI⟩ hb hon hoff; refine ⟨_, rfl, fun K hK => ?_⟩; have e68 := pon ha 8 (hon 8 rfl) rfl rfl rfl; have e70 := pon ha 10 (hon 10 rfl) rfl rfl rfl; have e71 := pon ha 11 (hon 11 rfl) rfl rfl rfl; refine goes_ Try.func11 (by kernel_rfl) rfl #[.agg #[.int .i64 ti, .int .i64 te, .int .i64 tp, .bool tz, .bool tl, .bool tw, .bool ta, .int .i64 tr, .int .i64 tg, .bool td, .int .i64 tc], .int .i64 c, .bool y] (by rfl) rfl rfl (by simp [Act.eval, e68, e70, e71]) ((C1 w').out.mono ?_); rintro e_ w'' ⟨rfl, hbc⟩; exact ⟨_, rfl, hK.out _ _ ⟨upk ha 12 hb rfl rfl, below_then HI HI.size hbc⟩⟩) ?_
          refine steps_cons (by rintro b a w' ⟨ha, HI⟩ hb hon hoff; refine ⟨_, rfl, fun K hK => ?_⟩; have e64 := pon ha 4 (hon 4 rfl) rfl rfl rfl; have e72 := pon ha 12 (hon 12 rfl) rfl rfl rfl; exact value_ (v := .bool false) (by rfl) rfl (by clear HI ha; go_simp) (hK.out _ _ ⟨upk ha 13 hb rfl rfl, HI⟩)) ?_
          exact steps_nil
        · rintro b a w' hall ⟨ha, HI⟩
          have hb0_ := hall 0 rfl; have hb1_ := hall 1 rfl; have hb2_ := hall 2 rfl; have hb3_ := hall 3 rfl; have hb4_ := hall 4 rfl; have hb5_ := hall 5 rfl; have hb6_ := hall 6 rfl; have hb7_ := hall 7 rfl
          have hb8_ := hall 8 rfl; have hb9_ := hall 9 rfl; have hb10_ := hall 10 rfl; have hb11_ := hall 11 rfl; have hb12_ := hall 12 rfl; have hb13_ := hall 13 rfl
          subst ha
          simp only [putSel, hb0_, hb1_, hb2_, hb3_, hb4_, hb5_, hb6_, hb7_, hb8_, hb9_, hb10_, hb11_, hb12_, hb13_, if_true, Act.put, List.setIfInBounds_toArray, List.set_cons_zero, List.set_cons_succ]
          have hB := (below_then (below_drew (Below.refl _ W3)) (Nat.le_refl _) HI : Below W3.heap.size W3 w')
          clear hall HI hb0_ hb1_ hb2_ hb3_ hb4_ hb5_ hb6_ hb7_ hb8_ hb9_ hb10_ hb11_ hb12_ hb13_
          refine ‹∀ (a' : Act) (w' : World), Met _ a' w' → _› _ _ ?_
          go_meet
          case rel => exact ⟨rfl, ⟨hB⟩⟩
      case rest =>
      obtain ⟨rfl, HC⟩ := hcut
      have HB4 : Side (Below w.heap.size w wc ∧ Val wc 23 w.heap.size [.int .i64 c, .int .i64 kk]) := ⟨below_then HB3.out.1 HB3.out.1.size HC.out, HB3.out.2.below HC.out⟩
      have HQ4 := Side.mk (HQ3.out.below HC.out)
      have V4 := Side.mk (V3.out.below HC.out)
      clear HC HB3 HQ3 V3
      obtain ⟨w5, hw5⟩ : ∃ w5 : World, w5 = wc := ⟨_, rfl⟩
      rw [← hw5] at HB4 HQ4 V4 ⊢
      clear hw5
      go_step
      go_upto_region 13 with (fail)
      go_cut [110] (fun v we => v = .bool false ∧ Side (Below w5.heap.size w5 we))
      case first =>
        obtain ⟨g', off', hgo, hgl, hcs⟩ := HQ4.out.get i (by rw [HLN.out]; exact hlt)
        obtain ⟨rfl, rfl⟩ : g = g' ∧ off = off' := by simpa using hgo
        rw [← HT.out] at hcs
        have hpl := V4.out.lt
        clear hgo HQ4 HP2 HT HWt HW HQ HLN HB4
        cases ta
        case false =>
          have u0 : w5.cell? ⟨g, off + i * 11, none⟩ = some (.int .i64 ti) := hcs 0 _ rfl
          have u1 : w5.cell? ⟨g, off + i * 11 + 1, none⟩ = some (.int .i64 te) := hcs 1 _ rfl
          have u2 : w5.cell? ⟨g, off + i * 11 + 2, none⟩ = some (.int .i64 tp) := hcs 2 _ rfl
          have u3 : w5.cell? ⟨g, off + i * 11 + 3, none⟩ = some (.bool tz) := hcs 3 _ rfl
          have u4 : w5.cell? ⟨g, off + i * 11 + 4, none⟩ = some (.bool tl) := hcs 4 _ rfl
          have u5 : w5.cell? ⟨g, off + i * 11 + 5, none⟩ = some (.bool tw) := hcs 5 _ rfl
          have u6 : w5.cell? ⟨g, off + i * 11 + 6, none⟩ = some (.bool false) := hcs 6 _ rfl
          have u7 : w5.cell? ⟨g, off + i * 11 + 7, none⟩ = some (.int .i64 tr) := hcs 7 _ rfl
          have u8 : w5.cell? ⟨g, off + i * 11 + 8, none⟩ = some (.int .i64 tg) := hcs 8 _ rfl
          have u9 : w5.cell? ⟨g, off + i * 11 + 9, none⟩ = some (.bool td) := hcs 9 _ rfl
          have u10 : w5.cell? ⟨g, off + i * 11 + 10, none⟩ = some (.int .i64 tc) := hcs 10 _ rfl
          clear hcs
          go_quiet (fail)
          refine ‹∀ (a' : Act) (w' : World), Met _ a' w' → _› _ _ ?_
          go_meet
          case rel => exact ⟨rfl, ⟨below_drewN (Below.refl _ _) nq⟩⟩
        have u0 : w5.cell? ⟨g, off + i * 11, none⟩ = some (.int .i64 ti) := hcs 0 _ rfl
        have u1 : w5.cell? ⟨g, off + i * 11 + 1, none⟩ = some (.int .i64 te) := hcs 1 _ rfl
        have u2 : w5.cell? ⟨g, off + i * 11 + 2, none⟩ = some (.int .i64 tp) := hcs 2 _ rfl
        have u3 : w5.cell? ⟨g, off + i * 11 + 3, none⟩ = some (.bool tz) := hcs 3 _ rfl
        have u4 : w5.cell? ⟨g, off + i * 11 + 4, none⟩ = some (.bool tl) := hcs 4 _ rfl
        have u5 : w5.cell? ⟨g, off + i * 11 + 5, none⟩ = some (.bool tw) := hcs 5 _ rfl
        have u6 : w5.cell? ⟨g, off + i * 11 + 6, none⟩ = some (.bool true) := hcs 6 _ rfl
        have u7 : w5.cell? ⟨g, off + i * 11 + 7, none⟩ = some (.int .i64 tr) := hcs 7 _ rfl
        have u8 : w5.cell? ⟨g, off + i * 11 + 8, none⟩ = some (.int .i64 tg) := hcs 8 _ rfl
        have u9 : w5.cell? ⟨g, off + i * 11 + 9, none⟩ = some (.bool td) := hcs 9 _ rfl
        have u10 : w5.cell? ⟨g, off + i * 11 + 10, none⟩ = some (.int .i64 tc) := hcs 10 _ rfl
        clear hcs
        by_cases hg : 0 ≤ tg
        case neg =>
          have d0 := decide_eq_false hg
          go_quiet (fail)
          refine ‹∀ (a' : Act) (w' : World), Met _ a' w' → _› _ _ ?_
          go_meet
          case rel => exact ⟨rfl, ⟨below_drewN (Below.refl _ _) nq⟩⟩
        have d0 := decide_eq_true hg
        by_cases hge : tg < te
        case neg =>
          have d1 := decide_eq_false hge
          go_quiet (fail)
          refine ‹∀ (a' : Act) (w' : World), Met _ a' w' → _› _ _ ?_
          go_meet
          case rel => exact ⟨rfl, ⟨below_drewN (Below.refl _ _) nq⟩⟩
        have d1 := decide_eq_true hge
        have c0 : w5.cell? ⟨p, 0, none⟩ = some (.int .i64 ti) := V4.out.cell 0 _ rfl
        have c1 : w5.cell? ⟨p, 1, none⟩ = some (.int .i64 te) := V4.out.cell 1 _ rfl
        have c2 : w5.cell? ⟨p, 2, none⟩ = some (.int .i64 tp) := V4.out.cell 2 _ rfl
        have c3 : w5.cell? ⟨p, 3, none⟩ = some (.bool tz) := V4.out.cell 3 _ rfl
        have c4 : w5.cell? ⟨p, 4, none⟩ = some (.bool tl) := V4.out.cell 4 _ rfl
        have c5 : w5.cell? ⟨p, 5, none⟩ = some (.bool tw) := V4.out.cell 5 _ rfl
        have c6 : w5.cell? ⟨p, 6, none⟩ = some (.bool true) := V4.out.cell 6 _ rfl
        have c7 : w5.cell? ⟨p, 7, none⟩ = some (.int .i64 tr) := V4.out.cell 7 _ rfl
        have c8 : w5.cell? ⟨p, 8, none⟩ = some (.int .i64 tg) := V4.out.cell 8 _ rfl
        have c9 : w5.cell? ⟨p, 9, none⟩ = some (.bool td) := V4.out.cell 9 _ rfl
        have c10 : w5.cell? ⟨p, 10, none⟩ = some (.int .i64 tc) := V4.out.cell 10 _ rfl
        have RR := fun w => Side.mk (RRank_at _ HF.out hge w)
        have PR := fun w => Side.mk (Rank_at _ HF.out w)
        generalize rk _ = r1 at *
        obtain ⟨d1, b1, g1, i1⟩ := r1
        have MM := fun w => Side.mk (Made_at ⟨d1, b1, g1, i1⟩ w)
        clear HF V4
        refine start_ (n := 37) (S := fun w' => True) (ds := []) #[false, false, false, false, false, false, false, false, false, false, false, false, false, false, false, false, false, false, false, false, false, false, false, false, false, false, false, false, false, false, false, false, false, false, false, false, false] (by kernel_rfl) rfl rfl trivial (fun _ => ?_)
        refine inv_at (B := [0, 0, 3, 7, 15, 31, 63, 63, 255, 511, 1023, 2047, 4095, 8191, 16383, 16383, 65535, 131071, 262143, 16383, 16383, 1589247, 3686399, 7880703, 16777215, 33554431, 67108863, 134217727, 268435455, 134217727, 134217727, 1744830463, 3892314111, 8589934591, 17179869183, 34359738367, 68719476735]) [0, 1, 2, 3, 4, 5, 6, 7, 8, 9, 10, 11, 12, 13, 14, 15, 16, 17, 18, 19, 20, 21, 22, 23, 24, 25, 26, 27, 28, 29, 30, 31, 32, 33, 34, 35, 36] (fun a0_ b a w' => a = putSel a0_ b [(0, 74, .slice (some ⟨g, off, none⟩) n cap), (1, 75, .int .i64 i), (2, 76, .pointer (some ⟨g, off + i * 11, none⟩)), (3, 77, .pointer (some ⟨g, off + i * 11 + 6, none⟩)), (4, 78, .bool true), (5, 79, .bool true), (6, 80, .slice (some ⟨g, off, none⟩) n cap), (7, 81, .int .i64 i), (8, 82, .pointer (some ⟨g, off + i * 11, none⟩)), (9, 83, .pointer (some ⟨g, off + i * 11 + 8, none⟩)), (10, 84, .int .i64 tg), (11, 85, .bool true), (12, 86, .bool true), (13, 87, .bool true), (14, 88, .slice (some ⟨g, off, none⟩) n cap), (15, 89, .int .i64 i), (16, 90, .pointer (some ⟨g, off + i * 11, none⟩)), (17, 91, .pointer (some ⟨g, off + i * 11 + 8, none⟩)), (18, 92, .int .i64 tg), (19, 93, .slice (some ⟨g, off, none⟩) n cap), (20, 94, .int .i64 i), (21, 95, .pointer (some ⟨g, off + i * 11, none⟩)), (22, 96, .pointer (some ⟨g, off + i * 11 + 1, none⟩)), (23, 97, .int .i64 te), (24, 98, .bool true), (25, 99, .bool true), (26, 100, .bool true), (27, 101, .agg #[.int .i64 ti, .int .i64 te, .int .i64 tp, .bool tz, .bool tl, .bool tw, .bool true, .int .i64 tr, .int .i64 tg, .bool td, .int .i64 tc]), (28, 102, .agg #[.int .i64 d1, .int .i64 b1, .int .i64 g1, .int .i64 i1]), (29, 103, .slice (some ⟨g, off, none⟩) n cap), (30, 104, .int .i64 i), (31, 105, .pointer (some ⟨g, off + i * 11, none⟩)), (32, 106, .agg #[.int .i64 ti, .int .i64 te, .int .i64 tp, .bool tz, .bool tl, .bool tw, .bool true, .int .i64 tr, .int .i64 tg, .bool td, .int .i64 tc]), (33, 107, .agg #[.int .i64 d1, .int .i64 b1, .int .i64 g1, .int .i64 i1]), (34, 108, .agg #[.int .i64 d1, .int .i64 b1, .int .i64 g1, .int .i64 i1]), (35, 109, .bool false), (36, 110, .bool false)] ∧ Below w5.drew.heap.size w5.drew w') rfl (by kernel_rfl) (by kernel_rfl) (by kernel_rfl) ?_ ?_ ?_
        · exact ⟨by simp only [putSel, Bool.false_eq_true, if_false], Below.refl _ _⟩
        · refine steps_cons (by rintro b a w' ⟨ha, HI⟩ hb hon hoff; refine ⟨_, rfl, fun K hK => ?_⟩; have e0 := poff ha (t := 0) rfl rfl; exact value_ (v := .slice (some ⟨g, off, none⟩) n cap) (by rfl) rfl (by clear HI ha; go_simp) (hK.out _ _ ⟨upk ha 0 hb rfl rfl, HI⟩)) ?_
          refine steps_cons (by rintro b a w' ⟨ha, HI⟩ hb hon hoff; refine ⟨_, rfl, fun K hK => ?_⟩; have e7 := poff ha (t := 7) rfl rfl; exact value_ (v := .int .i64 i) (by rfl) rfl (by clear HI ha; go_simp) (hK.out _ _ ⟨upk ha 1 hb rfl rfl, HI⟩)) ?_
          refine steps_cons (by rintro b a w' ⟨ha, HI⟩ hb hon hoff; refine ⟨_, rfl, fun K hK => ?_⟩; have e74 := pon ha 0 (hon 0 rfl) rfl rfl rfl; have e75 := pon ha 1 (hon 1 rfl) rfl rfl rfl; exact value_ (v := .pointer (some ⟨g, off + i * 11, none⟩)) (by rfl) rfl (by clear HI ha; go_simp) (hK.out _ _ ⟨upk ha 2 hb rfl rfl, HI⟩)) ?_
          refine steps_cons (by rintro b a w' ⟨ha, HI⟩ hb hon hoff; refine ⟨_, rfl, fun K hK => ?_⟩; have e76 := pon ha 2 (hon 2 rfl) rfl rfl rfl; exact value_ (v := .pointer (some ⟨g, off + i * 11 + 6, none⟩)) (by rfl) rfl (by clear HI ha; go_simp) (hK.out _ _ ⟨upk ha 3 hb rfl rfl, HI⟩)) ?_
          refine steps_cons (by rintro b a w' ⟨ha, HI⟩ hb hon hoff; refine ⟨_, rfl, fun K hK => ?_⟩; have e77 := pon ha 3 (hon 3 rfl) rfl rfl rfl; have k0_ := bc HI hgl u6; have kz_ := bz HI hgl; exact value_ (v := .bool true) (by rfl) rfl (by clear HI ha; go_simp) (hK.out _ _ ⟨upk ha 4 hb rfl rfl, HI⟩)) ?_
          refine steps_cons (by rintro b a w' ⟨ha, HI⟩ hb hon hoff; refine ⟨_, rfl, fun K hK => ?_⟩; have e78 := pon ha 4 (hon 4 rfl) rfl rfl rfl; exact value_ (v := .bool true) (by rfl) rfl (by clear HI ha; go_simp) (hK.out _ _ ⟨upk ha 5 hb rfl rfl, HI⟩)) ?_
          refine steps_cons (by rintro b a w' ⟨ha, HI⟩ hb hon hoff; refine ⟨_, rfl, fun K hK => ?_⟩; have e0 := poff ha (t := 0) rfl rfl; have e79 := pon ha 5 (hon 5 rfl) rfl rfl rfl; exact value_ (v := .slice (some ⟨g, off, none⟩) n cap) (wanted_on (t := 79) (u := true) rfl rfl rfl e79) rfl (by clear HI ha; go_simp) (hK.out _ _ ⟨upk ha 6 hb rfl rfl, HI⟩)) ?_
          refine steps_cons (by rintro b a w' ⟨ha, HI⟩ hb hon hoff; refine ⟨_, rfl, fun K hK => ?_⟩; have e7 := poff ha (t := 7) rfl rfl; have e79 := pon ha 5 (hon 5 rfl) rfl rfl rfl; exact value_ (v := .int .i64 i) (wanted_on (t := 79) (u := true) rfl rfl rfl e79) rfl (by clear HI ha; go_simp) (hK.out _ _ ⟨upk ha 7 hb rfl rfl, HI⟩)) ?_
          refine steps_cons (by rintro b a w' ⟨ha, HI⟩ hb hon hoff; refine ⟨_, rfl, fun K hK => ?_⟩; have e80 := pon ha 6 (hon 6 rfl) rfl rfl rfl; have e81 := pon ha 7 (hon 7 rfl) rfl rfl rfl; have e79 := pon ha 5 (hon 5 rfl) rfl rfl rfl; exact value_ (v := .pointer (some ⟨g, off + i * 11, none⟩)) (wanted_on (t := 79) (u := true) rfl rfl rfl e79) rfl (by clear HI ha; go_simp) (hK.out _ _ ⟨upk ha 8 hb rfl rfl, HI⟩)) ?_
          refine steps_cons (by rintro b a w' ⟨ha, HI⟩ hb hon hoff; refine ⟨_, rfl, fun K hK => ?_⟩; have e82 := pon ha 8 (hon 8 rfl) rfl rfl rfl; have e79 := pon ha 5 (hon 5 rfl) rfl rfl rfl; exact value_ (v := .pointer (some ⟨g, off + i * 11 + 8, none⟩)) (wanted_on (t := 79) (u := true) rfl rfl rfl e79) rfl (by clear HI ha; go_simp) (hK.out _ _ ⟨upk ha 9 hb rfl rfl, HI⟩)) ?_
          refine steps_cons (by rintro b a w' ⟨ha, HI⟩ hb hon hoff; refine ⟨_, rfl, fun K hK => ?_⟩; have e83 := pon ha 9 (hon 9 rfl) rfl rfl rfl; have e79 := pon ha 5 (hon 5 rfl) rfl rfl rfl; have k0_ := bc HI hgl u8; have kz_ := bz HI hgl; exact value_ (v := .int .i64 tg) (wanted_on (t := 79) (u := true) rfl rfl rfl e79) rfl (by clear HI ha; go_simp) (hK.out _ _ ⟨upk ha 10 hb rfl rfl, HI⟩)) ?_
          refine steps_cons (by rintro b a w' ⟨ha, HI⟩ hb hon hoff; refine ⟨_, rfl, fun K hK => ?_⟩; have e84 := pon ha 10 (hon 10 rfl) rfl rfl rfl; have e79 := pon ha 5 (hon 5 rfl) rfl rfl rfl; exact value_ (v := .bool true) (wanted_on (t := 79) (u := true) rfl rfl rfl e79) rfl (by clear HI ha; go_simp) (hK.out _ _ ⟨upk ha 11 hb rfl rfl, HI⟩)) ?_
          refine steps_cons (by rintro b a w' ⟨ha, HI⟩ hb hon hoff; refine ⟨_, rfl, fun K hK => ?_⟩; have e79 := pon ha 5 (hon 5 rfl) rfl rfl rfl; have e85 := pon ha 11 (hon 11 rfl) rfl rfl rfl; exact value_ (v := .bool true) (by rfl) rfl (by clear HI ha; go_simp) (hK.out _ _ ⟨upk ha 12 hb rfl rfl, HI⟩)) ?_
          refine steps_cons (by rintro b a w' ⟨ha, HI⟩ hb hon hoff; refine ⟨_, rfl, fun K hK => ?_⟩; have e86 := pon ha 12 (hon 12 rfl) rfl rfl rfl; exact value_ (v := .bool true) (by rfl) rfl (by clear HI ha; go_simp) (hK.out _ _ ⟨upk ha 13 hb rfl rfl, HI⟩)) ?_
          refine steps_cons (by rintro b a w' ⟨ha, HI⟩ hb hon hoff; refine ⟨_, rfl, fun K hK => ?_⟩; have e0 := poff ha (t := 0) rfl rfl; have e87 := pon ha 13 (hon 13 rfl) rfl rfl rfl; exact value_ (v := .slice (some ⟨g, off, none⟩) n cap) (wanted_on (t := 87) (u := true) rfl rfl rfl e87) rfl (by clear HI ha; go_simp) (hK.out _ _ ⟨upk ha 14 hb rfl rfl, HI⟩)) ?_
          refine steps_cons (by rintro b a w' ⟨ha, HI⟩ hb hon hoff; refine ⟨_, rfl, fun K hK => ?_⟩; have e7 := poff ha (t := 7) rfl rfl; have e87 := pon ha 13 (hon 13 rfl) rfl rfl rfl; exact value_ (v := .int .i64 i) (wanted_on (t := 87) (u := true) rfl rfl rfl e87) rfl (by clear HI ha; go_simp) (hK.out _ _ ⟨upk ha 15 hb rfl rfl, HI⟩)) ?_
          refine steps_cons (by rintro b a w' ⟨ha, HI⟩ hb hon hoff; refine ⟨_, rfl, fun K hK => ?_⟩; have e88 := pon ha 14 (hon 14 rfl) rfl rfl rfl; have e89 := pon ha 15 (hon 15 rfl) rfl rfl rfl; have e87 := pon ha 13 (hon 13 rfl) rfl rfl rfl; exact value_ (v := .pointer (some ⟨g, off + i * 11, none⟩)) (wanted_on (t := 87) (u := true) rfl rfl rfl e87) rfl (by clear HI ha; go_simp) (hK.out _ _ ⟨upk ha 16 hb rfl rfl, HI⟩)) ?_
          refine steps_cons (by rintro b a w' ⟨ha, HI⟩ hb hon hoff; refine ⟨_, rfl, fun K hK => ?_⟩; have e90 := pon ha 16 (hon 16 rfl) rfl rfl rfl; have e87 := pon ha 13 (hon 13 rfl) rfl rfl rfl; exact value_ (v := .pointer (some ⟨g, off + i * 11 + 8, none⟩)) (wanted_on (t := 87) (u := true) rfl rfl rfl e87) rfl (by clear HI ha; go_simp) (hK.out _ _ ⟨upk ha 17 hb rfl rfl, HI⟩)) ?_
          refine steps_cons (by rintro b a w' ⟨ha, HI⟩ hb hon hoff; refine ⟨_, rfl, fun K hK => ?_⟩; have e91 := pon ha 17 (hon 17 rfl) rfl rfl rfl; have e87 := pon ha 13 (hon 13 rfl) rfl rfl rfl; have k0_ := bc HI hgl u8; have kz_ := bz HI hgl; exact value_ (v := .int .i64 tg) (wanted_on (t := 87) (u := true) rfl rfl rfl e87) rfl (by clear HI ha; go_simp) (hK.out _ _ ⟨upk ha 18 hb rfl rfl, HI⟩)) ?_
          refine steps_cons (by rintro b a w' ⟨ha, HI⟩ hb hon hoff; refine ⟨_, rfl, fun K hK => ?_⟩; have e0 := poff ha (t := 0) rfl rfl; have e87 := pon ha 13 (hon 13 rfl) rfl rfl rfl; exact value_ (v := .slice (some ⟨g, off, none⟩) n cap) (wanted_on (t := 87) (u := true) rfl rfl rfl e87) rfl (by clear HI ha; go_simp) (hK.out _ _ ⟨upk ha 19 hb rfl rfl, HI⟩)) ?_
          refine steps_cons (by rintro b a w' ⟨ha, HI⟩ hb hon hoff; refine ⟨_, rfl, fun K hK => ?_⟩; have e7 := poff ha (t := 7) rfl rfl; have e87 := pon ha 13 (hon 13 rfl) rfl rfl rfl; exact value_ (v := .int .i64 i) (wanted_on (t := 87) (u := true) rfl rfl rfl e87) rfl (by clear HI ha; go_simp) (hK.out _ _ ⟨upk ha 20 hb rfl rfl, HI⟩)) ?_
          refine steps_cons (by rintro b a w' ⟨ha, HI⟩ hb hon hoff; refine ⟨_, rfl, fun K hK => ?_⟩; have e93 := pon ha 19 (hon 19 rfl) rfl rfl rfl; have e94 := pon ha 20 (hon 20 rfl) rfl rfl rfl; have e87 := pon ha 13 (hon 13 rfl) rfl rfl rfl; exact value_ (v := .pointer (some ⟨g, off + i * 11, none⟩)) (wanted_on (t := 87) (u := true) rfl rfl rfl e87) rfl (by clear HI ha; go_simp) (hK.out _ _ ⟨upk ha 21 hb rfl rfl, HI⟩)) ?_
          refine steps_cons (by rintro b a w' ⟨ha, HI⟩ hb hon hoff; refine ⟨_, rfl, fun K hK => ?_⟩; have e95 := pon ha 21 (hon 21 rfl) rfl rfl rfl; have e87 := pon ha 13 (hon 13 rfl) rfl rfl rfl; exact value_ (v := .pointer (some ⟨g, off + i * 11 + 1, none⟩)) (wanted_on (t := 87) (u := true) rfl rfl rfl e87) rfl (by clear HI ha; go_simp) (hK.out _ _ ⟨upk ha 22 hb rfl rfl, HI⟩)) ?_
          refine steps_cons (by rintro b a w' ⟨ha, HI⟩ hb hon hoff; refine ⟨_, rfl, fun K hK => ?_⟩; have e96 := pon ha 22 (hon 22 rfl) rfl rfl rfl; have e87 := pon ha 13 (hon 13 rfl) rfl rfl rfl; have k0_ := bc HI hgl u1; have kz_ := bz HI hgl; exact value_ (v := .int .i64 te) (wanted_on (t := 87) (u := true) rfl rfl rfl e87) rfl (by clear HI ha; go_simp) (hK.out _ _ ⟨upk ha 23 hb rfl rfl, HI⟩)) ?_
          refine steps_cons (by rintro b a w' ⟨ha, HI⟩ hb hon hoff; refine ⟨_, rfl, fun K hK => ?_⟩; have e92 := pon ha 18 (hon 18 rfl) rfl rfl rfl; have e97 := pon ha 23 (hon 23 rfl) rfl rfl rfl; have e87 := pon ha 13 (hon 13 rfl) rfl rfl rfl; exact value_ (v := .bool true) (wanted_on (t := 87) (u := true) rfl rfl rfl e87) rfl (by clear HI ha; go_simp) (hK.out _ _ ⟨upk ha 24 hb rfl rfl, HI⟩)) ?_
          refine steps_cons (by rintro b a w' ⟨ha, HI⟩ hb hon hoff; refine ⟨_, rfl, fun K hK => ?_⟩; have e87 := pon ha 13 (hon 13 rfl) rfl rfl rfl; have e98 := pon ha 24 (hon 24 rfl) rfl rfl rfl; exact value_ (v := .bool true) (by rfl) rfl (by clear HI ha; go_simp) (hK.out _ _ ⟨upk ha 25 hb rfl rfl, HI⟩)) ?_
          refine steps_cons (by rintro b a w' ⟨ha, HI⟩ hb hon hoff; refine ⟨_, rfl, fun K hK => ?_⟩; have e99 := pon ha 25 (hon 25 rfl) rfl rfl rfl; exact value_ (v := .bool true) (by rfl) rfl (by clear HI ha; go_simp) (hK.out _ _ ⟨upk ha 26 hb rfl rfl, HI⟩)) ?_
          refine steps_cons (by rintro b a w' ⟨ha, HI⟩ hb hon hoff; refine ⟨_, rfl, fun K hK => ?_⟩; have e8 := poff ha (t := 8) rfl rfl; have e100 := pon ha 26 (hon 26 rfl) rfl rfl rfl; have k0_ := bc HI hpl c0; have k1_ := bc HI hpl c1; have k2_ := bc HI hpl c2; have k3_ := bc HI hpl c3; have k4_ := bc HI hpl c4; have k5_ := bc HI hpl c5; have k6_ := bc HI hpl c6; have k7_ := bc HI hpl c7; have k8_ := bc HI hpl c8; have k9_ := bc HI hpl c9; have k10_ := bc HI hpl c10; have kz_ := bz HI hpl; exact value_ (v := .agg #[.int .i64 ti, .int .i64 te, .int .i64 tp, .bool tz, .bool tl, .bool tw, .bool true, .int .i64 tr, .int .i64 tg, .bool td, .int .i64 tc]) (wanted_on (t := 100) (u := true) rfl rfl rfl e100) rfl (by clear HI ha; go_simp) (hK.out _ _ ⟨upk ha 27 hb rfl rfl, HI⟩)) ?_
          refine steps_cons (by rintro b a w' ⟨ha, HI⟩ hb hon hoff; refine ⟨_, rfl, fun K hK => ?_⟩; have e101 := pon ha 27 (hon 27 rfl) rfl rfl rfl; have e100 := pon ha 26 (hon 26 rfl) rfl rfl rfl; refine goes_ Try.func12 (by kernel_rfl) rfl #[.agg #[.int .i64 ti, .int .i64 te, .int .i64 tp, .bool tz, .bool tl, .bool tw, .bool true, .int .i64 tr, .int .i64 tg, .bool td, .int .i64 tc]] (wanted_on (t := 100) (u := true) rfl rfl rfl e100) rfl rfl (by simp [Act.eval, e101, e100]) ((PR w').out.mono ?_); rintro e_ w'' ⟨rfl, hbc⟩; exact ⟨_, rfl, hK.out _ _ ⟨upk ha 28 hb rfl rfl, below_then HI HI.size hbc⟩⟩) ?_
          refine steps_cons (by rintro b a w' ⟨ha, HI⟩ hb hon hoff; refine ⟨_, rfl, fun K hK => ?_⟩; have e0 := poff ha (t := 0) rfl rfl; have e100 := pon ha 26 (hon 26 rfl) rfl rfl rfl; exact value_ (v := .slice (some ⟨g, off, none⟩) n cap) (wanted_on (t := 100) (u := true) rfl rfl rfl e100) rfl (by clear HI ha; go_simp) (hK.out _ _ ⟨upk ha 29 hb rfl rfl, HI⟩)) ?_
          refine steps_cons (by rintro b a w' ⟨ha, HI⟩ hb hon hoff; refine ⟨_, rfl, fun K hK => ?_⟩; have e7 := poff ha (t := 7) rfl rfl; have e100 := pon ha 26 (hon 26 rfl) rfl rfl rfl; exact value_ (v := .int .i64 i) (wanted_on (t := 100) (u := true) rfl rfl rfl e100) rfl (by clear HI ha; go_simp) (hK.out _ _ ⟨upk ha 30 hb rfl rfl, HI⟩)) ?_
          refine steps_cons (by rintro b a w' ⟨ha, HI⟩ hb hon hoff; refine ⟨_, rfl, fun K hK => ?_⟩; have e103 := pon ha 29 (hon 29 rfl) rfl rfl rfl; have e104 := pon ha 30 (hon 30 rfl) rfl rfl rfl; have e100 := pon ha 26 (hon 26 rfl) rfl rfl rfl; exact value_ (v := .pointer (some ⟨g, off + i * 11, none⟩)) (wanted_on (t := 100) (u := true) rfl rfl rfl e100) rfl (by clear HI ha; go_simp) (hK.out _ _ ⟨upk ha 31 hb rfl rfl, HI⟩)) ?_
          refine steps_cons (by rintro b a w' ⟨ha, HI⟩ hb hon hoff; refine ⟨_, rfl, fun K hK => ?_⟩; have e105 := pon ha 31 (hon 31 rfl) rfl rfl rfl; have e100 := pon ha 26 (hon 26 rfl) rfl rfl rfl; have k0_ := bc HI hgl u0; have k1_ := bc HI hgl u1; have k2_ := bc HI hgl u2; have k3_ := bc HI hgl u3; have k4_ := bc HI hgl u4; have k5_ := bc HI hgl u5; have k6_ := bc HI hgl u6; have k7_ := bc HI hgl u7; have k8_ := bc HI hgl u8; have k9_ := bc HI hgl u9; have k10_ := bc HI hgl u10; have kz_ := bz HI hgl; exact value_ (v := .agg #[.int .i64 ti, .int .i64 te, .int .i64 tp, .bool tz, .bool tl, .bool tw, .bool true, .int .i64 tr, .int .i64 tg, .bool td, .int .i64 tc]) (wanted_on (t := 100) (u := true) rfl rfl rfl e100) rfl (by clear HI ha; go_simp) (hK.out _ _ ⟨upk ha 32 hb rfl rfl, HI⟩)) ?_
          refine steps_cons (by rintro b a w' ⟨ha, HI⟩ hb hon hoff; refine ⟨_, rfl, fun K hK => ?_⟩; have e106 := pon ha 32 (hon 32 rfl) rfl rfl rfl; have e100 := pon ha 26 (hon 26 rfl) rfl rfl rfl; refine goes_ Try.func14 (by kernel_rfl) rfl #[.agg #[.int .i64 ti, .int .i64 te, .int .i64 tp, .bool tz, .bool tl, .bool tw, .bool true, .int .i64 tr, .int .i64 tg, .bool td, .int .i64 tc]] (wanted_on (t := 100) (u := true) rfl rfl rfl e100) rfl rfl (by simp [Act.eval, e106, e100]) ((RR w').out.mono ?_); rintro e_ w'' ⟨rfl, hbc⟩; exact ⟨_, rfl, hK.out _ _ ⟨upk ha 33 hb rfl rfl, below_then HI HI.size hbc⟩⟩) ?_
          refine steps_cons (by rintro b a w' ⟨ha, HI⟩ hb hon hoff; refine ⟨_, rfl, fun K hK => ?_⟩; have e107 := pon ha 33 (hon 33 rfl) rfl rfl rfl; have e100 := pon ha 26 (hon 26 rfl) rfl rfl rfl; refine goes_ Try.func13 (by kernel_rfl) rfl #[.agg #[.int .i64 d1, .int .i64 b1, .int .i64 g1, .int .i64 i1]] (wanted_on (t := 100) (u := true) rfl rfl rfl e100) rfl rfl (by simp [Act.eval, e107, e100]) ((MM w').out.mono ?_); rintro e_ w'' ⟨rfl, hbc⟩; exact ⟨_, rfl, hK.out _ _ ⟨upk ha 34 hb rfl rfl, below_then HI HI.size hbc⟩⟩) ?_
          refine steps_cons (by rintro b a w' ⟨ha, HI⟩ hb hon hoff; refine ⟨_, rfl, fun K hK => ?_⟩; have e102 := pon ha 28 (hon 28 rfl) rfl rfl rfl; have e108 := pon ha 34 (hon 34 rfl) rfl rfl rfl; have e100 := pon ha 26 (hon 26 rfl) rfl rfl rfl; exact value_ (v := .bool false) (wanted_on (t := 100) (u := true) rfl rfl rfl e100) rfl (by clear HI ha; go_simp) (hK.out _ _ ⟨upk ha 35 hb rfl rfl, HI⟩)) ?_
          refine steps_cons (by rintro b a w' ⟨ha, HI⟩ hb hon hoff; refine ⟨_, rfl, fun K hK => ?_⟩; have e100 := pon ha 26 (hon 26 rfl) rfl rfl rfl; have e109 := pon ha 35 (hon 35 rfl) rfl rfl rfl; exact value_ (v := .bool false) (by rfl) rfl (by clear HI ha; go_simp) (hK.out _ _ ⟨upk ha 36 hb rfl rfl, HI⟩)) ?_
          exact steps_nil
        · rintro b a w' hall ⟨ha, HI⟩
          have hb0_ := hall 0 rfl; have hb1_ := hall 1 rfl; have hb2_ := hall 2 rfl; have hb3_ := hall 3 rfl; have hb4_ := hall 4 rfl; have hb5_ := hall 5 rfl; have hb6_ := hall 6 rfl; have hb7_ := hall 7 rfl
          have hb8_ := hall 8 rfl; have hb9_ := hall 9 rfl; have hb10_ := hall 10 rfl; have hb11_ := hall 11 rfl; have hb12_ := hall 12 rfl; have hb13_ := hall 13 rfl; have hb14_ := hall 14 rfl; have hb15_ := hall 15 rfl
          have hb16_ := hall 16 rfl; have hb17_ := hall 17 rfl; have hb18_ := hall 18 rfl; have hb19_ := hall 19 rfl; have hb20_ := hall 20 rfl; have hb21_ := hall 21 rfl; have hb22_ := hall 22 rfl; have hb23_ := hall 23 rfl
          have hb24_ := hall 24 rfl; have hb25_ := hall 25 rfl; have hb26_ := hall 26 rfl; have hb27_ := hall 27 rfl; have hb28_ := hall 28 rfl; have hb29_ := hall 29 rfl; have hb30_ := hall 30 rfl; have hb31_ := hall 31 rfl
          have hb32_ := hall 32 rfl; have hb33_ := hall 33 rfl; have hb34_ := hall 34 rfl; have hb35_ := hall 35 rfl; have hb36_ := hall 36 rfl
          subst ha
          simp only [putSel, hb0_, hb1_, hb2_, hb3_, hb4_, hb5_, hb6_, hb7_, hb8_, hb9_, hb10_, hb11_, hb12_, hb13_, hb14_, hb15_, hb16_, hb17_, hb18_, hb19_, hb20_, hb21_, hb22_, hb23_, hb24_, hb25_, hb26_, hb27_, hb28_, hb29_, hb30_, hb31_, hb32_, hb33_, hb34_, hb35_, hb36_, if_true, Act.put, List.setIfInBounds_toArray, List.set_cons_zero, List.set_cons_succ]
          have hB := (below_then (below_drew (Below.refl _ w5)) (Nat.le_refl _) HI : Below w5.heap.size w5 w')
          clear hall HI hb0_ hb1_ hb2_ hb3_ hb4_ hb5_ hb6_ hb7_ hb8_ hb9_ hb10_ hb11_ hb12_ hb13_ hb14_ hb15_ hb16_ hb17_ hb18_ hb19_ hb20_ hb21_ hb22_ hb23_ hb24_ hb25_ hb26_ hb27_ hb28_ hb29_ hb30_ hb31_ hb32_ hb33_ hb34_ hb35_ hb36_
          refine ‹∀ (a' : Act) (w' : World), Met _ a' w' → _› _ _ ?_
          go_meet
          case rel => exact ⟨rfl, ⟨hB⟩⟩
      case rest =>
      obtain ⟨rfl, HC⟩ := hcut
      have HB5 : Side (Below w.heap.size w wc ∧ Val wc 23 w.heap.size [.int .i64 c, .int .i64 kk]) := ⟨below_then HB4.out.1 HB4.out.1.size HC.out, HB4.out.2.below HC.out⟩
      clear HC HB4 HQ4 V4
      go_step
      go_wp2
      go_roundw
      case rel => exact ⟨i + 1, by simp, by omega, HP2, HB5⟩
      case measure => simp [intOf]; omega
    · have hii : ¬ (i : Int) < n := by omega
      obtain rfl : i = n := by omega
      clear hlt hi
      have HFI : Side (∀ j, j < i → Fit (PkB.at_ ts j)) := ⟨fun j hj => (HW.out j hj).fit (HP.out j hj).1 (HP.out j hj).2⟩
      clear HP
      go_upto_region 15 with (fail)
      have k0 : wp.cell? ⟨w.heap.size, 0, none⟩ = some (.int .i64 c) := HB.out.2.cell 0 _ rfl
      have k1 : wp.cell? ⟨w.heap.size, 1, none⟩ = some (.int .i64 kk) := HB.out.2.cell 1 _ rfl
      have hnl := HB.out.2.lt
      have hni : i ≤ 60 := by omega
      obtain ⟨S, hS⟩ : ∃ S, S = ids (PkB.at_ ts) i c kk.toNat y := ⟨_, rfl⟩
      have RW := Side.mk (fun w' (hb : Below wp.drew.heap.size wp.drew w') => Rows_n ad cap i ts w' (HQ.out.below (below_then HB.out.1 HB.out.1.size (below_then (below_drew (Below.refl _ wp)) (Nat.le_refl _) hb : Below wp.heap.size wp w'))) HLN.out (by omega))
      have BW := Side.mk (fun v B w' (hr : TRow w' B v ts) => hS ▸ Best_v v i ts c kk y B w' hr HLN.out (by omega) HFI.out (fun j hj => (HW.out j hj).id))
      go_cut [9] (fun v we => Side (Below wp.heap.size wp we ∧ IRow we wp.heap.size v S))
      case first =>
        clear HQ HW HFI HB HLN
        refine start_ (n := 9) (S := fun w' => True) (ds := []) #[false, false, false, false, false, false, false, false, false] (by kernel_rfl) rfl rfl trivial (fun _ => ?_)
        refine inv_at (B := [0, 1, 0, 4, 0, 16, 0, 127, 255]) [0, 1, 2, 3, 4, 5, 6, 7, 8] (fun a0_ b a w' => ∃ va_ vb_ vc_, a = putSel a0_ b [(0, 111, .slice ad i cap), (1, 112, va_), (2, 113, .pointer (some ⟨w.heap.size, 0, none⟩)), (3, 114, .int .i64 c), (4, 115, .pointer (some ⟨w.heap.size, 1, none⟩)), (5, 116, .int .i64 kk), (6, 117, .bool y), (7, 118, vb_), (8, 9, vc_)] ∧ R15 wp.drew ts S va_ vb_ vc_ b w') rfl (by kernel_rfl) (by kernel_rfl) (by kernel_rfl) ?_ ?_ ?_
        · exact ⟨.bool false, .bool false, .bool false, by simp only [putSel, Bool.false_eq_true, if_false], R15.start⟩
        · refine steps_cons (by rintro b a w' ⟨va_, vb_, vc_, ha, HI⟩ hb hon hoff; refine ⟨_, rfl, fun K hK => ?_⟩; have e0 := poff ha (t := 0) rfl rfl; exact value_ (v := .slice ad i cap) (by rfl) rfl (by clear HI ha; go_simp) (hK.out _ _ ⟨va_, vb_, vc_, upk ha 0 hb rfl rfl, HI.low 0 (by decide)⟩)) ?_
          refine steps_cons (by rintro b a w' ⟨va_, vb_, vc_, ha, HI⟩ hb hon hoff; refine ⟨_, rfl, fun K hK => ?_⟩; have e111 := pon ha 0 (hon 0 rfl) rfl rfl rfl; refine goes_ Try.func16 (by kernel_rfl) rfl #[.slice ad i cap] (by rfl) rfl rfl (by simp [Act.eval, e111]) ((RW.out w' HI.bel).mono ?_); rintro e_ w'' ⟨v', rfl, hr_, hbc⟩; exact ⟨_, rfl, hK.out _ _ ⟨v', vb_, vc_, by rw [ha]; exact putSel_upk 1 hb rfl rfl rfl, HI.rows (hoff 7 rfl) (hoff 8 rfl) hr_ hbc⟩⟩) ?_
          refine steps_cons (by rintro b a w' ⟨va_, vb_, vc_, ha, HI⟩ hb hon hoff; refine ⟨_, rfl, fun K hK => ?_⟩; have e4 := poff ha (t := 4) rfl rfl; exact value_ (v := .pointer (some ⟨w.heap.size, 0, none⟩)) (by rfl) rfl (by clear HI ha; go_simp) (hK.out _ _ ⟨va_, vb_, vc_, upk ha 2 hb rfl rfl, HI.low 2 (by decide)⟩)) ?_
          refine steps_cons (by rintro b a w' ⟨va_, vb_, vc_, ha, HI⟩ hb hon hoff; refine ⟨_, rfl, fun K hK => ?_⟩; have e113 := pon ha 2 (hon 2 rfl) rfl rfl rfl; have k0_ := bc HI.bel hnl k0; have kz_ := bz HI.bel hnl; exact value_ (v := .int .i64 c) (by rfl) rfl (by clear HI ha; go_simp) (hK.out _ _ ⟨va_, vb_, vc_, upk ha 3 hb rfl rfl, HI.low 3 (by decide)⟩)) ?_
          refine steps_cons (by rintro b a w' ⟨va_, vb_, vc_, ha, HI⟩ hb hon hoff; refine ⟨_, rfl, fun K hK => ?_⟩; have e4 := poff ha (t := 4) rfl rfl; exact value_ (v := .pointer (some ⟨w.heap.size, 1, none⟩)) (by rfl) rfl (by clear HI ha; go_simp) (hK.out _ _ ⟨va_, vb_, vc_, upk ha 4 hb rfl rfl, HI.low 4 (by decide)⟩)) ?_
          refine steps_cons (by rintro b a w' ⟨va_, vb_, vc_, ha, HI⟩ hb hon hoff; refine ⟨_, rfl, fun K hK => ?_⟩; have e115 := pon ha 4 (hon 4 rfl) rfl rfl rfl; have k0_ := bc HI.bel hnl k1; have kz_ := bz HI.bel hnl; exact value_ (v := .int .i64 kk) (by rfl) rfl (by clear HI ha; go_simp) (hK.out _ _ ⟨va_, vb_, vc_, upk ha 5 hb rfl rfl, HI.low 5 (by decide)⟩)) ?_
          refine steps_cons (by rintro b a w' ⟨va_, vb_, vc_, ha, HI⟩ hb hon hoff; refine ⟨_, rfl, fun K hK => ?_⟩; have e2 := poff ha (t := 2) rfl rfl; exact value_ (v := .bool y) (by rfl) rfl (by clear HI ha; go_simp) (hK.out _ _ ⟨va_, vb_, vc_, upk ha 6 hb rfl rfl, HI.low 6 (by decide)⟩)) ?_
          refine steps_cons (by rintro b a w' ⟨va_, vb_, vc_, ha, HI⟩ hb hon hoff; refine ⟨_, rfl, fun K hK => ?_⟩; have e112 := pon ha 1 (hon 1 rfl) rfl rfl rfl; have e114 := pon ha 3 (hon 3 rfl) rfl rfl rfl; have e116 := pon ha 5 (hon 5 rfl) rfl rfl rfl; have e117 := pon ha 6 (hon 6 rfl) rfl rfl rfl; refine goes_ Try.func15 (by kernel_rfl) rfl #[va_, .int .i64 c, .int .i64 kk, .bool y] (by rfl) rfl rfl (by simp [Act.eval, e112, e114, e116, e117]) ((BW.out va_ _ w' (HI.r (hon 1 rfl))).mono ?_); rintro e_ w'' ⟨v', rfl, hr_, hbc⟩; exact ⟨_, rfl, hK.out _ _ ⟨va_, v', vc_, by rw [ha]; exact putSel_upk 7 hb rfl rfl rfl, HI.best (hoff 8 rfl) hr_ hbc⟩⟩) ?_
          refine steps_cons (by rintro b a w' ⟨va_, vb_, vc_, ha, HI⟩ hb hon hoff; refine ⟨_, rfl, fun K hK => ?_⟩; have e118 := pon ha 7 (hon 7 rfl) rfl rfl rfl; exact value_ (w1 := w') (v := vb_) (by rfl) rfl (by clear HI ha; go_simp) (hK.out _ _ ⟨va_, vb_, vb_, by rw [ha]; exact putSel_upk 8 hb rfl rfl rfl, HI.last⟩)) ?_
          exact steps_nil
        · rintro b a w' hall ⟨va_, vb_, vc_, ha, HI⟩
          have hb0_ := hall 0 rfl; have hb1_ := hall 1 rfl; have hb2_ := hall 2 rfl; have hb3_ := hall 3 rfl; have hb4_ := hall 4 rfl; have hb5_ := hall 5 rfl; have hb6_ := hall 6 rfl; have hb7_ := hall 7 rfl
          have hb8_ := hall 8 rfl
          subst ha
          simp only [putSel, hb0_, hb1_, hb2_, hb3_, hb4_, hb5_, hb6_, hb7_, hb8_, if_true, Act.put, List.setIfInBounds_toArray, List.set_cons_zero, List.set_cons_succ]
          have hr := HI.s hb7_
          rw [← HI.e hb8_] at hr
          have hB := (below_then (below_drew (Below.refl _ wp)) (Nat.le_refl _) HI.bel : Below wp.heap.size wp w')
          clear hall HI hb0_ hb1_ hb2_ hb3_ hb4_ hb5_ hb6_ hb7_ hb8_
          refine ‹∀ (a' : Act) (w' : World), Met _ a' w' → _› _ _ ?_
          go_meet
          case rel => exact ⟨hB, hr⟩
      case rest =>
      obtain ⟨w6, hw6⟩ : ∃ w6 : World, w6 = wc := ⟨_, rfl⟩
      rw [← hw6] at hcut ⊢
      clear hw6
      have HB6 : Side (Below w.heap.size w w6 ∧ Val w6 23 w.heap.size [.int .i64 c, .int .i64 kk] ∧ IRow w6 wp.heap.size _ S) := ⟨below_then HB.out.1 HB.out.1.size hcut.out.1, HB.out.2.below hcut.out.1, hcut.out.2⟩
      have hss : S.length ≤ 60 := by
        have := ids_len (PkB.at_ ts) i c kk.toNat y
        rw [← hS] at this
        omega
      clear HB hcut RW BW k0 k1 hnl
      obtain ⟨a9, c9, rfl, -, -⟩ := HB6.out.2.2.shape E1
      have k0 : w6.cell? ⟨w.heap.size, 0, none⟩ = some (.int .i64 c) := HB6.out.2.1.cell 0 _ rfl
      have k1 : w6.cell? ⟨w.heap.size, 1, none⟩ = some (.int .i64 kk) := HB6.out.2.1.cell 1 _ rfl
      have hnl := HB6.out.2.1.lt
      have RB := RBest_at ad i cap ts c kk y w6 (HQ.out.below HB6.out.1) HLN.out (by omega) (by omega) (by omega) (by omega) HFI.out
      rw [← hS] at RB
      clear hS
      go_step
      go_wp2_with fail
      refine RB.mono ?_
      rintro e w7 ⟨v7, rfl, hr7, hb7⟩
      have HB7 : Side (Below w.heap.size w w7 ∧ IRow w7 wp.heap.size (.slice a9 S.length c9) S ∧ IRow w7 w6.heap.size v7 S) := ⟨below_then HB6.out.1 HB6.out.1.size hb7, GRow.below HB6.out.2.2 hb7, hr7⟩
      clear hr7 hb7 HB6 k0 k1 hnl RB
      obtain ⟨a7, c7, rfl, -, -⟩ := HB7.out.2.2.shape E1
      go_wp2_with fail
      go_loopw [11] (fun v11 wr => ∃ k : Nat, v11 = .int .i64 (k : Int) ∧ k ≤ S.length ∧ Side (Below w.heap.size w wr ∧ IRow wr wp.heap.size (.slice a9 S.length c9) S ∧ IRow wr w6.heap.size (.slice a7 S.length c7) S)) (fun v11 _ => (S.length - intOf v11).toNat)
      case atStart => exact ⟨0, rfl, Nat.zero_le _, HB7⟩
      case round =>
        clear HB7
        obtain ⟨k, rfl, hk, HB⟩ := hrel
        have hk0 : (0 : Int) ≤ k := by omega
        obtain ⟨wq, hwq⟩ : ∃ wq : World, wq = wr := ⟨_, rfl⟩
        rw [← hwq] at HB ⊢
        clear hwq
        by_cases hklt : k < S.length
        · have hkk : (k : Int) < S.length := by omega
          have hk1 : (k : Int) + 1 ≤ 9223372036854775807 := by omega
          obtain ⟨x, hx⟩ : ∃ x, S[k]? = some x := ⟨_, List.getElem?_eq_getElem hklt⟩
          obtain ⟨g5, rfl, hg5, -, x5⟩ := IRow.get HB.out.2.2 k x hx
          obtain ⟨g4, rfl, hg4, -, x4⟩ := IRow.get HB.out.2.1 k x hx
          clear hx
          go_upto_region 22 with (fail)
          go_quiet (fail)
          clear x5 x4 hg5 hg4
          go_wp2
          go_roundw
          case rel => exact ⟨k + 1, by simp, by omega, ⟨(by (repeat (with_reducible first | exact HB.out.1 | apply below_drewN | apply below_drew))), HB.out.2⟩⟩
          case measure => simp [intOf]; omega
        · have hkk : ¬ (k : Int) < S.length := by omega
          go_wp2
          go_ret
          exact ⟨rfl, HB.out.1⟩
end Go.Proofs.Yticcgmlgiijjnaa.PkL
