/- Package pick, fourth text: rows of the reference's tasks; Made, Rows; awake. No condition. -/
import Derived.Test.YticcgmlgiijjnaaPkC
import Derived.Test.YticcgmlgiijjnaaKit2
set_option linter.unusedVariables false
set_option linter.unusedSimpArgs false
namespace Go.Proofs.Yticcgmlgiijjnaa.PkD
open Go.RowKit Go.Proofs.Yticcgmlgiijjnaa.Kit Go.Proofs.Yticcgmlgiijjnaa.Kit2 Go.Proofs.Yticcgmlgiijjnaa.Kit3 Go.Proofs.Yticcgmlgiijjnaa.Kit4 Go.Proofs.Yticcgmlgiijjnaa.Kit5 HpPlain Go.Maps EvPlain Go.Proofs.Yticcgmlgiijjnaa.HpA Go.Proofs.Yticcgmlgiijjnaa.HpB Go.Proofs.Yticcgmlgiijjnaa.HpK Go.Proofs.Yticcgmlgiijjnaa.Win Go.Proofs.Yticcgmlgiijjnaa.Rank Go.Proofs.Yticcgmlgiijjnaa.Cmp Go.Proofs.Yticcgmlgiijjnaa.PkPlain Go.Proofs.Yticcgmlgiijjnaa.PkA Go.Proofs.Yticcgmlgiijjnaa.PkB Go.Proofs.Yticcgmlgiijjnaa.PkC
open Go.Proofs.YticcgmlgiijjnaaW.PrintLast
/-- A row of the reference's tasks, to be read. -/
structure QRow (W : World) (a : Option Addr) (ts : List Tk) : Prop where
  get : ∀ j, j < ts.length → ∃ g off, a = some ⟨g, off, none⟩ ∧ g < W.heap.size ∧ ∀ r u, (tcl (PkB.at_ ts j))[r]? = some u → W.cell? ⟨g, off + j * 11 + r, none⟩ = some u
theorem QRow.below {W w : World} {a : Option Addr} {ts : List Tk} (h : QRow W a ts) (hb : Below W.heap.size W w) : QRow w a ts := by
  refine ⟨fun j hj => ?_⟩
  obtain ⟨g, off, h1, h2, h3⟩ := h.get j hj
  exact ⟨g, off, h1, Nat.lt_of_lt_of_le h2 hb.size, fun r u hr => ((bcell hb).1 _ _ h2).trans (h3 r u hr)⟩
theorem E11' : El 11 tcl := E11
theorem infoT : (Try.prog.info? 27).map (fun i => (i.zero, i.size, i.bytes)) = some (some (tv ⟨0, 0, 0, false, false, false, false, 0, 0, false, 0⟩), 11, 64) := by kernel_rfl
set_option maxHeartbeats 4000000 in
set_option maxRecDepth 100000 in
theorem TMade_at (t : Tk) (w : World) : Calls Try.prog 9 #[tv t] w fun r w' => r = .returned (tv t) ∧ Below w.heap.size w w' := by
  obtain ⟨id, e, p, s, l, wt, a, r, g, d, c⟩ := t
  go_enter Try.func9, Try.ntmps9
  go_wp2
  exact bodyPost_ret (v := tv ⟨id, e, p, s, l, wt, a, r, g, d, c⟩) (by simp [results, Try.results9, go_sem]) rfl ⟨rfl, by (repeat (with_reducible first | exact Below.refl _ _ | apply below_drewN | apply below_drew | apply below_alloc | refine Below.setCell ?_ ?_ _)) <;> simp⟩
set_option maxHeartbeats 4000000 in
set_option maxRecDepth 100000 in
theorem Rows_at (a : Option Addr) (cap : Nat) (ts : List Tk) (w : World) (hrow : QRow w a ts) (hl : ts.length ≤ 1000) :
    Calls Try.prog 16 #[.slice a ts.length cap] w fun r w' => ∃ v, r = .returned v ∧ TRow w' w.heap.size v ts ∧ Below w.heap.size w w' := by
  have HROW := Side.mk hrow
  clear hrow
  go_enter Try.func16, Try.ntmps16
  go_wp2_with fail
  go_loopw [3, 4] (fun v3 v4 wr => ∃ i : Nat, v4 = .int .i64 (i : Int) ∧ i ≤ ts.length ∧ Side (TRow wr w.heap.size v3 (ts.take i) ∧ Below w.heap.size w wr)) (fun _ v4 _ => (ts.length - intOf v4).toNat)
  case atStart => exact ⟨0, rfl, Nat.zero_le _, ⟨by simp; exact GRow.nil _ _, Below.refl _ _⟩⟩
  case round =>
    obtain ⟨i, rfl, hi, HA⟩ := hrel
    have hi0 : (0 : Int) ≤ i := by omega
    obtain ⟨wp, hwp⟩ : ∃ wp : World, wp = wr := ⟨_, rfl⟩
    rw [← hwp] at HA ⊢
    clear hwp
    obtain ⟨a3, c3, rfl, -, -⟩ := HA.out.1.shape E11
    have htl : (ts.take i).length = i := by simp; omega
    rw [htl] at HA ⊢
    by_cases hlt : i < ts.length
    · have hii : (i : Int) < ts.length := by omega
      have hi1 : (i : Int) + 1 ≤ 9223372036854775807 := by omega
      obtain ⟨g, off, rfl, hgl, hc⟩ := (HROW.out.below HA.out.2).get i hlt
      have HTK : Side (ts.take (i + 1) = ts.take i ++ [PkB.at_ ts i]) := ⟨by
        rw [List.take_add_one, at_lt hlt]; rfl⟩
      obtain ⟨t, ht⟩ : ∃ t, t = PkB.at_ ts i := ⟨_, rfl⟩
      rw [← ht] at hc HTK
      clear ht
      have MD := fun w => Side.mk (TMade_at t w)
      have u0 : wp.cell? ⟨g, off + i * 11, none⟩ = some (.int .i64 t.id) := hc 0 _ rfl
      have u1 : wp.cell? ⟨g, off + i * 11 + 1, none⟩ = some (.int .i64 t.e) := hc 1 _ rfl
      have u2 : wp.cell? ⟨g, off + i * 11 + 2, none⟩ = some (.int .i64 t.p) := hc 2 _ rfl
      have u3 : wp.cell? ⟨g, off + i * 11 + 3, none⟩ = some (.bool t.s) := hc 3 _ rfl
      have u4 : wp.cell? ⟨g, off + i * 11 + 4, none⟩ = some (.bool t.l) := hc 4 _ rfl
      have u5 : wp.cell? ⟨g, off + i * 11 + 5, none⟩ = some (.bool t.wt) := hc 5 _ rfl
      have u6 : wp.cell? ⟨g, off + i * 11 + 6, none⟩ = some (.bool t.a) := hc 6 _ rfl
      have u7 : wp.cell? ⟨g, off + i * 11 + 7, none⟩ = some (.int .i64 t.r) := hc 7 _ rfl
      have u8 : wp.cell? ⟨g, off + i * 11 + 8, none⟩ = some (.int .i64 t.g) := hc 8 _ rfl
      have u9 : wp.cell? ⟨g, off + i * 11 + 9, none⟩ = some (.bool t.d) := hc 9 _ rfl
      have u10 : wp.cell? ⟨g, off + i * 11 + 10, none⟩ = some (.int .i64 t.c) := hc 10 _ rfl
      clear hc
      go_wp2_with fail
      refine (MD _).out.mono ?_
      rintro e w7 ⟨rfl, hb7⟩
      have R7 : Side (TRow w7 w.heap.size (.slice a3 i c3) (ts.take i) ∧ Below w.heap.size w w7) := ⟨GRow.below HA.out.1 hb7, below_then HA.out.2 HA.out.2.size hb7⟩
      clear hb7 HA u0 u1 u2 u3 u4 u5 u6 u7 u8 u9 u10 hgl MD
      go_wp2_with (at_builtin; refine wpList_gapp E11' Try.underlying39 infoT rfl (by decide) rfl _ _ rfl w.heap.size _ (ts.take i) rfl ?c1 ⟨w7.heap.size, 0, none⟩ 1 [t] rfl ?c2 ?c3 ?c4 ?c5)
      case c1 => exact GRow.below R7.out.1 (by (repeat (with_reducible first | exact Below.refl _ _ | apply below_drewN | apply below_drew | apply below_alloc)))
      case c2 =>
        intro r x hx k u hu
        rcases r with _ | r
        · simp at hx
          subst hx
          rw [show (⟨w7.heap.size, 0, none⟩ : Addr).add (0 * 11 + k) = ⟨w7.heap.size, k, none⟩ by simp [Addr.add]; omega]
          refine (World.cell?_alloc_at _ _ _ _ rfl).trans ?_
          simpa [tcl] using hu
        · simp at hx
      case c3 => simp; omega
      case c4 => have := R7.out.2.size; simp; omega
      case c5 =>
        intro v' w8 hrow hgr hat
        have HN : Side (TRow w8 w.heap.size v' (ts.take (i + 1)) ∧ Below w.heap.size w w8) := ⟨by
          rw [HTK.out]
          refine ⟨hrow, ?_⟩
          have hb := Kit5.Chg.of_grown hgr
          exact (below_then R7.out.2 R7.out.2.size ((Below.refl _ _).alloc (Nat.le_refl _) _)).trans (Chg.below hb (by have := R7.out.2.size; simp; omega) (fun k hk => GRow.base R7.out.1 k hk.symm))⟩
        clear hrow hgr hat R7 HTK
        go_wp2
        go_roundw
        case rel => exact ⟨i + 1, by simp, by omega, HN⟩
        case measure => simp [intOf]; omega
    · have hii : ¬ (i : Int) < ts.length := by omega
      obtain rfl : i = ts.length := by omega
      rw [List.take_length] at *
      go_wp2
      go_ret
      exact ⟨_, rfl, HA.out.1, HA.out.2⟩
def ta : Tk := ⟨1, 1, 5, false, false, false, true, 0, 0, false, 0⟩
def tb : Tk := ⟨2, 1, 3, false, false, false, true, 0, 0, false, 0⟩
theorem ab_ids : ids (PkB.at_ [ta, tb]) 2 0 (1 : Int).toNat false = [2] ∧ can ta 0 false = true ∧ can ta (-1) true = false := by decide +kernel
theorem ta_fit : Fit ta := ⟨by decide, by decide, by decide, by decide⟩
theorem tb_fit : Fit tb := ⟨by decide, by decide, by decide, by decide⟩
theorem ab_fit (i : Nat) (h : i < [ta, tb].length) : Fit (PkB.at_ [ta, tb] i) := by
  rcases i with _ | _ | i
  · exact ta_fit
  · exact tb_fit
  · simp at h; omega
theorem ab_wf (i : Nat) (h : i < [ta, tb].length) : (kv (PkB.at_ [ta, tb] i).id).wf = true := by
  rcases i with _ | _ | i
  · decide
  · decide
  · simp at h; omega
theorem IRow.get {w : World} {B n cap : Nat} {a : Option Addr} {xs : List Int} (h : IRow w B (.slice a n cap) xs) (j : Nat) (x : Int) (hx : xs[j]? = some x) : ∃ g, a = some ⟨g, 0, none⟩ ∧ g < w.heap.size ∧ n = xs.length ∧ w.cell? ⟨g, j, none⟩ = some (.int .i64 x) := by
  obtain ⟨g, rfl, _, hg, hn, _, hc⟩ := GRow.get E1 h (by rintro rfl; simp at hx)
  have := hc j x hx 0 _ rfl
  rw [Nat.mul_one] at this
  exact ⟨g, rfl, hg, hn, this⟩
set_option maxHeartbeats 4000000 in
set_option maxRecDepth 100000 in
theorem awake_at (w : World) : Calls Try.prog 8 #[] w fun r w' => r = .returned (.bool true) ∧ Below w.heap.size w w' := by
  have HI := Side.mk ab_ids
  go_enter Try.func8, Try.ntmps8
  go_upto_region 2 with (fail)
  obtain ⟨g, hg⟩ : ∃ g, g = w.heap.size := ⟨_, rfl⟩
  obtain ⟨W1, hW1⟩ : ∃ W1, W1 = w.alloc (.cells #[.int .i64 1, .int .i64 1, .int .i64 5, .bool false, .bool false, .bool false, .bool true, .int .i64 0, .int .i64 0, .bool false, .int .i64 0, .int .i64 2, .int .i64 1, .int .i64 3, .bool false, .bool false, .bool false, .bool true, .int .i64 0, .int .i64 0, .bool false, .int .i64 0] 26) := ⟨_, rfl⟩
  have HB1 : Side (Below w.heap.size w W1) := ⟨by rw [hW1]; exact (Below.refl _ _).alloc (Nat.le_refl _) _⟩
  have HQ : Side (QRow W1 (some ⟨g, 0, none⟩) [ta, tb]) := ⟨⟨fun j hj => ⟨g, 0, rfl, by rw [hW1, hg]; simp, fun r u hr => by
    rw [hW1, hg]
    refine (World.cell?_alloc_at _ _ _ _ rfl).trans ?_
    rcases j with _ | _ | j
    · match r, hr with
      | 0, hr | 1, hr | 2, hr | 3, hr | 4, hr | 5, hr | 6, hr | 7, hr | 8, hr | 9, hr | 10, hr => exact hr
      | r + 11, hr => exact absurd hr (by simp [tcl])
    · match r, hr with
      | 0, hr | 1, hr | 2, hr | 3, hr | 4, hr | 5, hr | 6, hr | 7, hr | 8, hr | 9, hr | 10, hr => exact hr
      | r + 11, hr => exact absurd hr (by simp [tcl])
    · simp at hj; omega⟩⟩⟩
  rw [← hW1, ← hg]
  clear hW1 hg
  go_wp2_with fail
  refine (Rows_at _ 2 [ta, tb] _ HQ.out (by simp)).mono ?_
  rintro e w2 ⟨v, rfl, hr2, hb2⟩
  have HQ2 := Side.mk (HQ.out.below hb2)
  have HB2 := Side.mk (below_then HB1.out HB1.out.size hb2)
  obtain ⟨a2, c2, rfl, -, -⟩ := hr2.shape E11
  have HR2 := Side.mk hr2
  clear hr2 hb2 HQ HB1
  go_wp2_with fail
  refine (Best_at _ _ _ [ta, tb] 0 1 false _ (GRow.lower HR2.out (Nat.zero_le _)) (by simp) ab_fit ab_wf).mono ?_
  rintro e w3 ⟨v, rfl, hr3, hb3⟩
  rw [show [ta, tb].length = 2 from rfl, HI.out.1] at hr3
  have HQ3 := Side.mk (HQ2.out.below hb3)
  have HB3 := Side.mk (below_then HB2.out HB2.out.size hb3)
  obtain ⟨a3, c3, rfl, -, -⟩ := hr3.shape E1
  obtain ⟨g3, rfl, hg3, -, h30⟩ := IRow.get hr3 0 2 rfl
  obtain ⟨g', off, hgo, hgl, hc⟩ := HQ3.out.get 0 (by simp)
  obtain ⟨rfl, rfl⟩ : g = g' ∧ 0 = off := by simpa using hgo
  clear hr3 hb3 HQ2 HR2 HB2 hgo
  have MD := fun w => Side.mk (TMade_at ta w)
  have C1 := fun w => Side.mk (Can_at ta ta_fit 0 false w)
  have C2 := fun w => Side.mk (Can_at ta ta_fit (-1) true w)
  rw [HI.out.2.1] at C1
  rw [HI.out.2.2] at C2
  have u0 : w3.cell? ⟨g, 0, none⟩ = some (.int .i64 1) := hc 0 _ rfl
  have u1 : w3.cell? ⟨g, 1, none⟩ = some (.int .i64 1) := hc 1 _ rfl
  have u2 : w3.cell? ⟨g, 2, none⟩ = some (.int .i64 5) := hc 2 _ rfl
  have u3 : w3.cell? ⟨g, 3, none⟩ = some (.bool false) := hc 3 _ rfl
  have u4 : w3.cell? ⟨g, 4, none⟩ = some (.bool false) := hc 4 _ rfl
  have u5 : w3.cell? ⟨g, 5, none⟩ = some (.bool false) := hc 5 _ rfl
  have u6 : w3.cell? ⟨g, 6, none⟩ = some (.bool true) := hc 6 _ rfl
  have u7 : w3.cell? ⟨g, 7, none⟩ = some (.int .i64 0) := hc 7 _ rfl
  have u8 : w3.cell? ⟨g, 8, none⟩ = some (.int .i64 0) := hc 8 _ rfl
  have u9 : w3.cell? ⟨g, 9, none⟩ = some (.bool false) := hc 9 _ rfl
  have u10 : w3.cell? ⟨g, 10, none⟩ = some (.int .i64 0) := hc 10 _ rfl
  clear hc
  go_wp2_with fail
  refine (MD _).out.mono ?_
  rintro e w4 ⟨rfl, hb4⟩
  have HB4 := Side.mk (below_then HB3.out HB3.out.size hb4)
  have HQ4 := Side.mk (HQ3.out.below hb4)
  clear hb4 HB3 HQ3 u0 u1 u2 u3 u4 u5 u6 u7 u8 u9 u10 h30 hg3 hgl
  go_wp2_with fail
  refine (C1 _).out.mono ?_
  rintro e w5 ⟨rfl, hb5⟩
  have HB5 := Side.mk (below_then HB4.out HB4.out.size hb5)
  obtain ⟨g', off, hgo, hgl, hc⟩ := (HQ4.out.below hb5).get 0 (by simp)
  obtain ⟨rfl, rfl⟩ : g = g' ∧ 0 = off := by simpa using hgo
  have u0 : w5.cell? ⟨g, 0, none⟩ = some (.int .i64 1) := hc 0 _ rfl
  have u1 : w5.cell? ⟨g, 1, none⟩ = some (.int .i64 1) := hc 1 _ rfl
  have u2 : w5.cell? ⟨g, 2, none⟩ = some (.int .i64 5) := hc 2 _ rfl
  have u3 : w5.cell? ⟨g, 3, none⟩ = some (.bool false) := hc 3 _ rfl
  have u4 : w5.cell? ⟨g, 4, none⟩ = some (.bool false) := hc 4 _ rfl
  have u5 : w5.cell? ⟨g, 5, none⟩ = some (.bool false) := hc 5 _ rfl
  have u6 : w5.cell? ⟨g, 6, none⟩ = some (.bool true) := hc 6 _ rfl
  have u7 : w5.cell? ⟨g, 7, none⟩ = some (.int .i64 0) := hc 7 _ rfl
  have u8 : w5.cell? ⟨g, 8, none⟩ = some (.int .i64 0) := hc 8 _ rfl
  have u9 : w5.cell? ⟨g, 9, none⟩ = some (.bool false) := hc 9 _ rfl
  have u10 : w5.cell? ⟨g, 10, none⟩ = some (.int .i64 0) := hc 10 _ rfl
  clear hc hgo hb5 HB4 HQ4
  go_wp2_with fail
  refine (MD _).out.mono ?_
  rintro e w6 ⟨rfl, hb6⟩
  have HB6 := Side.mk (below_then HB5.out HB5.out.size hb6)
  clear hb6 HB5 u0 u1 u2 u3 u4 u5 u6 u7 u8 u9 u10 hgl
  go_wp2_with fail
  refine (C2 _).out.mono ?_
  rintro e w7 ⟨rfl, hb7⟩
  have HB7 := Side.mk (below_then HB6.out HB6.out.size hb7)
  clear hb7 HB6
  go_wp2
  go_ret
  exact ⟨rfl, HB7.out⟩
end Go.Proofs.Yticcgmlgiijjnaa.PkD
