/- Package lag: the greatest lag: New, Most, See. No condition. -/
import Derived.Test.YtiemhmaijiifkaaRaB
import Derived.Test.YtiemhmaijiifkaaKit3
import Derived.Test.YtiemhmaijiifkaaLaC
set_option linter.unusedVariables false
set_option linter.unusedSimpArgs false
namespace Go.Proofs.Ytiemhmaijiifkaa.LaD
open Go.RowKit Go.Proofs.Ytiemhmaijiifkaa.Kit Go.Proofs.Ytiemhmaijiifkaa.Kit3 Go.Proofs.Ytiemhmaijiifkaa.RaB
/-- The greatest lag, in memory. -/
def LS (w : World) (g : Nat) (x : Int × Int) : Prop := w.heap[g]? = some (.cells #[.int .i64 x.1, .int .i64 x.2] 46 (0, 0))
theorem LS.lt {w : World} {g : Nat} {x : Int × Int} (h : LS w g x) : g < w.heap.size := (Array.getElem?_eq_some_iff.1 h).1
theorem LS.c0 {w : World} {g : Nat} {x : Int × Int} (h : LS w g x) : w.cell? ⟨g, 0, none⟩ = some (.int .i64 x.1) := cell_of_row w g 0 _ _ (0, 0) h
theorem LS.c1 {w : World} {g : Nat} {x : Int × Int} (h : LS w g x) : w.cell? ⟨g, 1, none⟩ = some (.int .i64 x.2) := cell_of_row w g 1 _ _ (0, 0) h
theorem LS.fz {w : World} {g : Nat} {x : Int × Int} (h : LS w g x) (o : Nat) : w.frozen? ⟨g, o, none⟩ = false := Go.Proofs.YtiemhmaijiifkaaW.PrintWords.blk_frozen h o
theorem LS.below {w w' : World} {g : Nat} {x : Int × Int} (h : LS w g x) (hb : Below w.heap.size w w') : LS w' g x := (hb.block g h.lt).trans h
theorem LS.chg {w w' : World} {g : Nat} {x : Int × Int} {S : Nat → Prop} (h : LS w g x) (hc : Chg w w' S) (hg : ¬ S g) : LS w' g x := (hc.block g h.lt hg).trans h
set_option maxHeartbeats 1000000 in
set_option maxRecDepth 100000 in
theorem New_at (w : World) : Calls Try.prog 11 #[] w fun r w' => r = .returned (.pointer (some ⟨w.heap.size, 0, none⟩)) ∧ w' = w.alloc (.cells #[.int .i64 0, .int .i64 1] 46) := by
  go_enter Try.func11, Try.ntmps11
  go_wp2_with fail
  go_ret
  exact ⟨rfl, rfl⟩
set_option maxHeartbeats 1000000 in
set_option maxRecDepth 100000 in
theorem Most_at (w : World) (g : Nat) (x : Int × Int) (h : LS w g x) : Calls Try.prog 13 #[.pointer (some ⟨g, 0, none⟩)] w fun r w' => r = .returned (.agg #[.int .i64 x.1, .int .i64 x.2]) ∧ Below w.heap.size w w' := by
  have l0 := h.c0
  have l1 := h.c1
  have l2 := h.lt
  clear h
  go_enter Try.func13, Try.ntmps13
  go_wp2_with fail
  first
    | (go_ret; exact ⟨rfl, by (repeat (with_reducible first | exact Below.refl _ _ | apply below_drewN | apply below_drew | apply below_alloc))⟩)
    | (refine bodyPost_ret (v := .agg #[.int .i64 x.1, .int .i64 x.2]) (by simp [results, Try.results13, go_sem]) rfl ⟨rfl, by (repeat (with_reducible first | exact Below.refl _ _ | apply below_drewN | apply below_drew | apply below_alloc))⟩)
set_option maxHeartbeats 8000000 in
set_option maxRecDepth 100000 in
theorem See_core (e p r c g0 g1 x0 x1 y0 y1 n d k : Int) (g : Nat) (w : World) (h : LS w g (n, d))
    (AT : ∀ w, Side (Calls Try.prog 8 #[.int .i64 e, .int .i64 p, .int .i64 r, .int .i64 c, .agg #[.int .i64 g0, .int .i64 g1]] w fun r w' => r = .returned (.tuple #[.agg #[.int .i64 x0, .int .i64 x1], .int .i64 0]) ∧ Below w.heap.size w w'))
    (SB : Side (x0 < 0 → ∀ w, Side (Calls Try.prog 16 #[.agg #[.int .i64 0, .int .i64 1], .agg #[.int .i64 x0, .int .i64 x1]] w fun r w' => r = .returned (.tuple #[.agg #[.int .i64 y0, .int .i64 y1], .int .i64 0]) ∧ Below w.heap.size w w')))
    (CM : ∀ w, Side (Calls Try.prog 21 #[.agg #[.int .i64 y0, .int .i64 y1], .agg #[.int .i64 n, .int .i64 d]] w fun r w' => r = .returned (.int .i64 k) ∧ Below w.heap.size w w'))
    (hneg : Side (¬ x0 < 0 → y0 = x0 ∧ y1 = x1)) :
    Calls Try.prog 12 #[.pointer (some ⟨g, 0, none⟩), .int .i64 e, .int .i64 p, .int .i64 r, .int .i64 c, .agg #[.int .i64 g0, .int .i64 g1]] w fun r w' => r = .returned (.int .i64 0) ∧ LS w' g (if 0 < k then (y0, y1) else (n, d)) ∧ Chg w w' (fun b => b = g) := by
  have HL := Side.mk h
  have hg := h.lt
  clear h
  go_enter Try.func12, Try.ntmps12
  go_wp2_with fail
  refine (AT _).out.mono ?_
  rintro e w2 ⟨rfl, hb⟩
  have HB : Side (Below w.heap.size w w2) := ⟨below_then (by (repeat (with_reducible first | exact Below.refl _ _ | apply below_alloc))) (by simp) hb⟩
  clear hb
  have HL2 := Side.mk (HL.out.below HB.out)
  by_cases hx : x0 < 0
  · go_upto_region 7 with (fail)
    have BX := Side.mk (Box2.new w2 .i64 x0 x1 26)
    have HL3 := Side.mk (HL2.out.below (by (repeat (with_reducible first | exact Below.refl _ _ | apply below_alloc)) : Below w2.heap.size w2 (w2.alloc (.cells #[.int .i64 x0, .int .i64 x1] 26))))
    have FX : Side (∀ o, (w2.alloc (.cells #[.int .i64 x0, .int .i64 x1] 26)).frozen? ⟨w2.heap.size, o, none⟩ = false) := ⟨fun o => Go.Proofs.YtiemhmaijiifkaaW.PrintWords.blk_frozen (heap_alloc_new w2 _) o⟩
    have HB3 : Side (Below w.heap.size w (w2.alloc (.cells #[.int .i64 x0, .int .i64 x1] 26))) := ⟨below_alloc2 HB.out _⟩
    have hgx : w.heap.size ≤ w2.heap.size := HB.out.size
    obtain ⟨gx, hgxe⟩ : ∃ gx, gx = w2.heap.size := ⟨_, rfl⟩
    rw [← hgxe] at BX FX hgx ⊢
    generalize w2.alloc (.cells #[.int .i64 x0, .int .i64 x1] 26) = w3 at *
    clear hgxe HL2 HB
    have b0 := BX.out.c0
    have b1 := BX.out.c1
    have b2 := BX.out.lt
    go_wp2_with fail
    refine (SB.out (by omega) _).out.mono ?_
    rintro e w4' ⟨rfl, hb⟩
    have BX' := Side.mk (BX.out.below hb)
    have HL3' := Side.mk (HL3.out.below hb)
    have HB4 := Side.mk (below_then HB3.out HB3.out.size hb)
    have f0 : w4'.frozen? ⟨gx, 0, none⟩ = false := ((bcell hb).2 _ _ b2).trans (FX.out 0)
    have f1 : w4'.frozen? ⟨gx, 1, none⟩ = false := ((bcell hb).2 _ _ b2).trans (FX.out 1)
    clear b0 b1 b2 hb
    have b0 := BX'.out.c0
    have b1 := BX'.out.c1
    have b2 := BX'.out.lt
    go_upto_region 10 with (fail)
    have hne : g ≠ gx := by omega
    have BX : Side (Box2 ((w4'.setCell ⟨gx, 0, none⟩ (.int .i64 y0)).setCell ⟨gx, 1, none⟩ (.int .i64 y1)) gx .i64 y0 y1) := ⟨⟨by go_simp, by go_simp, by simpa using b2⟩⟩
    have HL4 : Side (LS ((w4'.setCell ⟨gx, 0, none⟩ (.int .i64 y0)).setCell ⟨gx, 1, none⟩ (.int .i64 y1)) g (n, d)) := ⟨(blk_far _ hne _).trans ((blk_far _ hne _).trans HL3'.out)⟩
    have HB4 : Side (Below w.heap.size w ((w4'.setCell ⟨gx, 0, none⟩ (.int .i64 y0)).setCell ⟨gx, 1, none⟩ (.int .i64 y1))) := ⟨Below.setCell (Below.setCell HB4.out hgx _) hgx _⟩
    generalize (w4'.setCell ⟨gx, 0, none⟩ (.int .i64 y0)).setCell ⟨gx, 1, none⟩ (.int .i64 y1) = w4 at *
    clear b0 b1 b2 f0 f1 BX' HL3' HL3 HB3
    have l0 := HL4.out.c0
    have l1 := HL4.out.c1
    have l2 := HL4.out.lt
    have b0 := BX.out.c0
    have b1 := BX.out.c1
    have b2 := BX.out.lt
    have KS : Side (∀ W wc : World, Below W.heap.size W wc → (W.cell? ⟨g, 0, none⟩ = some (.int .i64 n) ∧ W.cell? ⟨g, 1, none⟩ = some (.int .i64 d) ∧ W.cell? ⟨gx, 0, none⟩ = some (.int .i64 y0) ∧ W.cell? ⟨gx, 1, none⟩ = some (.int .i64 y1) ∧ g < W.heap.size ∧ gx < W.heap.size ∧ Below w4.heap.size w4 W) → (wc.cell? ⟨g, 0, none⟩ = some (.int .i64 n) ∧ wc.cell? ⟨g, 1, none⟩ = some (.int .i64 d) ∧ wc.cell? ⟨gx, 0, none⟩ = some (.int .i64 y0) ∧ wc.cell? ⟨gx, 1, none⟩ = some (.int .i64 y1) ∧ g < wc.heap.size ∧ gx < wc.heap.size ∧ Below w4.heap.size w4 wc)) := ⟨by
      intro W wc hbc hS
      obtain ⟨s0, s1, s2, s3, s4, s5, s6⟩ := hS
      have hcc := (bcell hbc).1
      have hzz := hbc.size
      exact ⟨(hcc _ _ s4).trans s0, (hcc _ _ s4).trans s1, (hcc _ _ s5).trans s2, (hcc _ _ s5).trans s3, Nat.lt_of_lt_of_le s4 hzz, Nat.lt_of_lt_of_le s5 hzz, below_then s6 s6.size hbc⟩⟩
    have KB : Side (∀ W : World, (W.cell? ⟨g, 0, none⟩ = some (.int .i64 n) ∧ W.cell? ⟨g, 1, none⟩ = some (.int .i64 d) ∧ W.cell? ⟨gx, 0, none⟩ = some (.int .i64 y0) ∧ W.cell? ⟨gx, 1, none⟩ = some (.int .i64 y1) ∧ g < W.heap.size ∧ gx < W.heap.size ∧ Below w4.heap.size w4 W) → Below w4.heap.size w4 W) := ⟨fun W hS => hS.2.2.2.2.2.2⟩
    have REF : Side (Below w4.heap.size w4 w4) := ⟨Below.refl _ _⟩
    by_cases hk : 0 < k
    · have dk : decide (0 < k) = true := decide_eq_true hk
      have HK := Side.mk hk
      go_region_held3 (fun w' => w'.cell? ⟨g, 0, none⟩ = some (.int .i64 n) ∧ w'.cell? ⟨g, 1, none⟩ = some (.int .i64 d) ∧ w'.cell? ⟨gx, 0, none⟩ = some (.int .i64 y0) ∧ w'.cell? ⟨gx, 1, none⟩ = some (.int .i64 y1) ∧ g < w'.heap.size ∧ gx < w'.heap.size ∧ Below w4.heap.size w4 w')
        (first
          | exact KS.out _ _ hbc (by assumption)
          | (refine ⟨?_, ?_, ?_, ?_, ?_, ?_, ?_⟩ <;> first | assumption | (go_simp; done) | (go_simp; assumption) | (simp; done) | (simp; omega) | (repeat (with_reducible first | exact REF.out | apply below_drewN | apply below_drew | apply below_alloc))))
        ((go_at_call 21; (with_reducible refine (CM _).out.mono ?_); rintro e wc ⟨rfl, hbc⟩))
      have hBc := KB.out _ (by assumption)
      have HLc := HL4.out.below hBc
      have HBc := Side.mk (below_then HB4.out HB4.out.size hBc)
      have HCc := Side.mk hBc
      have HLS := Side.mk HLc
      have g0_ := HLc.fz 0
      have g1_ := HLc.fz 1
      clear hBc HLc
      go_wp2
      go_ret
      refine ⟨rfl, ?_, ?_⟩
      · exact (blk_set (blk_set HLS.out 0 _) 1 _).trans (by simp)
      · exact Chg.trans (Chg.trans (Chg.of_below HBc.out) (Chg.set _ g 0 _) (fun _ _ h => h)) (Chg.set _ g 1 _) (fun _ _ h => h)
    · have dk : decide (0 < k) = false := decide_eq_false hk
      have HK := Side.mk hk
      go_region_held3 (fun w' => w'.cell? ⟨g, 0, none⟩ = some (.int .i64 n) ∧ w'.cell? ⟨g, 1, none⟩ = some (.int .i64 d) ∧ w'.cell? ⟨gx, 0, none⟩ = some (.int .i64 y0) ∧ w'.cell? ⟨gx, 1, none⟩ = some (.int .i64 y1) ∧ g < w'.heap.size ∧ gx < w'.heap.size ∧ Below w4.heap.size w4 w')
        (first
          | exact KS.out _ _ hbc (by assumption)
          | (refine ⟨?_, ?_, ?_, ?_, ?_, ?_, ?_⟩ <;> first | assumption | (go_simp; done) | (go_simp; assumption) | (simp; done) | (simp; omega) | (repeat (with_reducible first | exact REF.out | apply below_drewN | apply below_drew | apply below_alloc))))
        ((go_at_call 21; (with_reducible refine (CM _).out.mono ?_); rintro e wc ⟨rfl, hbc⟩))
      have hBc := KB.out _ (by assumption)
      have HLS := Side.mk (HL4.out.below hBc)
      have HBc := Side.mk (below_then HB4.out HB4.out.size hBc)
      clear hBc
      go_wp2
      go_ret
      refine ⟨rfl, ?_, Chg.of_below HBc.out⟩
      exact HLS.out
  · obtain ⟨hy0, hy1⟩ := hneg.out (by omega)
    subst hy0 hy1
    go_upto_region 10 with (fail)
    have BX := Side.mk (Box2.new w2 .i64 y0 y1 26)
    have HL4 := Side.mk (HL2.out.below (by (repeat (with_reducible first | exact Below.refl _ _ | apply below_alloc)) : Below w2.heap.size w2 (w2.alloc (.cells #[.int .i64 y0, .int .i64 y1] 26))))
    have HB4 : Side (Below w.heap.size w (w2.alloc (.cells #[.int .i64 y0, .int .i64 y1] 26))) := ⟨below_alloc2 HB.out _⟩
    obtain ⟨gx, hgxe⟩ : ∃ gx, gx = w2.heap.size := ⟨_, rfl⟩
    rw [← hgxe] at BX ⊢
    generalize w2.alloc (.cells #[.int .i64 y0, .int .i64 y1] 26) = w4 at *
    clear hgxe HL2 HB
    have l0 := HL4.out.c0
    have l1 := HL4.out.c1
    have l2 := HL4.out.lt
    have b0 := BX.out.c0
    have b1 := BX.out.c1
    have b2 := BX.out.lt
    have KS : Side (∀ W wc : World, Below W.heap.size W wc → (W.cell? ⟨g, 0, none⟩ = some (.int .i64 n) ∧ W.cell? ⟨g, 1, none⟩ = some (.int .i64 d) ∧ W.cell? ⟨gx, 0, none⟩ = some (.int .i64 y0) ∧ W.cell? ⟨gx, 1, none⟩ = some (.int .i64 y1) ∧ g < W.heap.size ∧ gx < W.heap.size ∧ Below w4.heap.size w4 W) → (wc.cell? ⟨g, 0, none⟩ = some (.int .i64 n) ∧ wc.cell? ⟨g, 1, none⟩ = some (.int .i64 d) ∧ wc.cell? ⟨gx, 0, none⟩ = some (.int .i64 y0) ∧ wc.cell? ⟨gx, 1, none⟩ = some (.int .i64 y1) ∧ g < wc.heap.size ∧ gx < wc.heap.size ∧ Below w4.heap.size w4 wc)) := ⟨by
      intro W wc hbc hS
      obtain ⟨s0, s1, s2, s3, s4, s5, s6⟩ := hS
      have hcc := (bcell hbc).1
      have hzz := hbc.size
      exact ⟨(hcc _ _ s4).trans s0, (hcc _ _ s4).trans s1, (hcc _ _ s5).trans s2, (hcc _ _ s5).trans s3, Nat.lt_of_lt_of_le s4 hzz, Nat.lt_of_lt_of_le s5 hzz, below_then s6 s6.size hbc⟩⟩
    have KB : Side (∀ W : World, (W.cell? ⟨g, 0, none⟩ = some (.int .i64 n) ∧ W.cell? ⟨g, 1, none⟩ = some (.int .i64 d) ∧ W.cell? ⟨gx, 0, none⟩ = some (.int .i64 y0) ∧ W.cell? ⟨gx, 1, none⟩ = some (.int .i64 y1) ∧ g < W.heap.size ∧ gx < W.heap.size ∧ Below w4.heap.size w4 W) → Below w4.heap.size w4 W) := ⟨fun W hS => hS.2.2.2.2.2.2⟩
    have REF : Side (Below w4.heap.size w4 w4) := ⟨Below.refl _ _⟩
    by_cases hk : 0 < k
    · have dk : decide (0 < k) = true := decide_eq_true hk
      have HK := Side.mk hk
      go_region_held3 (fun w' => w'.cell? ⟨g, 0, none⟩ = some (.int .i64 n) ∧ w'.cell? ⟨g, 1, none⟩ = some (.int .i64 d) ∧ w'.cell? ⟨gx, 0, none⟩ = some (.int .i64 y0) ∧ w'.cell? ⟨gx, 1, none⟩ = some (.int .i64 y1) ∧ g < w'.heap.size ∧ gx < w'.heap.size ∧ Below w4.heap.size w4 w')
        (first
          | exact KS.out _ _ hbc (by assumption)
          | (refine ⟨?_, ?_, ?_, ?_, ?_, ?_, ?_⟩ <;> first | assumption | (go_simp; done) | (go_simp; assumption) | (simp; done) | (simp; omega) | (repeat (with_reducible first | exact REF.out | apply below_drewN | apply below_drew | apply below_alloc))))
        ((go_at_call 21; (with_reducible refine (CM _).out.mono ?_); rintro e wc ⟨rfl, hbc⟩))
      have hBc := KB.out _ (by assumption)
      have HLc := HL4.out.below hBc
      have HBc := Side.mk (below_then HB4.out HB4.out.size hBc)
      have HCc := Side.mk hBc
      have HLS := Side.mk HLc
      have g0_ := HLc.fz 0
      have g1_ := HLc.fz 1
      clear hBc HLc
      go_wp2
      go_ret
      refine ⟨rfl, ?_, ?_⟩
      · exact (blk_set (blk_set HLS.out 0 _) 1 _).trans (by simp)
      · exact Chg.trans (Chg.trans (Chg.of_below HBc.out) (Chg.set _ g 0 _) (fun _ _ h => h)) (Chg.set _ g 1 _) (fun _ _ h => h)
    · have dk : decide (0 < k) = false := decide_eq_false hk
      have HK := Side.mk hk
      go_region_held3 (fun w' => w'.cell? ⟨g, 0, none⟩ = some (.int .i64 n) ∧ w'.cell? ⟨g, 1, none⟩ = some (.int .i64 d) ∧ w'.cell? ⟨gx, 0, none⟩ = some (.int .i64 y0) ∧ w'.cell? ⟨gx, 1, none⟩ = some (.int .i64 y1) ∧ g < w'.heap.size ∧ gx < w'.heap.size ∧ Below w4.heap.size w4 w')
        (first
          | exact KS.out _ _ hbc (by assumption)
          | (refine ⟨?_, ?_, ?_, ?_, ?_, ?_, ?_⟩ <;> first | assumption | (go_simp; done) | (go_simp; assumption) | (simp; done) | (simp; omega) | (repeat (with_reducible first | exact REF.out | apply below_drewN | apply below_drew | apply below_alloc))))
        ((go_at_call 21; (with_reducible refine (CM _).out.mono ?_); rintro e wc ⟨rfl, hbc⟩))
      have hBc := KB.out _ (by assumption)
      have HLS := Side.mk (HL4.out.below hBc)
      have HBc := Side.mk (below_then HB4.out HB4.out.size hBc)
      clear hBc
      go_wp2
      go_ret
      refine ⟨rfl, ?_, Chg.of_below HBc.out⟩
      exact HLS.out
end Go.Proofs.Ytiemhmaijiifkaa.LaD
