/- Package lag: LagKnown holds. No condition. -/
import Derived.Test.YtiemhmaijiifkaaLaF
import Derived.Test.YtiemhmaijiifkaaWInvWords
set_option linter.unusedVariables false
set_option linter.unusedSimpArgs false
namespace Go.Proofs.Ytiemhmaijiifkaa.LKnown
open Go.RowKit Go.Proofs.Ytiemhmaijiifkaa.Kit Go.Proofs.Ytiemhmaijiifkaa.Kit3 Go.Proofs.Ytiemhmaijiifkaa.RaB Go.Proofs.Ytiemhmaijiifkaa.LaD Go.Proofs.Ytiemhmaijiifkaa.LaE Go.Proofs.Ytiemhmaijiifkaa.LaF
open Go.Proofs.YtiemhmaijiifkaaW.PrintLast
theorem box_chg {w w' : World} {g : Nat} {k : IntKind} {a b : Int} {S : Nat → Prop} (h : Box2 w g k a b) (hc : Chg w w' S) (hg : ¬ S g) : Box2 w' g k a b := by
  have hh := hc.block g h.lt hg
  have he : ∀ o, w'.cell? ⟨g, o, none⟩ = w.cell? ⟨g, o, none⟩ := fun o => by simp only [World.cell?, hh]
  exact ⟨(he 0).trans h.c0, (he 1).trans h.c1, Nat.lt_of_lt_of_le h.lt hc.size⟩
/-- Six numbers in a block. -/
def Arr (w : World) (g : Nat) : Prop := w.heap[g]? = some (.cells #[.int .i64 2, .int .i64 2, .int .i64 2, .int .i64 2, .int .i64 0, .int .i64 0] 27 (0, 0))
theorem Arr.below {w w' : World} {g : Nat} (h : Arr w g) (hb : Below w.heap.size w w') : Arr w' g := (hb.block g (Array.getElem?_eq_some_iff.1 h).1).trans h
/-- What holds in the region, whatever has come up. -/
structure KI (w : World) (gl go gs : Nat) (b : Nat → Bool) (w' : World) : Prop where
  f0 : b 14 = false → LS w' gl (0, 1)
  f1 : b 14 = true → b 17 = false → LS w' gl (1, 6)
  f2 : b 17 = true → LS w' gl (2, 3)
  one : Box2 w' go .i64 1 1
  bel : Below w.heap.size w w'
  arr : b 18 = true → Arr w' gs
variable {w W W' : World} {gl go gs : Nat} {b : Nat → Bool}
theorem KI.low (h : KI w gl go gs b W) (hb : Below W.heap.size W W') (i : Nat) (h1 : 14 ≠ i) (h2 : 17 ≠ i) (h3 : 18 ≠ i) : KI w gl go gs (up b i) W' where
  f0 := fun x => (h.f0 (by rw [← up_ne (b := b) h1]; exact x)).below hb
  f1 := fun x y => (h.f1 (by rw [← up_ne (b := b) h1]; exact x) (by rw [← up_ne (b := b) h2]; exact y)).below hb
  f2 := fun x => (h.f2 (by rw [← up_ne (b := b) h2]; exact x)).below hb
  one := h.one.below hb
  bel := below_then h.bel h.bel.size hb
  arr := fun x => (h.arr (by rw [← up_ne (b := b) h3]; exact x)).below hb
theorem KI.fst (h : KI w gl go gs b W) (hl : LS W' gl (1, 6)) (hc : Chg W W' (fun b => b = gl)) (h7 : b 17 = false) (h8 : b 18 = false) (hne : go ≠ gl) (hge : w.heap.size ≤ gl) : KI w gl go gs (up b 14) W' where
  f0 := fun x => absurd ((up_self b 14).symm.trans x) (by decide)
  f1 := fun _ _ => hl
  f2 := fun x => absurd ((h7.symm.trans (up_ne (b := b) (i := 14) (by decide)).symm).trans x) (by decide)
  one := box_chg h.one hc hne
  bel := h.bel.trans (hc.below h.bel.size (by rintro k rfl; exact hge))
  arr := fun x => absurd ((h8.symm.trans (up_ne (b := b) (i := 14) (by decide)).symm).trans x) (by decide)
theorem KI.snd (h : KI w gl go gs b W) (hl : LS W' gl (2, 3)) (hc : Chg W W' (fun b => b = gl)) (h4 : b 14 = true) (h8 : b 18 = false) (hne : go ≠ gl) (hge : w.heap.size ≤ gl) : KI w gl go gs (up b 17) W' where
  f0 := fun x => absurd ((h4.symm.trans (up_ne (b := b) (i := 17) (by decide)).symm).trans x) (by decide)
  f1 := fun _ x => absurd ((up_self b 17).symm.trans x) (by decide)
  f2 := fun _ => hl
  one := box_chg h.one hc hne
  bel := h.bel.trans (hc.below h.bel.size (by rintro k rfl; exact hge))
  arr := fun x => absurd ((h8.symm.trans (up_ne (b := b) (i := 17) (by decide)).symm).trans x) (by decide)
theorem KI.row (h : KI w gl go gs b W) : KI w gl go W.heap.size (up b 18) (W.alloc (.cells #[.int .i64 2, .int .i64 2, .int .i64 2, .int .i64 2, .int .i64 0, .int .i64 0] 27)) where
  f0 := fun x => (h.f0 (by rw [← up_ne (b := b) (i := 18) (by decide)]; exact x)).below ((Below.refl _ W).alloc (Nat.le_refl _) _)
  f1 := fun x y => (h.f1 (by rw [← up_ne (b := b) (i := 18) (by decide)]; exact x) (by rw [← up_ne (b := b) (i := 18) (by decide)]; exact y)).below ((Below.refl _ W).alloc (Nat.le_refl _) _)
  f2 := fun x => (h.f2 (by rw [← up_ne (b := b) (i := 18) (by decide)]; exact x)).below ((Below.refl _ W).alloc (Nat.le_refl _) _)
  one := h.one.alloc _
  bel := below_alloc2 h.bel _
  arr := fun _ => heap_alloc_new W _
set_option maxHeartbeats 16000000 in
set_option maxRecDepth 100000 in
theorem walk (w : World) : Calls Try.prog 4 #[] w fun r w' => r = .returned (.bool true) ∧ Below w.heap.size w w' := by
  go_enter Try.func4, Try.ntmps4
  go_wp2_with fail
  refine (awake_at _).mono ?_
  rintro e w1 ⟨rfl, hb⟩
  go_wp2_with fail
  refine (New_at _).mono ?_
  rintro e w2 ⟨rfl, rfl⟩
  have HL : Side (LS (w1.alloc (.cells #[.int .i64 0, .int .i64 1] 46)) w1.heap.size (0, 1)) := ⟨heap_alloc_new w1 _⟩
  have HB2 : Side (Below w.heap.size w (w1.alloc (.cells #[.int .i64 0, .int .i64 1] 46))) := ⟨below_alloc2 hb _⟩
  have HG : Side (w.heap.size ≤ w1.heap.size) := ⟨hb.size⟩
  obtain ⟨gl, hgl⟩ : ∃ g, g = w1.heap.size := ⟨_, rfl⟩
  rw [← hgl] at HL HG ⊢
  generalize w1.alloc (.cells #[.int .i64 0, .int .i64 1] 46) = w3 at *
  clear hgl hb
  go_upto_region 7 with (fail)
  have BO := Side.mk (Box2.new w3 .i64 1 1 26)
  have HL4 : Side (LS (w3.alloc (.cells #[.int .i64 1, .int .i64 1] 26)) gl (0, 1)) := ⟨HL.out.below ((Below.refl _ w3).alloc (Nat.le_refl _) _)⟩
  have HB4 : Side (Below w.heap.size w (w3.alloc (.cells #[.int .i64 1, .int .i64 1] 26))) := ⟨below_alloc2 HB2.out _⟩
  have HN : Side (w3.heap.size ≠ gl) := ⟨by have := HL.out.lt; omega⟩
  obtain ⟨go, hgo⟩ : ∃ g, g = w3.heap.size := ⟨_, rfl⟩
  rw [← hgo] at BO HN ⊢
  generalize w3.alloc (.cells #[.int .i64 1, .int .i64 1] 26) = w4 at *
  clear hgo HL HB2
  refine start_ (n := 20) (S := fun w' => True) (ds := []) #[false, false, false, false, false, false, false, false, false, false, false, false, false, false, false, false, false, false, false, false] (by kernel_rfl) rfl rfl trivial (fun _ => ?_)
  refine inv_at (B := [0, 0, 3, 0, 0, 31, 0, 0, 255, 0, 0, 2047, 0, 0, 16383, 0, 0, 131071, 262143, 524287]) [0, 1, 2, 3, 4, 5, 6, 7, 8, 9, 10, 11, 12, 13, 14, 15, 16, 17, 18, 19] (fun a0_ b a w' => ∃ gs gt : Nat, a = putSel a0_ b [(0, 14, .pointer (some ⟨gl, 0, none⟩)), (1, 15, .agg #[.int .i64 1, .int .i64 1]), (2, 16, .int .i64 2), (3, 17, .pointer (some ⟨gl, 0, none⟩)), (4, 18, .agg #[.int .i64 1, .int .i64 1]), (5, 19, .int .i64 2), (6, 20, .pointer (some ⟨gl, 0, none⟩)), (7, 21, .agg #[.int .i64 0, .int .i64 0]), (8, 22, .int .i64 2), (9, 23, .pointer (some ⟨gl, 0, none⟩)), (10, 24, .agg #[.int .i64 1, .int .i64 1]), (11, 25, .int .i64 2), (12, 26, .pointer (some ⟨gl, 0, none⟩)), (13, 27, .agg #[.int .i64 1, .int .i64 2]), (14, 28, .int .i64 0), (15, 29, .pointer (some ⟨gl, 0, none⟩)), (16, 30, .agg #[.int .i64 2, .int .i64 1]), (17, 31, .int .i64 0), (18, 32, .slice (some ⟨gs, 0, none⟩) 6 6), (19, 3, .slice (some ⟨gt, 0, none⟩) 6 6)] ∧ KI w gl go gs b w' ∧ (b 19 = true → gt = gs)) rfl (by kernel_rfl) (by kernel_rfl) (by kernel_rfl) ?_ ?_ ?_
  · exact ⟨0, 0, by simp only [putSel, Bool.false_eq_true, if_false], ⟨fun _ => HL4.out.below (below_drew (Below.refl _ _)), fun h => (by cases h), fun h => (by cases h), BO.out.below (below_drew (Below.refl _ _)), below_drew HB4.out, fun h => (by cases h)⟩, fun h => (by cases h)⟩
  · refine steps_cons ?_ ?_
    · rintro b a w' ⟨gs, gt, ha, HI, HT⟩ hb_ hon hoff
      refine ⟨_, rfl, fun K hK => ?_⟩
      have e1 : a.tmps[1]? = some (.pointer (some ⟨gl, 0, none⟩)) := by rw [ha]; exact (putSel_off rfl).trans rfl
      refine value_ (w1 := w') (v := .pointer (some ⟨gl, 0, none⟩)) (by rfl) rfl ?_ ?_
      · clear HI HT ha
        go_simp
      · refine hK.out _ _ ⟨gs, gt, ?_, HI.low (Below.refl _ _) 0 (by decide) (by decide) (by decide), fun h => HT (by rw [← up_ne (b := b) (i := 0) (by decide)]; exact h)⟩
        rw [ha]; exact putSel_upk 0 hb_ rfl rfl rfl
    refine steps_cons ?_ ?_
    · rintro b a w' ⟨gs, gt, ha, HI, HT⟩ hb_ hon hoff
      refine ⟨_, rfl, fun K hK => ?_⟩
      have e2 : a.tmps[2]? = some (.pointer (some ⟨go, 0, none⟩)) := by rw [ha]; exact (putSel_off rfl).trans rfl
      have k0 := HI.one.c0
      have k1 := HI.one.c1
      have k2 := HI.one.lt
      refine value_ (w1 := w') (v := .agg #[.int .i64 1, .int .i64 1]) (by rfl) rfl ?_ ?_
      · clear HI HT ha
        go_simp
      · refine hK.out _ _ ⟨gs, gt, ?_, HI.low (Below.refl _ _) 1 (by decide) (by decide) (by decide), fun h => HT (by rw [← up_ne (b := b) (i := 1) (by decide)]; exact h)⟩
        rw [ha]; exact putSel_upk 1 hb_ rfl rfl rfl
    refine steps_cons ?_ ?_
    · rintro b a w' ⟨gs, gt, ha, HI, HT⟩ hb_ hon hoff
      refine ⟨_, rfl, fun K hK => ?_⟩
      have e14 : a.tmps[14]? = some (.pointer (some ⟨gl, 0, none⟩)) := by rw [ha]; exact putSel_on (e := (0, 14, .pointer (some ⟨gl, 0, none⟩))) 0 rfl rfl (hon 0 (by kernel_rfl)) rfl
      have e15 : a.tmps[15]? = some (.agg #[.int .i64 1, .int .i64 1]) := by rw [ha]; exact putSel_on (e := (1, 15, .agg #[.int .i64 1, .int .i64 1])) 1 rfl rfl (hon 1 (by kernel_rfl)) rfl
      refine goes_ Try.func12 (by kernel_rfl) rfl #[.pointer (some ⟨gl, 0, none⟩), .int .i64 0, .int .i64 1, .int .i64 0, .int .i64 0, .agg #[.int .i64 1, .int .i64 1]] (by rfl) rfl rfl (by simp [Act.eval, e14, e15]) ?_
      refine (See_err _ _ _ _ _ _ _ er1 gl w').out.mono ?_
      rintro e w'' ⟨rfl, hbc⟩
      refine ⟨_, rfl, hK.out _ _ ⟨gs, gt, ?_, HI.low hbc 2 (by decide) (by decide) (by decide), fun h => HT (by rw [← up_ne (b := b) (i := 2) (by decide)]; exact h)⟩⟩
      rw [ha]; exact putSel_upk 2 hb_ rfl rfl rfl
    refine steps_cons ?_ ?_
    · rintro b a w' ⟨gs, gt, ha, HI, HT⟩ hb_ hon hoff
      refine ⟨_, rfl, fun K hK => ?_⟩
      have e1 : a.tmps[1]? = some (.pointer (some ⟨gl, 0, none⟩)) := by rw [ha]; exact (putSel_off rfl).trans rfl
      refine value_ (w1 := w') (v := .pointer (some ⟨gl, 0, none⟩)) (by rfl) rfl ?_ ?_
      · clear HI HT ha
        go_simp
      · refine hK.out _ _ ⟨gs, gt, ?_, HI.low (Below.refl _ _) 3 (by decide) (by decide) (by decide), fun h => HT (by rw [← up_ne (b := b) (i := 3) (by decide)]; exact h)⟩
        rw [ha]; exact putSel_upk 3 hb_ rfl rfl rfl
    refine steps_cons ?_ ?_
    · rintro b a w' ⟨gs, gt, ha, HI, HT⟩ hb_ hon hoff
      refine ⟨_, rfl, fun K hK => ?_⟩
      have e2 : a.tmps[2]? = some (.pointer (some ⟨go, 0, none⟩)) := by rw [ha]; exact (putSel_off rfl).trans rfl
      have k0 := HI.one.c0
      have k1 := HI.one.c1
      have k2 := HI.one.lt
      refine value_ (w1 := w') (v := .agg #[.int .i64 1, .int .i64 1]) (by rfl) rfl ?_ ?_
      · clear HI HT ha
        go_simp
      · refine hK.out _ _ ⟨gs, gt, ?_, HI.low (Below.refl _ _) 4 (by decide) (by decide) (by decide), fun h => HT (by rw [← up_ne (b := b) (i := 4) (by decide)]; exact h)⟩
        rw [ha]; exact putSel_upk 4 hb_ rfl rfl rfl
    refine steps_cons ?_ ?_
    · rintro b a w' ⟨gs, gt, ha, HI, HT⟩ hb_ hon hoff
      refine ⟨_, rfl, fun K hK => ?_⟩
      have e17 : a.tmps[17]? = some (.pointer (some ⟨gl, 0, none⟩)) := by rw [ha]; exact putSel_on (e := (3, 17, .pointer (some ⟨gl, 0, none⟩))) 3 rfl rfl (hon 3 (by kernel_rfl)) rfl
      have e18 : a.tmps[18]? = some (.agg #[.int .i64 1, .int .i64 1]) := by rw [ha]; exact putSel_on (e := (4, 18, .agg #[.int .i64 1, .int .i64 1])) 4 rfl rfl (hon 4 (by kernel_rfl)) rfl
      refine goes_ Try.func12 (by kernel_rfl) rfl #[.pointer (some ⟨gl, 0, none⟩), .int .i64 1, .int .i64 2, .int .i64 5, .int .i64 4, .agg #[.int .i64 1, .int .i64 1]] (by rfl) rfl rfl (by simp [Act.eval, e17, e18]) ?_
      refine (See_err _ _ _ _ _ _ _ er2 gl w').out.mono ?_
      rintro e w'' ⟨rfl, hbc⟩
      refine ⟨_, rfl, hK.out _ _ ⟨gs, gt, ?_, HI.low hbc 5 (by decide) (by decide) (by decide), fun h => HT (by rw [← up_ne (b := b) (i := 5) (by decide)]; exact h)⟩⟩
      rw [ha]; exact putSel_upk 5 hb_ rfl rfl rfl
    refine steps_cons ?_ ?_
    · rintro b a w' ⟨gs, gt, ha, HI, HT⟩ hb_ hon hoff
      refine ⟨_, rfl, fun K hK => ?_⟩
      have e1 : a.tmps[1]? = some (.pointer (some ⟨gl, 0, none⟩)) := by rw [ha]; exact (putSel_off rfl).trans rfl
      refine value_ (w1 := w') (v := .pointer (some ⟨gl, 0, none⟩)) (by rfl) rfl ?_ ?_
      · clear HI HT ha
        go_simp
      · refine hK.out _ _ ⟨gs, gt, ?_, HI.low (Below.refl _ _) 6 (by decide) (by decide) (by decide), fun h => HT (by rw [← up_ne (b := b) (i := 6) (by decide)]; exact h)⟩
        rw [ha]; exact putSel_upk 6 hb_ rfl rfl rfl
    refine steps_cons ?_ ?_
    · rintro b a w' ⟨gs, gt, ha, HI, HT⟩ hb_ hon hoff
      refine ⟨_, rfl, fun K hK => ?_⟩
      refine value_ (w1 := w') (v := .agg #[.int .i64 0, .int .i64 0]) (by rfl) rfl ?_ ?_
      · clear HI HT ha
        go_simp
      · refine hK.out _ _ ⟨gs, gt, ?_, HI.low (Below.refl _ _) 7 (by decide) (by decide) (by decide), fun h => HT (by rw [← up_ne (b := b) (i := 7) (by decide)]; exact h)⟩
        rw [ha]; exact putSel_upk 7 hb_ rfl rfl rfl
    refine steps_cons ?_ ?_
    · rintro b a w' ⟨gs, gt, ha, HI, HT⟩ hb_ hon hoff
      refine ⟨_, rfl, fun K hK => ?_⟩
      have e20 : a.tmps[20]? = some (.pointer (some ⟨gl, 0, none⟩)) := by rw [ha]; exact putSel_on (e := (6, 20, .pointer (some ⟨gl, 0, none⟩))) 6 rfl rfl (hon 6 (by kernel_rfl)) rfl
      have e21 : a.tmps[21]? = some (.agg #[.int .i64 0, .int .i64 0]) := by rw [ha]; exact putSel_on (e := (7, 21, .agg #[.int .i64 0, .int .i64 0])) 7 rfl rfl (hon 7 (by kernel_rfl)) rfl
      refine goes_ Try.func12 (by kernel_rfl) rfl #[.pointer (some ⟨gl, 0, none⟩), .int .i64 1, .int .i64 2, .int .i64 0, .int .i64 0, .agg #[.int .i64 0, .int .i64 0]] (by rfl) rfl rfl (by simp [Act.eval, e20, e21]) ?_
      refine (See_err _ _ _ _ _ _ _ er3 gl w').out.mono ?_
      rintro e w'' ⟨rfl, hbc⟩
      refine ⟨_, rfl, hK.out _ _ ⟨gs, gt, ?_, HI.low hbc 8 (by decide) (by decide) (by decide), fun h => HT (by rw [← up_ne (b := b) (i := 8) (by decide)]; exact h)⟩⟩
      rw [ha]; exact putSel_upk 8 hb_ rfl rfl rfl
    refine steps_cons ?_ ?_
    · rintro b a w' ⟨gs, gt, ha, HI, HT⟩ hb_ hon hoff
      refine ⟨_, rfl, fun K hK => ?_⟩
      have e1 : a.tmps[1]? = some (.pointer (some ⟨gl, 0, none⟩)) := by rw [ha]; exact (putSel_off rfl).trans rfl
      refine value_ (w1 := w') (v := .pointer (some ⟨gl, 0, none⟩)) (by rfl) rfl ?_ ?_
      · clear HI HT ha
        go_simp
      · refine hK.out _ _ ⟨gs, gt, ?_, HI.low (Below.refl _ _) 9 (by decide) (by decide) (by decide), fun h => HT (by rw [← up_ne (b := b) (i := 9) (by decide)]; exact h)⟩
        rw [ha]; exact putSel_upk 9 hb_ rfl rfl rfl
    refine steps_cons ?_ ?_
    · rintro b a w' ⟨gs, gt, ha, HI, HT⟩ hb_ hon hoff
      refine ⟨_, rfl, fun K hK => ?_⟩
      have e2 : a.tmps[2]? = some (.pointer (some ⟨go, 0, none⟩)) := by rw [ha]; exact (putSel_off rfl).trans rfl
      have k0 := HI.one.c0
      have k1 := HI.one.c1
      have k2 := HI.one.lt
      refine value_ (w1 := w') (v := .agg #[.int .i64 1, .int .i64 1]) (by rfl) rfl ?_ ?_
      · clear HI HT ha
        go_simp
      · refine hK.out _ _ ⟨gs, gt, ?_, HI.low (Below.refl _ _) 10 (by decide) (by decide) (by decide), fun h => HT (by rw [← up_ne (b := b) (i := 10) (by decide)]; exact h)⟩
        rw [ha]; exact putSel_upk 10 hb_ rfl rfl rfl
    refine steps_cons ?_ ?_
    · rintro b a w' ⟨gs, gt, ha, HI, HT⟩ hb_ hon hoff
      refine ⟨_, rfl, fun K hK => ?_⟩
      have e23 : a.tmps[23]? = some (.pointer (some ⟨gl, 0, none⟩)) := by rw [ha]; exact putSel_on (e := (9, 23, .pointer (some ⟨gl, 0, none⟩))) 9 rfl rfl (hon 9 (by kernel_rfl)) rfl
      have e24 : a.tmps[24]? = some (.agg #[.int .i64 1, .int .i64 1]) := by rw [ha]; exact putSel_on (e := (10, 24, .agg #[.int .i64 1, .int .i64 1])) 10 rfl rfl (hon 10 (by kernel_rfl)) rfl
      refine goes_ Try.func12 (by kernel_rfl) rfl #[.pointer (some ⟨gl, 0, none⟩), .int .i64 1, .int .i64 1048576, .int .i64 0, .int .i64 0, .agg #[.int .i64 1, .int .i64 1]] (by rfl) rfl rfl (by simp [Act.eval, e23, e24]) ?_
      refine (See_err _ _ _ _ _ _ _ er4 gl w').out.mono ?_
      rintro e w'' ⟨rfl, hbc⟩
      refine ⟨_, rfl, hK.out _ _ ⟨gs, gt, ?_, HI.low hbc 11 (by decide) (by decide) (by decide), fun h => HT (by rw [← up_ne (b := b) (i := 11) (by decide)]; exact h)⟩⟩
      rw [ha]; exact putSel_upk 11 hb_ rfl rfl rfl
    refine steps_cons ?_ ?_
    · rintro b a w' ⟨gs, gt, ha, HI, HT⟩ hb_ hon hoff
      refine ⟨_, rfl, fun K hK => ?_⟩
      have e1 : a.tmps[1]? = some (.pointer (some ⟨gl, 0, none⟩)) := by rw [ha]; exact (putSel_off rfl).trans rfl
      refine value_ (w1 := w') (v := .pointer (some ⟨gl, 0, none⟩)) (by rfl) rfl ?_ ?_
      · clear HI HT ha
        go_simp
      · refine hK.out _ _ ⟨gs, gt, ?_, HI.low (Below.refl _ _) 12 (by decide) (by decide) (by decide), fun h => HT (by rw [← up_ne (b := b) (i := 12) (by decide)]; exact h)⟩
        rw [ha]; exact putSel_upk 12 hb_ rfl rfl rfl
    refine steps_cons ?_ ?_
    · rintro b a w' ⟨gs, gt, ha, HI, HT⟩ hb_ hon hoff
      refine ⟨_, rfl, fun K hK => ?_⟩
      refine value_ (w1 := w') (v := .agg #[.int .i64 1, .int .i64 2]) (by rfl) rfl ?_ ?_
      · clear HI HT ha
        go_simp
      · refine hK.out _ _ ⟨gs, gt, ?_, HI.low (Below.refl _ _) 13 (by decide) (by decide) (by decide), fun h => HT (by rw [← up_ne (b := b) (i := 13) (by decide)]; exact h)⟩
        rw [ha]; exact putSel_upk 13 hb_ rfl rfl rfl
    refine steps_cons ?_ ?_
    · rintro b a w' ⟨gs, gt, ha, HI, HT⟩ hb_ hon hoff
      refine ⟨_, rfl, fun K hK => ?_⟩
      have e26 : a.tmps[26]? = some (.pointer (some ⟨gl, 0, none⟩)) := by rw [ha]; exact putSel_on (e := (12, 26, .pointer (some ⟨gl, 0, none⟩))) 12 rfl rfl (hon 12 (by kernel_rfl)) rfl
      have e27 : a.tmps[27]? = some (.agg #[.int .i64 1, .int .i64 2]) := by rw [ha]; exact putSel_on (e := (13, 27, .agg #[.int .i64 1, .int .i64 2])) 13 rfl rfl (hon 13 (by kernel_rfl)) rfl
      refine goes_ Try.func12 (by kernel_rfl) rfl #[.pointer (some ⟨gl, 0, none⟩), .int .i64 2, .int .i64 3, .int .i64 10, .int .i64 11, .agg #[.int .i64 1, .int .i64 2]] (by rfl) rfl rfl (by simp [Act.eval, e26, e27]) ?_
      refine (SE1 w' gl (HI.f0 hb_)).mono ?_
      rintro e w'' ⟨rfl, hl, hc⟩
      refine ⟨_, rfl, hK.out _ _ ⟨gs, gt, ?_, HI.fst hl hc (hoff 17 (by kernel_rfl)) (hoff 18 (by kernel_rfl)) HN.out HG.out, fun h => HT (by rw [← up_ne (b := b) (i := 14) (by decide)]; exact h)⟩⟩
      rw [ha]; exact putSel_upk 14 hb_ rfl rfl rfl
    refine steps_cons ?_ ?_
    · rintro b a w' ⟨gs, gt, ha, HI, HT⟩ hb_ hon hoff
      refine ⟨_, rfl, fun K hK => ?_⟩
      have e1 : a.tmps[1]? = some (.pointer (some ⟨gl, 0, none⟩)) := by rw [ha]; exact (putSel_off rfl).trans rfl
      refine value_ (w1 := w') (v := .pointer (some ⟨gl, 0, none⟩)) (by rfl) rfl ?_ ?_
      · clear HI HT ha
        go_simp
      · refine hK.out _ _ ⟨gs, gt, ?_, HI.low (Below.refl _ _) 15 (by decide) (by decide) (by decide), fun h => HT (by rw [← up_ne (b := b) (i := 15) (by decide)]; exact h)⟩
        rw [ha]; exact putSel_upk 15 hb_ rfl rfl rfl
    refine steps_cons ?_ ?_
    · rintro b a w' ⟨gs, gt, ha, HI, HT⟩ hb_ hon hoff
      refine ⟨_, rfl, fun K hK => ?_⟩
      refine value_ (w1 := w') (v := .agg #[.int .i64 2, .int .i64 1]) (by rfl) rfl ?_ ?_
      · clear HI HT ha
        go_simp
      · refine hK.out _ _ ⟨gs, gt, ?_, HI.low (Below.refl _ _) 16 (by decide) (by decide) (by decide), fun h => HT (by rw [← up_ne (b := b) (i := 16) (by decide)]; exact h)⟩
        rw [ha]; exact putSel_upk 16 hb_ rfl rfl rfl
    refine steps_cons ?_ ?_
    · rintro b a w' ⟨gs, gt, ha, HI, HT⟩ hb_ hon hoff
      refine ⟨_, rfl, fun K hK => ?_⟩
      have e29 : a.tmps[29]? = some (.pointer (some ⟨gl, 0, none⟩)) := by rw [ha]; exact putSel_on (e := (15, 29, .pointer (some ⟨gl, 0, none⟩))) 15 rfl rfl (hon 15 (by kernel_rfl)) rfl
      have e30 : a.tmps[30]? = some (.agg #[.int .i64 2, .int .i64 1]) := by rw [ha]; exact putSel_on (e := (16, 30, .agg #[.int .i64 2, .int .i64 1])) 16 rfl rfl (hon 16 (by kernel_rfl)) rfl
      refine goes_ Try.func12 (by kernel_rfl) rfl #[.pointer (some ⟨gl, 0, none⟩), .int .i64 2, .int .i64 3, .int .i64 10, .int .i64 12, .agg #[.int .i64 2, .int .i64 1]] (by rfl) rfl rfl (by simp [Act.eval, e29, e30]) ?_
      refine (SE2 w' gl (HI.f1 (hon 14 (by kernel_rfl)) hb_)).mono ?_
      rintro e w'' ⟨rfl, hl, hc⟩
      refine ⟨_, rfl, hK.out _ _ ⟨gs, gt, ?_, HI.snd hl hc (hon 14 (by kernel_rfl)) (hoff 18 (by kernel_rfl)) HN.out HG.out, fun h => HT (by rw [← up_ne (b := b) (i := 17) (by decide)]; exact h)⟩⟩
      rw [ha]; exact putSel_upk 17 hb_ rfl rfl rfl
    refine steps_cons ?_ ?_
    · rintro b a w' ⟨gs, gt, ha, HI, HT⟩ hb_ hon hoff
      refine ⟨_, rfl, fun K hK => ?_⟩
      have e16 : a.tmps[16]? = some (.int .i64 2) := by rw [ha]; exact putSel_on (e := (2, 16, .int .i64 2)) 2 rfl rfl (hon 2 (by kernel_rfl)) rfl
      have e19 : a.tmps[19]? = some (.int .i64 2) := by rw [ha]; exact putSel_on (e := (5, 19, .int .i64 2)) 5 rfl rfl (hon 5 (by kernel_rfl)) rfl
      have e22 : a.tmps[22]? = some (.int .i64 2) := by rw [ha]; exact putSel_on (e := (8, 22, .int .i64 2)) 8 rfl rfl (hon 8 (by kernel_rfl)) rfl
      have e25 : a.tmps[25]? = some (.int .i64 2) := by rw [ha]; exact putSel_on (e := (11, 25, .int .i64 2)) 11 rfl rfl (hon 11 (by kernel_rfl)) rfl
      have e28 : a.tmps[28]? = some (.int .i64 0) := by rw [ha]; exact putSel_on (e := (14, 28, .int .i64 0)) 14 rfl rfl (hon 14 (by kernel_rfl)) rfl
      have e31 : a.tmps[31]? = some (.int .i64 0) := by rw [ha]; exact putSel_on (e := (17, 31, .int .i64 0)) 17 rfl rfl (hon 17 (by kernel_rfl)) rfl
      refine value_ (w1 := w'.alloc (.cells #[.int .i64 2, .int .i64 2, .int .i64 2, .int .i64 2, .int .i64 0, .int .i64 0] 27)) (v := .slice (some ⟨w'.heap.size, 0, none⟩) 6 6) (by rfl) rfl ?_ ?_
      · clear HI HT ha
        go_simp
      · refine hK.out _ _ ⟨w'.heap.size, gt, ?_, HI.row, fun h => absurd ((hoff 19 (by kernel_rfl)).symm.trans ((up_ne (b := b) (i := 18) (by decide)).symm.trans h)) (by decide)⟩
        rw [ha]; exact putSel_upk 18 hb_ rfl rfl rfl
    refine steps_cons ?_ ?_
    · rintro b a w' ⟨gs, gt, ha, HI, HT⟩ hb_ hon hoff
      refine ⟨_, rfl, fun K hK => ?_⟩
      have e32 : a.tmps[32]? = some (.slice (some ⟨gs, 0, none⟩) 6 6) := by rw [ha]; exact putSel_on (e := (18, 32, .slice (some ⟨gs, 0, none⟩) 6 6)) 18 rfl rfl (hon 18 (by kernel_rfl)) rfl
      refine value_ (w1 := w') (v := .slice (some ⟨gs, 0, none⟩) 6 6) (by rfl) rfl ?_ ?_
      · clear HI HT ha
        go_simp
      · refine hK.out _ _ ⟨gs, gs, ?_, HI.low (Below.refl _ _) 19 (by decide) (by decide) (by decide), fun _ => rfl⟩
        rw [ha]; exact putSel_upk 19 hb_ rfl rfl rfl
    exact steps_nil
  · rintro b a w' hall ⟨gs, gt, ha, HI, HT⟩
    have hb0_ := hall 0 (by kernel_rfl)
    have hb1_ := hall 1 (by kernel_rfl)
    have hb2_ := hall 2 (by kernel_rfl)
    have hb3_ := hall 3 (by kernel_rfl)
    have hb4_ := hall 4 (by kernel_rfl)
    have hb5_ := hall 5 (by kernel_rfl)
    have hb6_ := hall 6 (by kernel_rfl)
    have hb7_ := hall 7 (by kernel_rfl)
    have hb8_ := hall 8 (by kernel_rfl)
    have hb9_ := hall 9 (by kernel_rfl)
    have hb10_ := hall 10 (by kernel_rfl)
    have hb11_ := hall 11 (by kernel_rfl)
    have hb12_ := hall 12 (by kernel_rfl)
    have hb13_ := hall 13 (by kernel_rfl)
    have hb14_ := hall 14 (by kernel_rfl)
    have hb15_ := hall 15 (by kernel_rfl)
    have hb16_ := hall 16 (by kernel_rfl)
    have hb17_ := hall 17 (by kernel_rfl)
    have hb18_ := hall 18 (by kernel_rfl)
    have hb19_ := hall 19 (by kernel_rfl)
    obtain rfl := HT hb19_
    subst ha
    simp only [putSel, hb0_, hb1_, hb2_, hb3_, hb4_, hb5_, hb6_, hb7_, hb8_, hb9_, hb10_, hb11_, hb12_, hb13_, hb14_, hb15_, hb16_, hb17_, hb18_, hb19_, if_true, Act.put, List.setIfInBounds_toArray, List.set_cons_zero, List.set_cons_succ]
    have HL := Side.mk (HI.f2 hb17_)
    have HA := Side.mk (HI.arr hb18_)
    have HB := Side.mk HI.bel
    clear HI HT hall BO HL4 HB4 hb0_ hb1_ hb2_ hb3_ hb4_ hb5_ hb6_ hb7_ hb8_ hb9_ hb10_ hb11_ hb12_ hb13_ hb14_ hb15_ hb16_ hb17_ hb18_ hb19_
    refine ‹∀ (a : Act) (w : World), Code.wp Try.prog _ _ a w → _› _ _ ?_
    go_upto_region 9 with (fail)
    have HW : Side (Arr (w'.alloc (.cells #[.int .i64 2, .int .i64 2, .int .i64 2, .int .i64 2, .int .i64 0, .int .i64 0] 27)) w'.heap.size) := ⟨heap_alloc_new w' _⟩
    have HL5 : Side (LS (w'.alloc (.cells #[.int .i64 2, .int .i64 2, .int .i64 2, .int .i64 2, .int .i64 0, .int .i64 0] 27)) gl (2, 3)) := ⟨HL.out.below ((Below.refl _ w').alloc (Nat.le_refl _) _)⟩
    have HA5 : Side (Arr (w'.alloc (.cells #[.int .i64 2, .int .i64 2, .int .i64 2, .int .i64 2, .int .i64 0, .int .i64 0] 27)) gt) := ⟨HA.out.below ((Below.refl _ w').alloc (Nat.le_refl _) _)⟩
    have HB5 : Side (Below w.heap.size w (w'.alloc (.cells #[.int .i64 2, .int .i64 2, .int .i64 2, .int .i64 2, .int .i64 0, .int .i64 0] 27))) := ⟨below_alloc2 HB.out _⟩
    obtain ⟨gw, hgw⟩ : ∃ g, g = w'.heap.size := ⟨_, rfl⟩
    rw [← hgw] at HW ⊢
    generalize (w'.alloc (.cells #[.int .i64 2, .int .i64 2, .int .i64 2, .int .i64 2, .int .i64 0, .int .i64 0] 27)) = w5 at *
    clear hgw HL HA HB
    go_wp2_with fail
    go_loopw [5] (fun v5 wr => ∃ k : Nat, v5 = .int .i64 (k : Int) ∧ Side (k ≤ 6) ∧ Side (Below w5.heap.size w5 wr)) (fun v5 _ => (6 - intOf v5).toNat)
    case atStart => exact ⟨0, rfl, ⟨by omega⟩, ⟨Below.refl _ _⟩⟩
    case round =>
      obtain ⟨k, rfl, HK, HR⟩ := hrel
      have HL6 := Side.mk (HL5.out.below HR.out)
      have HA6 := Side.mk (HA5.out.below HR.out)
      have HW6 := Side.mk (HW.out.below HR.out)
      have HB6 := Side.mk (below_then HB5.out HB5.out.size HR.out)
      have hk : k = 0 ∨ k = 1 ∨ k = 2 ∨ k = 3 ∨ k = 4 ∨ k = 5 ∨ k = 6 := by have := HK.out; omega
      clear HK
      rcases hk with rfl | rfl | rfl | rfl | rfl | rfl | rfl
      · have k0 : wr.cell? ⟨gt, 0, none⟩ = some (.int .i64 2) := cell_of_row wr gt 0 _ _ (0, 0) HA6.out
        have k1 : wr.cell? ⟨gw, 0, none⟩ = some (.int .i64 2) := cell_of_row wr gw 0 _ _ (0, 0) HW6.out
        go_wp2
        go_quiet (fail)
        go_wp2
        go_roundw
        case rel => exact ⟨1, rfl, ⟨by omega⟩, ⟨below_drewN HR.out _⟩⟩
        case measure => simp [intOf]
      · have k0 : wr.cell? ⟨gt, 1, none⟩ = some (.int .i64 2) := cell_of_row wr gt 1 _ _ (0, 0) HA6.out
        have k1 : wr.cell? ⟨gw, 1, none⟩ = some (.int .i64 2) := cell_of_row wr gw 1 _ _ (0, 0) HW6.out
        go_wp2
        go_quiet (fail)
        go_wp2
        go_roundw
        case rel => exact ⟨2, rfl, ⟨by omega⟩, ⟨below_drewN HR.out _⟩⟩
        case measure => simp [intOf]
      · have k0 : wr.cell? ⟨gt, 2, none⟩ = some (.int .i64 2) := cell_of_row wr gt 2 _ _ (0, 0) HA6.out
        have k1 : wr.cell? ⟨gw, 2, none⟩ = some (.int .i64 2) := cell_of_row wr gw 2 _ _ (0, 0) HW6.out
        go_wp2
        go_quiet (fail)
        go_wp2
        go_roundw
        case rel => exact ⟨3, rfl, ⟨by omega⟩, ⟨below_drewN HR.out _⟩⟩
        case measure => simp [intOf]
      · have k0 : wr.cell? ⟨gt, 3, none⟩ = some (.int .i64 2) := cell_of_row wr gt 3 _ _ (0, 0) HA6.out
        have k1 : wr.cell? ⟨gw, 3, none⟩ = some (.int .i64 2) := cell_of_row wr gw 3 _ _ (0, 0) HW6.out
        go_wp2
        go_quiet (fail)
        go_wp2
        go_roundw
        case rel => exact ⟨4, rfl, ⟨by omega⟩, ⟨below_drewN HR.out _⟩⟩
        case measure => simp [intOf]
      · have k0 : wr.cell? ⟨gt, 4, none⟩ = some (.int .i64 0) := cell_of_row wr gt 4 _ _ (0, 0) HA6.out
        have k1 : wr.cell? ⟨gw, 4, none⟩ = some (.int .i64 0) := cell_of_row wr gw 4 _ _ (0, 0) HW6.out
        go_wp2
        go_quiet (fail)
        go_wp2
        go_roundw
        case rel => exact ⟨5, rfl, ⟨by omega⟩, ⟨below_drewN HR.out _⟩⟩
        case measure => simp [intOf]
      · have k0 : wr.cell? ⟨gt, 5, none⟩ = some (.int .i64 0) := cell_of_row wr gt 5 _ _ (0, 0) HA6.out
        have k1 : wr.cell? ⟨gw, 5, none⟩ = some (.int .i64 0) := cell_of_row wr gw 5 _ _ (0, 0) HW6.out
        go_wp2
        go_quiet (fail)
        go_wp2
        go_roundw
        case rel => exact ⟨6, rfl, ⟨by omega⟩, ⟨below_drewN HR.out _⟩⟩
        case measure => simp [intOf]
      · go_wp2_with fail
        refine (AT3 _).out.mono ?_
        rintro e w7 ⟨rfl, hb⟩
        have HL7 := Side.mk (HL6.out.below hb)
        have HB7 := Side.mk (below_then HB6.out HB6.out.size hb)
        clear hb
        go_upto_region 15 with (fail)
        have BX := Side.mk (Box2.new w7 .i64 1 6 26)
        have HL8 : Side (LS (w7.alloc (.cells #[.int .i64 1, .int .i64 6] 26)) gl (2, 3)) := ⟨HL7.out.below ((Below.refl _ w7).alloc (Nat.le_refl _) _)⟩
        have HB8 : Side (Below w.heap.size w (w7.alloc (.cells #[.int .i64 1, .int .i64 6] 26))) := ⟨below_alloc2 HB7.out _⟩
        obtain ⟨gx, hgx⟩ : ∃ g, g = w7.heap.size := ⟨_, rfl⟩
        rw [← hgx] at BX ⊢
        generalize (w7.alloc (.cells #[.int .i64 1, .int .i64 6] 26)) = w8 at *
        clear hgx
        have k0 := BX.out.c0
        have k1 := BX.out.c1
        have k2 := BX.out.lt
        go_wp2_with fail
        refine (Most_at _ _ _ HL8.out).mono ?_
        rintro e w9 ⟨rfl, hb⟩
        have HB9 := Side.mk (below_then HB8.out HB8.out.size hb)
        clear hb
        go_wp2
        go_ret
        exact ⟨rfl, HB9.out⟩
end Go.Proofs.Ytiemhmaijiifkaa.LKnown
