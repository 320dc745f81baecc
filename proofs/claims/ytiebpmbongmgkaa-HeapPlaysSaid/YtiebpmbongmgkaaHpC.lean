/- Package heap, third text: swap. No condition. -/
import Derived.Test.YtiebpmbongmgkaaHpB
set_option linter.unusedVariables false
set_option linter.unusedSimpArgs false
namespace Go.Proofs.Ytiebpmbongmgkaa.HpC
open Go.RowKit Go.Proofs.Ytiebpmbongmgkaa.Kit Go.Proofs.Ytiebpmbongmgkaa.Kit3 Go.Proofs.Ytiebpmbongmgkaa.Kit4 HpPlain Go.Maps Go.Proofs.Ytiebpmbongmgkaa.HpA Go.Proofs.Ytiebpmbongmgkaa.HpB
open Go.Proofs.YtiebpmbongmgkaaW.PrintLast
open Go.Proofs.YtiebpmbongmgkaaW.PrintWords (run_store_run)
theorem Hp.item {w : World} {B gh g cap bm n m : Nat} {kind : Int} {l : List It} {D : DD} (h : Hp w B gh kind (.slice (some ⟨g, 0, none⟩) m cap) bm n l D) (i : Nat) (hi : i < l.length) (r : Nat) (v : Value) (hr : (cl (at_ l i))[r]? = some v) : w.cell? ⟨g, i * 5 + r, none⟩ = some v := by
  rcases h.row.read with ⟨h0, _⟩ | ⟨g', cap', h0, _, _, _, _, _, h3⟩
  · simp at h0
  · simp at h0
    obtain ⟨rfl, _, _⟩ := h0
    exact h3 i _ (at_lt hi) r v hr
set_option maxHeartbeats 4000000 in
set_option maxRecDepth 100000 in
theorem swap_core (w : World) (B gh g cap bm n : Nat) (kind : Int) (l : List It) (D : DD) (h : Hp w B gh kind (.slice (some ⟨g, 0, none⟩) l.length cap) bm n l D) (hn : n < 900000) (i k : Nat) (hi : i < l.length) (hk : k < l.length) (hl : l.length ≤ 1000000) (x y : It) (ex : at_ l i = x) (ey : at_ l k = y) (hx : (kv x.1).wf = true) (hy : (kv y.1).wf = true) :
    Calls Try.prog 20 #[.pointer (some ⟨gh, 0, none⟩), .int .i64 i, .int .i64 k] w fun r w' => r = .returned (.tuple #[]) ∧
      Hp w' B gh kind (.slice (some ⟨g, 0, none⟩) l.length cap) bm (n + 2) ((l.set i y).set k x) ((D.put (kv y.1) (.lit (.int .i64 i))).put (kv x.1) (.lit (.int .i64 k))) ∧ Chg w w' (Foot gh bm (.slice (some ⟨g, 0, none⟩) l.length cap)) := by
  have HH := Side.mk h
  have hii : (i : Int) < l.length := by omega
  have hi0 : (0 : Int) ≤ i := by omega
  have hkk : (k : Int) < l.length := by omega
  have hk0 : (0 : Int) ≤ k := by omega
  have hc1 := h.c1
  have hgl := h.lt
  have hgg : g < w.heap.size := Row.lt h.row g rfl
  have bi := fun r v hr => Hp.item h i hi r v hr
  have bk := fun r v hr => Hp.item h k hk r v hr
  rw [ex] at bi
  rw [ey] at bk
  have x0 : w.cell? ⟨g, i * 5, none⟩ = _ := bi 0 _ rfl
  have x1 := bi 1 _ rfl
  have x2 := bi 2 _ rfl
  have x3 := bi 3 _ rfl
  have x4 := bi 4 _ rfl
  have y0 : w.cell? ⟨g, k * 5, none⟩ = _ := bk 0 _ rfl
  have y1 := bk 1 _ rfl
  have y2 := bk 2 _ rfl
  have y3 := bk 3 _ rfl
  have y4 := bk 4 _ rfl
  have HX := Side.mk hx
  have HY := Side.mk hy
  clear bi bk h ex ey hx hy
  go_enter Try.func20, Try.ntmps20
  go_upto_region 0 with (fail)
  refine start_ (n := 18) (S := fun w' => True) (ds := []) #[false, false, false, false, false, false, false, false, false, false, false, false, false, false, false, false, false, false] (by kernel_rfl) rfl rfl trivial (fun _ => ?_)
  refine inv_at (B := [0, 1, 3, 7, 0, 31, 63, 0, 128, 384, 896, 0, 3968, 8064, 0, 0, 16511, 131071]) [0, 1, 2, 3, 4, 5, 6, 7, 8, 9, 10, 11, 12, 13, 14, 15, 16, 17] (fun a0_ b a w' => ∃ p_ q_, a = putSel a0_ b [(0, 8, .pointer (some ⟨gh, 0, none⟩)), (1, 9, .pointer (some ⟨gh, 0, none⟩)), (2, 10, .pointer (some ⟨gh, 1, none⟩)), (3, 11, .slice (some ⟨g, 0, none⟩) l.length cap), (4, 12, .int .i64 i), (5, 13, .pointer (some ⟨g, i * 5, none⟩)), (6, 14, vl x), (7, 15, .pointer (some ⟨gh, 0, none⟩)), (8, 16, .pointer (some ⟨gh, 0, none⟩)), (9, 17, .pointer (some ⟨gh, 1, none⟩)), (10, 18, .slice (some ⟨g, 0, none⟩) l.length cap), (11, 19, .int .i64 k), (12, 20, .pointer (some ⟨g, k * 5, none⟩)), (13, 21, vl y), (14, 6, .pointer (some ⟨p_, 0, none⟩)), (15, 7, .pointer (some ⟨q_, 0, none⟩))] ∧ TB w.drew 56 5 p_ q_ (cl x) (cl y) 14 15 16 17 b w') rfl (by kernel_rfl) (by kernel_rfl) (by kernel_rfl) ?_ ?_ ?_
  · exact ⟨0, 0, by simp only [putSel, Bool.false_eq_true, if_false], TB.start⟩
  · refine steps_cons (by rintro b a w' ⟨p_, q_, ha, HI⟩ hb hon hoff; refine ⟨_, rfl, fun K hK => ?_⟩; have e0 := poff ha (t := 0) rfl rfl; exact value_ (v := .pointer (some ⟨gh, 0, none⟩)) (by rfl) rfl (by clear HI ha; go_simp) (hK.out _ _ ⟨p_, q_, upk ha 0 hb rfl rfl, HI.low (Below.refl _ _) 0 (by decide)⟩)) ?_
    refine steps_cons (by rintro b a w' ⟨p_, q_, ha, HI⟩ hb hon hoff; refine ⟨_, rfl, fun K hK => ?_⟩; have e8 := pon ha 0 (hon 0 rfl) rfl rfl rfl; exact value_ (v := .pointer (some ⟨gh, 0, none⟩)) (by rfl) rfl (by clear HI ha; go_simp) (hK.out _ _ ⟨p_, q_, upk ha 1 hb rfl rfl, HI.low (Below.refl _ _) 1 (by decide)⟩)) ?_
    refine steps_cons (by rintro b a w' ⟨p_, q_, ha, HI⟩ hb hon hoff; refine ⟨_, rfl, fun K hK => ?_⟩; have e9 := pon ha 1 (hon 1 rfl) rfl rfl rfl; exact value_ (v := .pointer (some ⟨gh, 1, none⟩)) (by rfl) rfl (by clear HI ha; go_simp) (hK.out _ _ ⟨p_, q_, upk ha 2 hb rfl rfl, HI.low (Below.refl _ _) 2 (by decide)⟩)) ?_
    refine steps_cons (by rintro b a w' ⟨p_, q_, ha, HI⟩ hb hon hoff; refine ⟨_, rfl, fun K hK => ?_⟩; have e10 := pon ha 2 (hon 2 rfl) rfl rfl rfl; have k0_ := bc HI.bel hgl hc1; have kz_ := bz HI.bel hgl; exact value_ (v := .slice (some ⟨g, 0, none⟩) l.length cap) (by rfl) rfl (by clear HI ha; go_simp) (hK.out _ _ ⟨p_, q_, upk ha 3 hb rfl rfl, HI.low (Below.refl _ _) 3 (by decide)⟩)) ?_
    refine steps_cons (by rintro b a w' ⟨p_, q_, ha, HI⟩ hb hon hoff; refine ⟨_, rfl, fun K hK => ?_⟩; have e1 := poff ha (t := 1) rfl rfl; exact value_ (v := .int .i64 i) (by rfl) rfl (by clear HI ha; go_simp) (hK.out _ _ ⟨p_, q_, upk ha 4 hb rfl rfl, HI.low (Below.refl _ _) 4 (by decide)⟩)) ?_
    refine steps_cons (by rintro b a w' ⟨p_, q_, ha, HI⟩ hb hon hoff; refine ⟨_, rfl, fun K hK => ?_⟩; have e11 := pon ha 3 (hon 3 rfl) rfl rfl rfl; have e12 := pon ha 4 (hon 4 rfl) rfl rfl rfl; exact value_ (v := .pointer (some ⟨g, i * 5, none⟩)) (by rfl) rfl (by clear HI ha; go_simp) (hK.out _ _ ⟨p_, q_, upk ha 5 hb rfl rfl, HI.low (Below.refl _ _) 5 (by decide)⟩)) ?_
    refine steps_cons (by rintro b a w' ⟨p_, q_, ha, HI⟩ hb hon hoff; refine ⟨_, rfl, fun K hK => ?_⟩; have e13 := pon ha 5 (hon 5 rfl) rfl rfl rfl; have k0_ := bc HI.bel hgg x0; have k1_ := bc HI.bel hgg x1; have k2_ := bc HI.bel hgg x2; have k3_ := bc HI.bel hgg x3; have k4_ := bc HI.bel hgg x4; have kz_ := bz HI.bel hgg; exact value_ (v := vl x) (by rfl) rfl (by clear HI ha; go_simp) (hK.out _ _ ⟨p_, q_, upk ha 6 hb rfl rfl, HI.low (Below.refl _ _) 6 (by decide)⟩)) ?_
    refine steps_cons (by rintro b a w' ⟨p_, q_, ha, HI⟩ hb hon hoff; refine ⟨_, rfl, fun K hK => ?_⟩; have e0 := poff ha (t := 0) rfl rfl; exact value_ (v := .pointer (some ⟨gh, 0, none⟩)) (by rfl) rfl (by clear HI ha; go_simp) (hK.out _ _ ⟨p_, q_, upk ha 7 hb rfl rfl, HI.low (Below.refl _ _) 7 (by decide)⟩)) ?_
    refine steps_cons (by rintro b a w' ⟨p_, q_, ha, HI⟩ hb hon hoff; refine ⟨_, rfl, fun K hK => ?_⟩; have e15 := pon ha 7 (hon 7 rfl) rfl rfl rfl; exact value_ (v := .pointer (some ⟨gh, 0, none⟩)) (by rfl) rfl (by clear HI ha; go_simp) (hK.out _ _ ⟨p_, q_, upk ha 8 hb rfl rfl, HI.low (Below.refl _ _) 8 (by decide)⟩)) ?_
    refine steps_cons (by rintro b a w' ⟨p_, q_, ha, HI⟩ hb hon hoff; refine ⟨_, rfl, fun K hK => ?_⟩; have e16 := pon ha 8 (hon 8 rfl) rfl rfl rfl; exact value_ (v := .pointer (some ⟨gh, 1, none⟩)) (by rfl) rfl (by clear HI ha; go_simp) (hK.out _ _ ⟨p_, q_, upk ha 9 hb rfl rfl, HI.low (Below.refl _ _) 9 (by decide)⟩)) ?_
    refine steps_cons (by rintro b a w' ⟨p_, q_, ha, HI⟩ hb hon hoff; refine ⟨_, rfl, fun K hK => ?_⟩; have e17 := pon ha 9 (hon 9 rfl) rfl rfl rfl; have k0_ := bc HI.bel hgl hc1; have kz_ := bz HI.bel hgl; exact value_ (v := .slice (some ⟨g, 0, none⟩) l.length cap) (by rfl) rfl (by clear HI ha; go_simp) (hK.out _ _ ⟨p_, q_, upk ha 10 hb rfl rfl, HI.low (Below.refl _ _) 10 (by decide)⟩)) ?_
    refine steps_cons (by rintro b a w' ⟨p_, q_, ha, HI⟩ hb hon hoff; refine ⟨_, rfl, fun K hK => ?_⟩; have e2 := poff ha (t := 2) rfl rfl; exact value_ (v := .int .i64 k) (by rfl) rfl (by clear HI ha; go_simp) (hK.out _ _ ⟨p_, q_, upk ha 11 hb rfl rfl, HI.low (Below.refl _ _) 11 (by decide)⟩)) ?_
    refine steps_cons (by rintro b a w' ⟨p_, q_, ha, HI⟩ hb hon hoff; refine ⟨_, rfl, fun K hK => ?_⟩; have e18 := pon ha 10 (hon 10 rfl) rfl rfl rfl; have e19 := pon ha 11 (hon 11 rfl) rfl rfl rfl; exact value_ (v := .pointer (some ⟨g, k * 5, none⟩)) (by rfl) rfl (by clear HI ha; go_simp) (hK.out _ _ ⟨p_, q_, upk ha 12 hb rfl rfl, HI.low (Below.refl _ _) 12 (by decide)⟩)) ?_
    refine steps_cons (by rintro b a w' ⟨p_, q_, ha, HI⟩ hb hon hoff; refine ⟨_, rfl, fun K hK => ?_⟩; have e20 := pon ha 12 (hon 12 rfl) rfl rfl rfl; have k0_ := bc HI.bel hgg y0; have k1_ := bc HI.bel hgg y1; have k2_ := bc HI.bel hgg y2; have k3_ := bc HI.bel hgg y3; have k4_ := bc HI.bel hgg y4; have kz_ := bz HI.bel hgg; exact value_ (v := vl y) (by rfl) rfl (by clear HI ha; go_simp) (hK.out _ _ ⟨p_, q_, upk ha 13 hb rfl rfl, HI.low (Below.refl _ _) 13 (by decide)⟩)) ?_
    refine steps_cons (by rintro b a w' ⟨p_, q_, ha, HI⟩ hb hon hoff; refine ⟨_, rfl, fun K hK => ?_⟩; exact value_ (w1 := w'.alloc (.cells #[.int .i64 0, .int .i64 0, .int .i64 0, .int .i64 0, .int .i64 0] 56)) (v := .pointer (some ⟨w'.heap.size, 0, none⟩)) (by rfl) rfl (by clear HI ha; go_simp) (hK.out _ _ ⟨w'.heap.size, q_, by rw [ha]; exact putSel_upk 14 hb rfl rfl rfl, HI.al1 #[.int .i64 0, .int .i64 0, .int .i64 0, .int .i64 0, .int .i64 0] rfl (hoff 16 rfl) (by decide)⟩)) ?_
    refine steps_cons (by rintro b a w' ⟨p_, q_, ha, HI⟩ hb hon hoff; refine ⟨_, rfl, fun K hK => ?_⟩; exact value_ (w1 := w'.alloc (.cells #[.int .i64 0, .int .i64 0, .int .i64 0, .int .i64 0, .int .i64 0] 56)) (v := .pointer (some ⟨w'.heap.size, 0, none⟩)) (by rfl) rfl (by clear HI ha; go_simp) (hK.out _ _ ⟨p_, w'.heap.size, by rw [ha]; exact putSel_upk 15 hb rfl rfl rfl, HI.al2 #[.int .i64 0, .int .i64 0, .int .i64 0, .int .i64 0, .int .i64 0] rfl (hoff 17 rfl) (by decide)⟩)) ?_
    refine steps_cons (by rintro b a w' ⟨p_, q_, ha, HI⟩ hb hon hoff; refine ⟨_, rfl, fun K hK => ?_⟩; have e6 := pon ha 14 (hon 14 rfl) rfl rfl rfl; have e14 := pon ha 6 (hon 6 rfl) rfl rfl rfl; have hst := run_own (P := Try.prog) (c := cl x) (HI.o1 (hon 14 rfl)) (vl x) rfl (by kernel_rfl) rfl (by intro q hq; simp [cl] at hq; rcases hq with rfl | rfl | rfl | rfl | rfl <;> rfl); exact skip_ (w1 := w'.setCells p_ 0 (cl x)) (by rfl) rfl (by unfold execOp; simp [Act.eval, e6, e14, hst]) (hK.out _ _ ⟨p_, q_, ups ha rfl, HI.st1 rfl (hon 14 rfl) (by decide)⟩)) ?_
    refine steps_cons (by rintro b a w' ⟨p_, q_, ha, HI⟩ hb hon hoff; refine ⟨_, rfl, fun K hK => ?_⟩; have e7 := pon ha 15 (hon 15 rfl) rfl rfl rfl; have e21 := pon ha 13 (hon 13 rfl) rfl rfl rfl; have hst := run_own (P := Try.prog) (c := cl y) (HI.o2 (hon 15 rfl)) (vl y) rfl (by kernel_rfl) rfl (by intro q hq; simp [cl] at hq; rcases hq with rfl | rfl | rfl | rfl | rfl <;> rfl); exact skip_ (w1 := w'.setCells q_ 0 (cl y)) (by rfl) rfl (by unfold execOp; simp [Act.eval, e7, e21, hst]) (hK.out _ _ ⟨p_, q_, ups ha rfl, HI.st2 rfl (hon 15 rfl) (by decide)⟩)) ?_
    exact steps_nil
  · rintro b a w' hall ⟨p_, q_, ha, HI⟩
    have hb0_ := hall 0 rfl; have hb1_ := hall 1 rfl; have hb2_ := hall 2 rfl; have hb3_ := hall 3 rfl; have hb4_ := hall 4 rfl; have hb5_ := hall 5 rfl; have hb6_ := hall 6 rfl; have hb7_ := hall 7 rfl
    have hb8_ := hall 8 rfl; have hb9_ := hall 9 rfl; have hb10_ := hall 10 rfl; have hb11_ := hall 11 rfl; have hb12_ := hall 12 rfl; have hb13_ := hall 13 rfl; have hb14_ := hall 14 rfl; have hb15_ := hall 15 rfl
    have hb16_ := hall 16 rfl; have hb17_ := hall 17 rfl
    subst ha
    simp only [putSel, hb0_, hb1_, hb2_, hb3_, hb4_, hb5_, hb6_, hb7_, hb8_, hb9_, hb10_, hb11_, hb12_, hb13_, hb14_, hb15_, if_true, Act.put, List.setIfInBounds_toArray, List.set_cons_zero, List.set_cons_succ]
    have VX := HI.v1 hb16_
    have VY := HI.v2 hb17_
    have HBL := HI.bel
    have HB' := Side.mk (below_then (below_drew (Below.refl _ w)) (Nat.le_refl _) HBL : Below w.heap.size w w')
    have HH' := Side.mk (HH.out.below HB'.out)
    have hpl : w.heap.size ≤ p_ := (HI.o1 hb14_).1
    have hql : w.heap.size ≤ q_ := (HI.o2 hb15_).1
    have u0 := VY.cell 0 _ rfl
    have u1 := VY.cell 1 _ rfl
    have u2 := VY.cell 2 _ rfl
    have u3 := VY.cell 3 _ rfl
    have u4 := VY.cell 4 _ rfl
    have VX := Side.mk VX
    have HF : Side (∀ k, k = p_ → ¬ Foot gh bm (.slice (some ⟨g, 0, none⟩) l.length cap) k) := ⟨by
      rintro k rfl (rfl | rfl | h)
      · omega
      · have := HH.out.map.lt; omega
      · simp [Value.ownBlock] at h; omega⟩
    clear HBL x0 x1 x2 x3 x4 y0 y1 y2 y3 y4 VY hpl hql hc1
    refine ‹∀ (a : Act) (w : World), Code.wp Try.prog _ _ a w → _› _ _ ?_
    clear HI hall
    go_wp2_with fail
    refine (set_at w' B gh g cap bm n kind l D HH'.out (by omega) i hi hl y HY.out).mono ?_
    rintro e w2 ⟨rfl, hp2, hc2⟩
    have HP2 := Side.mk hp2
    have HC2 := Side.mk (Chg.trans (Chg.of_below HB'.out) hc2 (fun _ _ h => h))
    have v2 := VX.out.move (hc2.block p_ VX.out.lt (HF.out _ rfl))
    have u0 : w2.cell? ⟨p_, 0, none⟩ = _ := v2.cell 0 _ rfl
    have u1 : w2.cell? ⟨p_, 1, none⟩ = _ := v2.cell 1 _ rfl
    have u2 : w2.cell? ⟨p_, 2, none⟩ = _ := v2.cell 2 _ rfl
    have u3 : w2.cell? ⟨p_, 3, none⟩ = _ := v2.cell 3 _ rfl
    have u4 : w2.cell? ⟨p_, 4, none⟩ = _ := v2.cell 4 _ rfl
    clear hp2 hc2 v2
    go_wp2_with fail
    have hle : (l.set i y).length = l.length := by simp
    have S := set_at w2 B gh g cap bm (n + 1) kind (l.set i y) (D.put (kv y.1) (.lit (.int .i64 i))) (by rw [hle]; exact HP2.out) (by omega) k (by rw [hle]; exact hk) (by rw [hle]; exact hl) x HX.out
    rw [hle] at S
    refine S.mono ?_
    rintro e w3 ⟨rfl, hp3, hc3⟩
    have HP3 := Side.mk hp3
    have HC3 := Side.mk (Chg.trans HC2.out hc3 (fun _ _ h => h))
    clear hp3 hc3 hle S
    go_wp2_with fail
    exact bodyPost_end (results_none rfl _ _ _) rfl ⟨rfl, HP3.out, HC3.out⟩
end Go.Proofs.Ytiebpmbongmgkaa.HpC
