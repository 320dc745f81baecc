/- Package heap: the walk of HeapPlays. No condition. -/
import Derived.Test.YtiebpmbongmgkaaHpUp
import Derived.Test.YtiebpmbongmgkaaHpS
import Derived.Test.YtiebpmbongmgkaaHpT
import Derived.Test.YtiebpmbongmgkaaHpR
set_option linter.unusedVariables false
set_option linter.unusedSimpArgs false
namespace Go.Proofs.Ytiebpmbongmgkaa.HpU9
open Go.RowKit Go.Proofs.Ytiebpmbongmgkaa.Kit Go.Proofs.Ytiebpmbongmgkaa.Kit2 Go.Proofs.Ytiebpmbongmgkaa.Kit3 Go.Proofs.Ytiebpmbongmgkaa.Kit4 Go.Proofs.Ytiebpmbongmgkaa.Kit5 HpPlain Go.Maps Go.Proofs.Ytiebpmbongmgkaa.HpA Go.Proofs.Ytiebpmbongmgkaa.HpB Go.Proofs.Ytiebpmbongmgkaa.HpE Go.Proofs.Ytiebpmbongmgkaa.HpG Go.Proofs.Ytiebpmbongmgkaa.HpI Go.Proofs.Ytiebpmbongmgkaa.HpK Go.Proofs.Ytiebpmbongmgkaa.HpL Go.Proofs.Ytiebpmbongmgkaa.HpN Go.Proofs.Ytiebpmbongmgkaa.HpO Go.Proofs.Ytiebpmbongmgkaa.HpP Go.Proofs.Ytiebpmbongmgkaa.HpT Go.Proofs.Ytiebpmbongmgkaa.HpR
open Go.Proofs.YtiebpmbongmgkaaW.PrintLast
set_option maxHeartbeats 400000000 in
set_option maxRecDepth 100000 in
theorem piece : HpUp.part.2.2.2.2.2.2.2.2.1 := by
  set_option tactic.hygienic false in (intro _; intros)
  obtain ⟨g7, rfl, -, hgl, -, hcc, -⟩ := HC.out.row.get E6 (by rintro rfl; simp at hq)
  obtain ⟨-, -, -, hcm, -⟩ := HC.out.row.read E6 |>.elim (fun h => by simp at h) (fun ⟨g, cap, h, _, _, _, hm, _⟩ => (⟨trivial, trivial, trivial, (by simp at h; rw [h.2]; exact hm), trivial⟩ : True ∧ True ∧ True ∧ c7 ≤ maxLen ∧ True))
  have hcl : (c7 : Int) ≤ 9223372036854775807 := by unfold maxLen at hcm; omega
  have HTK := Side.mk (fun w' (hb : Below wc.drew.heap.size wc.drew w') => cells_take HC.out.row (below_then (below_drew (Below.refl _ wc)) (Nat.le_refl _) hb : Below wc.heap.size wc w') q)
  have HLE : Side (ms2.length ≤ 201) := ⟨by omega⟩
  have HX1 : Side ((ms2.take q).length = q) := ⟨by simp; omega⟩
  have hq0 : (0 : Int) ≤ q := by omega
  have hqi : (q : Int) < ms2.length := by omega
  have hq1 : (q : Int) + 1 ≤ 9223372036854775807 := by omega
  have hqc : (q : Int) ≤ c7 := by omega
  have hq1n : (q : Int) + 1 ≤ ms2.length := by omega
  clear hcm
  have HW1 := Side.mk (Go.IntWalk.i64_in ((q : Int) + 1) (by omega))
  have HX2 : Side ((ms2.drop (q + 1)).length = ms2.length - (q + 1)) := ⟨by simp⟩
  by_cases hcap : c7 = q + 1
  · have hd0 : ms2.drop (q + 1) = [] := List.drop_eq_nil_of_le (by omega)
    have HDR : Side (∀ w', Below wc.drew.heap.size wc.drew w' → ∀ (j : Nat) (x : De), (ms2.drop (q + 1))[j]? = some x → ∀ (r : Nat) (u : Value), (dcl x)[r]? = some u → w'.cell? ((⟨g7, 0, none⟩ : Addr).add (j * 6 + r)) = some u) := ⟨fun w' _ j x hx => by rw [hd0] at hx; simp at hx⟩
    clear hd0
    go_upto_region 49 with (fail)
    refine start_ (n := 11) (S := fun w' => True) (ds := []) #[false, false, false, false, false, false, false, false, false, false, false] (by kernel_rfl) rfl rfl trivial (fun _ => ?_)
    refine inv_at (B := [0, 0, 0, 6, 15, 0, 0, 64, 224, 511, 1023]) [0, 1, 2, 3, 4, 5, 6, 7, 8, 9, 10] (fun a0_ b a w' => ∃ va_ vb_ vc_, a = putSel a0_ b [(0, 175, .slice (some ⟨wc.heap.size, 0, none⟩) 0 0), (1, 176, .slice (some ⟨g7, 0, none⟩) ms2.length c7), (2, 177, .int .i64 q), (3, 178, .slice (some ⟨g7, 0, none⟩) q c7), (4, 179, va_), (5, 180, .slice (some ⟨g7, 0, none⟩) ms2.length c7), (6, 181, .int .i64 q), (7, 182, .int .i64 (q + 1)), (8, 183, .slice (some ⟨g7, 0, none⟩) (ms2.length - (q + 1)) (c7 - (q + 1))), (9, 184, vb_), (10, 6, vc_)] ∧ Ap wc.drew wc.heap.size (ms2.take q) (ms2.drop (q + 1)) b va_ vb_ vc_ w') rfl (by kernel_rfl) (by kernel_rfl) (by kernel_rfl) ?_ ?_ ?_
    · exact ⟨.bool false, .bool false, .bool false, by simp only [putSel, Bool.false_eq_true, if_false], Ap.start⟩
    · refine steps_cons (by rintro b a w' ⟨va_, vb_, vc_, ha, HI⟩ hb hon hoff; refine ⟨_, rfl, fun K hK => ?_⟩; have hw_ := HI.n0 hb; subst hw_; exact value_ (w1 := wc.drew.alloc (.cells #[] 42)) (v := .slice (some ⟨wc.heap.size, 0, none⟩) 0 0) (by rfl) rfl (by clear HI ha; go_simp) (hK.out _ _ ⟨va_, vb_, vc_, upk ha 0 hb rfl rfl, HI.s0 hb (hoff 4 rfl) (hoff 9 rfl) (hoff 10 rfl) rfl⟩)) ?_
      refine steps_cons (by rintro b a w' ⟨va_, vb_, vc_, ha, HI⟩ hb hon hoff; refine ⟨_, rfl, fun K hK => ?_⟩; have e6 := poffb ha (t := 6) (hoff 10 rfl) rfl rfl; exact value_ (v := .slice (some ⟨g7, 0, none⟩) ms2.length c7) (by rfl) rfl (by clear HI ha; go_simp) (hK.out _ _ ⟨va_, vb_, vc_, upk ha 1 hb rfl rfl, HI.low 1 (by decide)⟩)) ?_
      refine steps_cons (by rintro b a w' ⟨va_, vb_, vc_, ha, HI⟩ hb hon hoff; refine ⟨_, rfl, fun K hK => ?_⟩; have e12 := poff ha (t := 12) rfl rfl; exact value_ (v := .int .i64 q) (by rfl) rfl (by clear HI ha; go_simp) (hK.out _ _ ⟨va_, vb_, vc_, upk ha 2 hb rfl rfl, HI.low 2 (by decide)⟩)) ?_
      refine steps_cons (by rintro b a w' ⟨va_, vb_, vc_, ha, HI⟩ hb hon hoff; refine ⟨_, rfl, fun K hK => ?_⟩; have e176 := pon ha 1 (hon 1 rfl) rfl rfl rfl; have e177 := pon ha 2 (hon 2 rfl) rfl rfl rfl; exact value_ (v := .slice (some ⟨g7, 0, none⟩) q c7) (by rfl) rfl (by clear HI ha; go_simp; try (intro h__; exfalso; omega)) (hK.out _ _ ⟨va_, vb_, vc_, upk ha 3 hb rfl rfl, HI.low 3 (by decide)⟩)) ?_
      refine steps_cons (by rintro b a w' ⟨va_, vb_, vc_, ha, HI⟩ hb hon hoff; refine ⟨_, rfl, fun K hK => ?_⟩; have e175 := pon ha 0 (hon 0 rfl) rfl rfl rfl; have e178 := pon ha 3 (hon 3 rfl) rfl rfl rfl; obtain ⟨v', w3, p1, p2, p3, -, -⟩ := run_gapp E6 Try.underlying40 infoD rfl (by decide) 40 (HI.r0 (hon 0 rfl) hb) ⟨g7, 0, none⟩ c7 (ms2.take q) (HTK.out w' HI.bel) (by have h__ := HLE.out; simp; omega) HI.bel.size; rw [HX1.out] at p1; exact value_ (w1 := w3) (v := v') (by rfl) rfl (exec_app rfl (by simp [Act.eval, e175]) (by simp [Act.eval, e178]) p1) (hK.out _ _ ⟨v', vb_, vc_, by rw [ha]; exact putSel_upk 4 hb rfl rfl rfl, HI.s4 (Nat.le_refl _) (hoff 9 rfl) (hoff 10 rfl) (hon 0 rfl) p2 p3⟩)) ?_
      refine steps_cons (by rintro b a w' ⟨va_, vb_, vc_, ha, HI⟩ hb hon hoff; refine ⟨_, rfl, fun K hK => ?_⟩; have e6 := poffb ha (t := 6) (hoff 10 rfl) rfl rfl; exact value_ (v := .slice (some ⟨g7, 0, none⟩) ms2.length c7) (by rfl) rfl (by clear HI ha; go_simp) (hK.out _ _ ⟨va_, vb_, vc_, upk ha 5 hb rfl rfl, HI.low 5 (by decide)⟩)) ?_
      refine steps_cons (by rintro b a w' ⟨va_, vb_, vc_, ha, HI⟩ hb hon hoff; refine ⟨_, rfl, fun K hK => ?_⟩; have e12 := poff ha (t := 12) rfl rfl; exact value_ (v := .int .i64 q) (by rfl) rfl (by clear HI ha; go_simp) (hK.out _ _ ⟨va_, vb_, vc_, upk ha 6 hb rfl rfl, HI.low 6 (by decide)⟩)) ?_
      refine steps_cons (by rintro b a w' ⟨va_, vb_, vc_, ha, HI⟩ hb hon hoff; refine ⟨_, rfl, fun K hK => ?_⟩; have e181 := pon ha 6 (hon 6 rfl) rfl rfl rfl; exact value_ (v := .int .i64 (q + 1)) (by rfl) rfl (by clear HI ha; go_simp; exact HW1.out) (hK.out _ _ ⟨va_, vb_, vc_, upk ha 7 hb rfl rfl, HI.low 7 (by decide)⟩)) ?_
      refine steps_cons (by rintro b a w' ⟨va_, vb_, vc_, ha, HI⟩ hb hon hoff; refine ⟨_, rfl, fun K hK => ?_⟩; have e180 := pon ha 5 (hon 5 rfl) rfl rfl rfl; have e182 := pon ha 7 (hon 7 rfl) rfl rfl rfl; exact value_ (v := .slice (some ⟨g7, 0, none⟩) (ms2.length - (q + 1)) (c7 - (q + 1))) (by rfl) rfl (by clear HI ha; go_simp; intro h__; exfalso; omega) (hK.out _ _ ⟨va_, vb_, vc_, upk ha 8 hb rfl rfl, HI.low 8 (by decide)⟩)) ?_
      refine steps_cons (by rintro b a w' ⟨va_, vb_, vc_, ha, HI⟩ hb hon hoff; refine ⟨_, rfl, fun K hK => ?_⟩; have e179 := pon ha 4 (hon 4 rfl) rfl rfl rfl; have e183 := pon ha 8 (hon 8 rfl) rfl rfl rfl; obtain ⟨v', w3, p1, p2, p3, -, -⟩ := run_gapp E6 Try.underlying40 infoD rfl (by decide) 40 (HI.r4 (hon 4 rfl) hb) ⟨g7, 0, none⟩ (c7 - (q + 1)) (ms2.drop (q + 1)) (HDR.out w' HI.bel) (by have h__ := HLE.out; simp; omega) HI.bel.size; rw [HX2.out] at p1; exact value_ (w1 := w3) (v := v') (by rfl) rfl (exec_app rfl (by simp [Act.eval, e179]) (by simp [Act.eval, e183]) p1) (hK.out _ _ ⟨va_, v', vc_, by rw [ha]; exact putSel_upk 9 hb rfl rfl rfl, HI.s9 (hoff 10 rfl) (hon 4 rfl) (hon 0 rfl) hb p2 p3⟩)) ?_
      refine steps_cons (by rintro b a w' ⟨va_, vb_, vc_, ha, HI⟩ hb hon hoff; refine ⟨_, rfl, fun K hK => ?_⟩; have e184 := pon ha 9 (hon 9 rfl) rfl rfl rfl; exact value_ (w1 := w') (v := vb_) (by rfl) rfl (by clear HI ha; go_simp) (hK.out _ _ ⟨va_, vb_, vb_, by rw [ha]; exact putSel_upk 10 hb rfl rfl rfl, HI.s10⟩)) ?_
      exact steps_nil
    · rintro b a w' hall ⟨va_, vb_, vc_, ha, HI⟩
      have hb0_ := hall 0 rfl; have hb1_ := hall 1 rfl; have hb2_ := hall 2 rfl; have hb3_ := hall 3 rfl; have hb4_ := hall 4 rfl; have hb5_ := hall 5 rfl; have hb6_ := hall 6 rfl; have hb7_ := hall 7 rfl
      have hb8_ := hall 8 rfl; have hb9_ := hall 9 rfl; have hb10_ := hall 10 rfl
      subst ha
      simp only [putSel, hb0_, hb1_, hb2_, hb3_, hb4_, hb5_, hb6_, hb7_, hb8_, hb9_, hb10_, if_true, Act.put, List.setIfInBounds_toArray, List.set_cons_zero, List.set_cons_succ]
      have hr := HI.r9 hb9_
      rw [← HI.r10 hb10_] at hr
      have hB := (below_then (below_drew (Below.refl _ wc)) (Nat.le_refl _) HI.bel : Below wc.heap.size wc w')
      clear hall HI hb0_ hb1_ hb2_ hb3_ hb4_ hb5_ hb6_ hb7_ hb8_ hb9_ hb10_
      refine ‹∀ (a : Act) (w : World), Code.wp Try.prog _ _ a w → _› _ _ ?_
      have HP2 : Side (Pl w gh kind vc_ (rem ms2 q) w') := ⟨⟨HC.out.st.below' hB, by rw [rem_some]; exact GRow.lower hr HC.out.st.below.size⟩⟩
      have hl3 : (rem ms2 q).length ≤ i + 1 := by rw [rem_some]; simp; omega
      clear HC HX1 HX2 HTK HDR HLE hr hB
      generalize rem ms2 q = ms3 at *
      obtain ⟨a9, c9, rfl, -, -⟩ := HP2.out.row.shape E6
      go_wp2_with fail
      refine (Len_st (HP2.out.st.below' (by (repeat (with_reducible first | exact Below.refl _ _ | apply below_drewN | apply below_drew | apply below_alloc)))) ms3.length (its_len _)).mono ?_
      rintro e w3 ⟨rfl, rfl⟩
      have HPP := Side.mk (fun w' hb => Pl.below (w' := w') HP2.out hb)
      clear HP2
      go_wp2
      go_roundw
      case rel => exact ⟨i + 1, ms3, by simp, by omega, hl3, ⟨HPP.out _ (by (repeat (with_reducible first | exact Below.refl _ _ | apply below_drewN | apply below_drew | apply below_alloc)))⟩⟩
      case measure => simp [intOf]; omega
  · have HDR := Side.mk (fun w' (hb : Below wc.drew.heap.size wc.drew w') => cells_drop HC.out.row (below_then (below_drew (Below.refl _ wc)) (Nat.le_refl _) hb : Below wc.heap.size wc w') (q + 1))
    go_upto_region 49 with (fail)
    refine start_ (n := 11) (S := fun w' => True) (ds := []) #[false, false, false, false, false, false, false, false, false, false, false] (by kernel_rfl) rfl rfl trivial (fun _ => ?_)
    refine inv_at (B := [0, 0, 0, 6, 15, 0, 0, 64, 224, 511, 1023]) [0, 1, 2, 3, 4, 5, 6, 7, 8, 9, 10] (fun a0_ b a w' => ∃ va_ vb_ vc_, a = putSel a0_ b [(0, 175, .slice (some ⟨wc.heap.size, 0, none⟩) 0 0), (1, 176, .slice (some ⟨g7, 0, none⟩) ms2.length c7), (2, 177, .int .i64 q), (3, 178, .slice (some ⟨g7, 0, none⟩) q c7), (4, 179, va_), (5, 180, .slice (some ⟨g7, 0, none⟩) ms2.length c7), (6, 181, .int .i64 q), (7, 182, .int .i64 (q + 1)), (8, 183, .slice (some ⟨g7, (q + 1) * 6, none⟩) (ms2.length - (q + 1)) (c7 - (q + 1))), (9, 184, vb_), (10, 6, vc_)] ∧ Ap wc.drew wc.heap.size (ms2.take q) (ms2.drop (q + 1)) b va_ vb_ vc_ w') rfl (by kernel_rfl) (by kernel_rfl) (by kernel_rfl) ?_ ?_ ?_
    · exact ⟨.bool false, .bool false, .bool false, by simp only [putSel, Bool.false_eq_true, if_false], Ap.start⟩
    · refine steps_cons (by rintro b a w' ⟨va_, vb_, vc_, ha, HI⟩ hb hon hoff; refine ⟨_, rfl, fun K hK => ?_⟩; have hw_ := HI.n0 hb; subst hw_; exact value_ (w1 := wc.drew.alloc (.cells #[] 42)) (v := .slice (some ⟨wc.heap.size, 0, none⟩) 0 0) (by rfl) rfl (by clear HI ha; go_simp) (hK.out _ _ ⟨va_, vb_, vc_, upk ha 0 hb rfl rfl, HI.s0 hb (hoff 4 rfl) (hoff 9 rfl) (hoff 10 rfl) rfl⟩)) ?_
      refine steps_cons (by rintro b a w' ⟨va_, vb_, vc_, ha, HI⟩ hb hon hoff; refine ⟨_, rfl, fun K hK => ?_⟩; have e6 := poffb ha (t := 6) (hoff 10 rfl) rfl rfl; exact value_ (v := .slice (some ⟨g7, 0, none⟩) ms2.length c7) (by rfl) rfl (by clear HI ha; go_simp) (hK.out _ _ ⟨va_, vb_, vc_, upk ha 1 hb rfl rfl, HI.low 1 (by decide)⟩)) ?_
      refine steps_cons (by rintro b a w' ⟨va_, vb_, vc_, ha, HI⟩ hb hon hoff; refine ⟨_, rfl, fun K hK => ?_⟩; have e12 := poff ha (t := 12) rfl rfl; exact value_ (v := .int .i64 q) (by rfl) rfl (by clear HI ha; go_simp) (hK.out _ _ ⟨va_, vb_, vc_, upk ha 2 hb rfl rfl, HI.low 2 (by decide)⟩)) ?_
      refine steps_cons (by rintro b a w' ⟨va_, vb_, vc_, ha, HI⟩ hb hon hoff; refine ⟨_, rfl, fun K hK => ?_⟩; have e176 := pon ha 1 (hon 1 rfl) rfl rfl rfl; have e177 := pon ha 2 (hon 2 rfl) rfl rfl rfl; exact value_ (v := .slice (some ⟨g7, 0, none⟩) q c7) (by rfl) rfl (by clear HI ha; go_simp; try (intro h__; exfalso; omega)) (hK.out _ _ ⟨va_, vb_, vc_, upk ha 3 hb rfl rfl, HI.low 3 (by decide)⟩)) ?_
      refine steps_cons (by rintro b a w' ⟨va_, vb_, vc_, ha, HI⟩ hb hon hoff; refine ⟨_, rfl, fun K hK => ?_⟩; have e175 := pon ha 0 (hon 0 rfl) rfl rfl rfl; have e178 := pon ha 3 (hon 3 rfl) rfl rfl rfl; obtain ⟨v', w3, p1, p2, p3, -, -⟩ := run_gapp E6 Try.underlying40 infoD rfl (by decide) 40 (HI.r0 (hon 0 rfl) hb) ⟨g7, 0, none⟩ c7 (ms2.take q) (HTK.out w' HI.bel) (by have h__ := HLE.out; simp; omega) HI.bel.size; rw [HX1.out] at p1; exact value_ (w1 := w3) (v := v') (by rfl) rfl (exec_app rfl (by simp [Act.eval, e175]) (by simp [Act.eval, e178]) p1) (hK.out _ _ ⟨v', vb_, vc_, by rw [ha]; exact putSel_upk 4 hb rfl rfl rfl, HI.s4 (Nat.le_refl _) (hoff 9 rfl) (hoff 10 rfl) (hon 0 rfl) p2 p3⟩)) ?_
      refine steps_cons (by rintro b a w' ⟨va_, vb_, vc_, ha, HI⟩ hb hon hoff; refine ⟨_, rfl, fun K hK => ?_⟩; have e6 := poffb ha (t := 6) (hoff 10 rfl) rfl rfl; exact value_ (v := .slice (some ⟨g7, 0, none⟩) ms2.length c7) (by rfl) rfl (by clear HI ha; go_simp) (hK.out _ _ ⟨va_, vb_, vc_, upk ha 5 hb rfl rfl, HI.low 5 (by decide)⟩)) ?_
      refine steps_cons (by rintro b a w' ⟨va_, vb_, vc_, ha, HI⟩ hb hon hoff; refine ⟨_, rfl, fun K hK => ?_⟩; have e12 := poff ha (t := 12) rfl rfl; exact value_ (v := .int .i64 q) (by rfl) rfl (by clear HI ha; go_simp) (hK.out _ _ ⟨va_, vb_, vc_, upk ha 6 hb rfl rfl, HI.low 6 (by decide)⟩)) ?_
      refine steps_cons (by rintro b a w' ⟨va_, vb_, vc_, ha, HI⟩ hb hon hoff; refine ⟨_, rfl, fun K hK => ?_⟩; have e181 := pon ha 6 (hon 6 rfl) rfl rfl rfl; exact value_ (v := .int .i64 (q + 1)) (by rfl) rfl (by clear HI ha; go_simp; exact HW1.out) (hK.out _ _ ⟨va_, vb_, vc_, upk ha 7 hb rfl rfl, HI.low 7 (by decide)⟩)) ?_
      refine steps_cons (by rintro b a w' ⟨va_, vb_, vc_, ha, HI⟩ hb hon hoff; refine ⟨_, rfl, fun K hK => ?_⟩; have e180 := pon ha 5 (hon 5 rfl) rfl rfl rfl; have e182 := pon ha 7 (hon 7 rfl) rfl rfl rfl; exact value_ (v := .slice (some ⟨g7, (q + 1) * 6, none⟩) (ms2.length - (q + 1)) (c7 - (q + 1))) (by rfl) rfl (by clear HI ha; go_simp; intro h__; exfalso; omega) (hK.out _ _ ⟨va_, vb_, vc_, upk ha 8 hb rfl rfl, HI.low 8 (by decide)⟩)) ?_
      refine steps_cons (by rintro b a w' ⟨va_, vb_, vc_, ha, HI⟩ hb hon hoff; refine ⟨_, rfl, fun K hK => ?_⟩; have e179 := pon ha 4 (hon 4 rfl) rfl rfl rfl; have e183 := pon ha 8 (hon 8 rfl) rfl rfl rfl; obtain ⟨v', w3, p1, p2, p3, -, -⟩ := run_gapp E6 Try.underlying40 infoD rfl (by decide) 40 (HI.r4 (hon 4 rfl) hb) ⟨g7, (q + 1) * 6, none⟩ (c7 - (q + 1)) (ms2.drop (q + 1)) (HDR.out w' HI.bel) (by have h__ := HLE.out; simp; omega) HI.bel.size; rw [HX2.out] at p1; exact value_ (w1 := w3) (v := v') (by rfl) rfl (exec_app rfl (by simp [Act.eval, e179]) (by simp [Act.eval, e183]) p1) (hK.out _ _ ⟨va_, v', vc_, by rw [ha]; exact putSel_upk 9 hb rfl rfl rfl, HI.s9 (hoff 10 rfl) (hon 4 rfl) (hon 0 rfl) hb p2 p3⟩)) ?_
      refine steps_cons (by rintro b a w' ⟨va_, vb_, vc_, ha, HI⟩ hb hon hoff; refine ⟨_, rfl, fun K hK => ?_⟩; have e184 := pon ha 9 (hon 9 rfl) rfl rfl rfl; exact value_ (w1 := w') (v := vb_) (by rfl) rfl (by clear HI ha; go_simp) (hK.out _ _ ⟨va_, vb_, vb_, by rw [ha]; exact putSel_upk 10 hb rfl rfl rfl, HI.s10⟩)) ?_
      exact steps_nil
    · rintro b a w' hall ⟨va_, vb_, vc_, ha, HI⟩
      have hb0_ := hall 0 rfl; have hb1_ := hall 1 rfl; have hb2_ := hall 2 rfl; have hb3_ := hall 3 rfl; have hb4_ := hall 4 rfl; have hb5_ := hall 5 rfl; have hb6_ := hall 6 rfl; have hb7_ := hall 7 rfl
      have hb8_ := hall 8 rfl; have hb9_ := hall 9 rfl; have hb10_ := hall 10 rfl
      subst ha
      simp only [putSel, hb0_, hb1_, hb2_, hb3_, hb4_, hb5_, hb6_, hb7_, hb8_, hb9_, hb10_, if_true, Act.put, List.setIfInBounds_toArray, List.set_cons_zero, List.set_cons_succ]
      have hr := HI.r9 hb9_
      rw [← HI.r10 hb10_] at hr
      have hB := (below_then (below_drew (Below.refl _ wc)) (Nat.le_refl _) HI.bel : Below wc.heap.size wc w')
      clear hall HI hb0_ hb1_ hb2_ hb3_ hb4_ hb5_ hb6_ hb7_ hb8_ hb9_ hb10_
      refine ‹∀ (a : Act) (w : World), Code.wp Try.prog _ _ a w → _› _ _ ?_
      have HP2 : Side (Pl w gh kind vc_ (rem ms2 q) w') := ⟨⟨HC.out.st.below' hB, by rw [rem_some]; exact GRow.lower hr HC.out.st.below.size⟩⟩
      have hl3 : (rem ms2 q).length ≤ i + 1 := by rw [rem_some]; simp; omega
      clear HC HX1 HX2 HTK HDR HLE hr hB
      generalize rem ms2 q = ms3 at *
      obtain ⟨a9, c9, rfl, -, -⟩ := HP2.out.row.shape E6
      go_wp2_with fail
      refine (Len_st (HP2.out.st.below' (by (repeat (with_reducible first | exact Below.refl _ _ | apply below_drewN | apply below_drew | apply below_alloc)))) ms3.length (its_len _)).mono ?_
      rintro e w3 ⟨rfl, rfl⟩
      have HPP := Side.mk (fun w' hb => Pl.below (w' := w') HP2.out hb)
      clear HP2
      go_wp2
      go_roundw
      case rel => exact ⟨i + 1, ms3, by simp, by omega, hl3, ⟨HPP.out _ (by (repeat (with_reducible first | exact Below.refl _ _ | apply below_drewN | apply below_drew | apply below_alloc)))⟩⟩
      case measure => simp [intOf]; omega
end Go.Proofs.Ytiebpmbongmgkaa.HpU9
