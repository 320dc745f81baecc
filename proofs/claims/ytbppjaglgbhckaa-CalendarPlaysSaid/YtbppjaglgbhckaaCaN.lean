/- Package calendar: Put, the walk. No condition but the order. -/
import Derived.Test.YtbppjaglgbhckaaCaM
set_option linter.unusedVariables false
set_option linter.unusedSimpArgs false
namespace Go.Proofs.Ytbppjaglgbhckaa.CaN
open Go.RowKit Go.Proofs.Ytbppjaglgbhckaa.Kit Go.Proofs.Ytbppjaglgbhckaa.Kit4 Go.Proofs.Ytbppjaglgbhckaa.CaA Go.Proofs.Ytbppjaglgbhckaa.CaB Go.Proofs.Ytbppjaglgbhckaa.CaC Go.Proofs.Ytbppjaglgbhckaa.CaD Go.Proofs.Ytbppjaglgbhckaa.CaF Go.Proofs.Ytbppjaglgbhckaa.CaI Go.Proofs.Ytbppjaglgbhckaa.CaJ Go.Proofs.Ytbppjaglgbhckaa.CaK Go.Proofs.Ytbppjaglgbhckaa.CaL Go.Proofs.Ytbppjaglgbhckaa.CaM
open Go.Proofs.YtbppjaglgbhckaaW.PrintLast
open Go.Proofs.YtbppjaglgbhckaaW.PrintWords (run_store_run)
theorem Search_i (w : World) (B : Nat) (v : Value) (xs : List It) (x : It) (h : Row w B 44 v xs) (hl : xs.length ≤ 100000) (hs : Srt xs) :
    Calls Try.prog 14 #[v, .agg #[.int .i64 x.1, .int .i64 x.2], .func (.func 15) #[] #[]] w fun r w' => ∃ z : Value, r = .returned (.tuple #[.int .i64 (lbi xs x : Nat), z]) ∧ Below w.heap.size w w' := by
  refine (Search_at w B v xs x h hl hs).mono ?_
  rintro r w' ⟨i, z, rfl, hi, hb⟩
  exact ⟨z, by rw [Lb.lbi hi], hb⟩
/-- There is a place for each. -/
theorem Lb_of {xs : List It} (h : Srt xs) (x : It) : Lb xs x (lbi xs x) := by
  have hp := (srt_iff xs).1 h
  have key : ∀ ys : List It, ys.Pairwise (fun x y => dlt y x = false) → ys = ys.filter (fun y => dlt y x) ++ ys.filter (fun y => !dlt y x) := by
    intro ys hy
    induction ys with
    | nil => rfl
    | cons y r ih =>
      rw [List.pairwise_cons] at hy
      cases hd : dlt y x
      · have hn : ∀ z ∈ r, dlt z x = false := fun z hz => by
          have h1 := hy.1 z hz
          rw [dlt_no] at *
          omega
        simp only [List.filter_cons, hd]
        rw [List.filter_eq_nil_iff.2 (fun z hz => by rw [hn z hz]; decide), List.filter_eq_self.2 (fun z hz => by rw [hn z hz]; rfl)]
        rfl
      · simp only [List.filter_cons, hd]
        have := ih hy.2
        simpa using this
  have e := key xs hp
  have hl : (xs.filter (fun y => dlt y x)).length = lbi xs x := rfl
  refine ⟨by unfold CaM.lbi; exact List.length_filter_le _ _, fun k y hk hy => ?_, fun k y hk hy => ?_⟩
  · rw [e, List.getElem?_append_left (by omega)] at hy
    have := List.mem_filter.1 (List.mem_of_getElem? hy)
    exact this.2
  · rw [e, List.getElem?_append_right (by omega)] at hy
    have := (List.mem_filter.1 (List.mem_of_getElem? hy)).2
    simpa using this
set_option maxHeartbeats 4000000 in
set_option maxRecDepth 100000 in
theorem Put_at (w : World) (B gq : Nat) (v : Value) (xs : List It) (h : Q w B gq v xs) (hB : B ≤ w.heap.size) (hs : Srt xs) (hl : xs.length ≤ 900) (t id : Int) :
    Calls Try.prog 9 #[.pointer (some ⟨gq, 0, none⟩), .int .i64 t, .int .i64 id] w fun r w' => r = .returned (.tuple #[]) ∧ Got w w' B gq v (putL xs (t, id)) := by
  obtain ⟨i, hi⟩ : ∃ i, i = lbi xs (t, id) := ⟨_, rfl⟩
  have HQ := Side.mk h
  have HB := Side.mk hB
  have HS := Side.mk hs
  have HL := Side.mk hl
  have HI0 := Side.mk hi
  obtain ⟨A, n, c0, hv⟩ : ∃ A n c, v = .slice A n c := by
    rcases h.row.read with ⟨rfl, _⟩ | ⟨g, cap, rfl, _⟩
    · exact ⟨none, 0, 0, rfl⟩
    · exact ⟨_, _, cap, rfl⟩
  subst hv
  have b0 := h.cell
  have hlt := h.lt
  clear h hB hs hl hi
  go_enter Try.func9, Try.ntmps9
  go_upto_region 2 with (fail)
  have hb1 : Below w.heap.size w (w.alloc (.cells #[.int .i64 t, .int .i64 id] 44)) := (Below.refl _ _).alloc (Nat.le_refl _) _
  have p0 : (w.alloc (.cells #[.int .i64 t, .int .i64 id] 44)).cell? ⟨w.heap.size, 0, none⟩ = some (.int .i64 t) := (World.cell?_alloc_at _ _ _ _ rfl).trans rfl
  have p1 : (w.alloc (.cells #[.int .i64 t, .int .i64 id] 44)).cell? ⟨w.heap.size, 1, none⟩ = some (.int .i64 id) := (World.cell?_alloc_at _ _ _ _ rfl).trans rfl
  have hpl : w.heap.size < (w.alloc (.cells #[.int .i64 t, .int .i64 id] 44)).heap.size := by simp
  have HQ1 := Side.mk (HQ.out.below hb1)
  have HB1 := Side.mk hb1
  obtain ⟨p, hp⟩ : ∃ p, p = w.heap.size := ⟨_, rfl⟩
  rw [← hp] at p0 p1 hpl ⊢
  obtain ⟨W1, hW1⟩ : ∃ W1, W1 = w.alloc (.cells #[.int .i64 t, .int .i64 id] 44) := ⟨_, rfl⟩
  rw [← hW1] at HQ1 HB1 p0 p1 hpl ⊢
  have HP := Side.mk hp
  clear hW1 hp b0 hlt hb1
  have b0 := HQ1.out.cell
  have hql := HQ1.out.lt
  have CS : Side (∀ w', Below W1.drew.heap.size W1.drew w' → Calls Try.prog 14 #[.slice A n c0, .agg #[.int .i64 t, .int .i64 id], .func (.func 15) #[] #[]] w' fun r w'' => ∃ z : Value, r = .returned (.tuple #[.int .i64 i, z]) ∧ Below w'.heap.size w' w'') := ⟨fun w' hb => by
    rw [HI0.out]
    exact Search_i w' B _ xs (t, id) (Row.below HQ1.out.row (below_then (below_drew (Below.refl _ _)) (Nat.le_refl _) hb)) (by have := HL.out; omega) HS.out⟩
  refine start_ (n := 11) (S := fun w' => True) (ds := []) #[false, false, false, false, false, false, false, false, false, false, false] (by kernel_rfl) rfl rfl trivial (fun _ => ?_)
  refine inv_at (B := [0, 1, 3, 7, 0, 31, 63, 127, 127, 255, 1023]) [0, 1, 2, 3, 4, 5, 6, 7, 8, 9, 10] (fun a0_ b a w' => ∃ va_ vb_ vc_ vd_, a = putSel a0_ b [(0, 15, .pointer (some ⟨gq, 0, none⟩)), (1, 16, .pointer (some ⟨gq, 0, none⟩)), (2, 17, .pointer (some ⟨gq, 0, none⟩)), (3, 18, .slice A n c0), (4, 19, .agg #[.int .i64 t, .int .i64 id]), (5, 20, .tuple #[.int .i64 i, va_]), (6, 14, .tuple #[.int .i64 i, vb_]), (7, 21, .int .i64 i), (8, 22, vc_), (9, 7, .int .i64 i), (10, 8, vd_)] ∧ Below W1.drew.heap.size W1.drew w') rfl (by kernel_rfl) (by kernel_rfl) (by kernel_rfl) ?_ ?_ ?_
  · exact ⟨undef, undef, undef, undef, by simp only [putSel, Bool.false_eq_true, if_false], Below.refl _ _⟩
  · refine steps_cons (by rintro b a w' ⟨va_, vb_, vc_, vd_, ha, HI⟩ hb hon hoff; refine ⟨_, rfl, fun K hK => ?_⟩; have e0 := poff ha (t := 0) rfl rfl; exact value_ (v := .pointer (some ⟨gq, 0, none⟩)) (by rfl) rfl (by clear HI ha; go_simp) (hK.out _ _ ⟨va_, vb_, vc_, vd_, upk ha 0 hb rfl rfl, HI⟩)) ?_
    refine steps_cons (by rintro b a w' ⟨va_, vb_, vc_, vd_, ha, HI⟩ hb hon hoff; refine ⟨_, rfl, fun K hK => ?_⟩; have e15 := pon ha 0 (hon 0 rfl) rfl rfl rfl; exact value_ (v := .pointer (some ⟨gq, 0, none⟩)) (by rfl) rfl (by clear HI ha; go_simp) (hK.out _ _ ⟨va_, vb_, vc_, vd_, upk ha 1 hb rfl rfl, HI⟩)) ?_
    refine steps_cons (by rintro b a w' ⟨va_, vb_, vc_, vd_, ha, HI⟩ hb hon hoff; refine ⟨_, rfl, fun K hK => ?_⟩; have e16 := pon ha 1 (hon 1 rfl) rfl rfl rfl; exact value_ (v := .pointer (some ⟨gq, 0, none⟩)) (by rfl) rfl (by clear HI ha; go_simp) (hK.out _ _ ⟨va_, vb_, vc_, vd_, upk ha 2 hb rfl rfl, HI⟩)) ?_
    refine steps_cons (by rintro b a w' ⟨va_, vb_, vc_, vd_, ha, HI⟩ hb hon hoff; refine ⟨_, rfl, fun K hK => ?_⟩; have e17 := pon ha 2 (hon 2 rfl) rfl rfl rfl; have k0_ := bc HI hql b0; have kz_ := bz HI hql; exact value_ (v := .slice A n c0) (by rfl) rfl (by clear HI ha; go_simp) (hK.out _ _ ⟨va_, vb_, vc_, vd_, upk ha 3 hb rfl rfl, HI⟩)) ?_
    refine steps_cons (by rintro b a w' ⟨va_, vb_, vc_, vd_, ha, HI⟩ hb hon hoff; refine ⟨_, rfl, fun K hK => ?_⟩; have e6 := poff ha (t := 6) rfl rfl; have k0_ := bc HI hpl p0; have k1_ := bc HI hpl p1; have kz_ := bz HI hpl; exact value_ (v := .agg #[.int .i64 t, .int .i64 id]) (by rfl) rfl (by clear HI ha; go_simp) (hK.out _ _ ⟨va_, vb_, vc_, vd_, upk ha 4 hb rfl rfl, HI⟩)) ?_
    refine steps_cons (by rintro b a w' ⟨va_, vb_, vc_, vd_, ha, HI⟩ hb hon hoff; refine ⟨_, rfl, fun K hK => ?_⟩; have e18 := pon ha 3 (hon 3 rfl) rfl rfl rfl; have e19 := pon ha 4 (hon 4 rfl) rfl rfl rfl; refine goes_ Try.func14 (by kernel_rfl) rfl #[.slice A n c0, .agg #[.int .i64 t, .int .i64 id], .func (.func 15) #[] #[]] (by rfl) rfl rfl (by simp [Act.eval, e18, e19]) ((CS.out w' HI).mono ?_); rintro e_ w'' ⟨z', rfl, hbc⟩; exact ⟨_, rfl, hK.out _ _ ⟨z', vb_, vc_, vd_, by rw [ha]; exact putSel_upk 5 hb rfl rfl rfl, below_then HI HI.size hbc⟩⟩) ?_
    refine steps_cons (by rintro b a w' ⟨va_, vb_, vc_, vd_, ha, HI⟩ hb hon hoff; refine ⟨_, rfl, fun K hK => ?_⟩; have e20 := pon ha 5 (hon 5 rfl) rfl rfl rfl; exact value_ (w1 := w') (v := .tuple #[.int .i64 i, va_]) (by rfl) rfl (by clear HI ha; go_simp) (hK.out _ _ ⟨va_, va_, vc_, vd_, by rw [ha]; exact putSel_upk 6 hb rfl rfl rfl, HI⟩)) ?_
    refine steps_cons (by rintro b a w' ⟨va_, vb_, vc_, vd_, ha, HI⟩ hb hon hoff; refine ⟨_, rfl, fun K hK => ?_⟩; have e14 := pon ha 6 (hon 6 rfl) rfl rfl rfl; exact value_ (v := .int .i64 i) (by rfl) rfl (by clear HI ha; go_simp) (hK.out _ _ ⟨va_, vb_, vc_, vd_, upk ha 7 hb rfl rfl, HI⟩)) ?_
    refine steps_cons (by rintro b a w' ⟨va_, vb_, vc_, vd_, ha, HI⟩ hb hon hoff; refine ⟨_, rfl, fun K hK => ?_⟩; have e14 := pon ha 6 (hon 6 rfl) rfl rfl rfl; exact value_ (w1 := w') (v := vb_) (by rfl) rfl (by clear HI ha; go_simp) (hK.out _ _ ⟨va_, vb_, vb_, vd_, by rw [ha]; exact putSel_upk 8 hb rfl rfl rfl, HI⟩)) ?_
    refine steps_cons (by rintro b a w' ⟨va_, vb_, vc_, vd_, ha, HI⟩ hb hon hoff; refine ⟨_, rfl, fun K hK => ?_⟩; have e21 := pon ha 7 (hon 7 rfl) rfl rfl rfl; exact value_ (v := .int .i64 i) (by rfl) rfl (by clear HI ha; go_simp) (hK.out _ _ ⟨va_, vb_, vc_, vd_, upk ha 9 hb rfl rfl, HI⟩)) ?_
    refine steps_cons (by rintro b a w' ⟨va_, vb_, vc_, vd_, ha, HI⟩ hb hon hoff; refine ⟨_, rfl, fun K hK => ?_⟩; have e22 := pon ha 8 (hon 8 rfl) rfl rfl rfl; exact value_ (w1 := w') (v := vc_) (by rfl) rfl (by clear HI ha; go_simp) (hK.out _ _ ⟨va_, vb_, vc_, vc_, by rw [ha]; exact putSel_upk 10 hb rfl rfl rfl, HI⟩)) ?_
    exact steps_nil
  · rintro b a w' hall ⟨va_, vb_, vc_, vd_, ha, HI⟩
    have hb0_ := hall 0 rfl; have hb1_ := hall 1 rfl; have hb2_ := hall 2 rfl; have hb3_ := hall 3 rfl; have hb4_ := hall 4 rfl; have hb5_ := hall 5 rfl; have hb6_ := hall 6 rfl; have hb7_ := hall 7 rfl
    have hb8_ := hall 8 rfl; have hb9_ := hall 9 rfl; have hb10_ := hall 10 rfl
    subst ha
    simp only [putSel, hb0_, hb1_, hb2_, hb3_, hb4_, hb5_, hb6_, hb7_, hb8_, hb9_, hb10_, if_true, Act.put, List.setIfInBounds_toArray, List.set_cons_zero, List.set_cons_succ]
    have hB := (below_then (below_drew (Below.refl _ W1)) (Nat.le_refl _) HI : Below W1.heap.size W1 w')
    clear hall HI hb0_ hb1_ hb2_ hb3_ hb4_ hb5_ hb6_ hb7_ hb8_ hb9_ hb10_
    refine ‹∀ (a' : Act) (w' : World), Code.wp Try.prog _ _ a' w' → _› _ _ ?_
    have HQ2 := Side.mk (HQ1.out.below hB)
    have HB2 : Side (Below w.heap.size w w') := ⟨below_then HB1.out HB1.out.size hB⟩
    have q0 : w'.cell? ⟨p, 0, none⟩ = some (.int .i64 t) := (hB.cell (p := ⟨p, 0, none⟩) hpl).trans p0
    have q1 : w'.cell? ⟨p, 1, none⟩ = some (.int .i64 id) := (hB.cell (p := ⟨p, 1, none⟩) hpl).trans p1
    have hpl2 : p < w'.heap.size := Nat.lt_of_lt_of_le hpl hB.size
    clear b0 hql p0 p1 hpl HB1 HQ1 CS hB
    obtain ⟨W2, hW2⟩ : ∃ W2 : World, W2 = w' := ⟨_, rfl⟩
    rw [← hW2] at HQ2 HB2 q0 q1 hpl2 ⊢
    clear hW2
    have b0 := HQ2.out.cell
    have hql := HQ2.out.lt
    go_upto_region 3 with (fail)
    have CI : Side (∀ w', w' = W2.drew.alloc (.cells #[.int .i64 t, .int .i64 id] 44) → Calls Try.prog 16 #[.slice A n c0, .int .i64 i, .slice (some ⟨W2.heap.size, 0, none⟩) 1 1] w' fun r w'' => ∃ v', r = .returned v' ∧ Ins w' B (.slice A n c0) xs i (t, id) v' w'') := ⟨by
      rintro w' rfl
      have hi := Lb_of HS.out (t, id)
      rw [← HI0.out] at hi
      exact Insert_at _ B _ xs (t, id) i W2.heap.size (Row.below HQ2.out.row ((below_drew (Below.refl _ _)).alloc (Nat.le_refl _) _)) (by have := HL.out; omega) hi.le (heap_alloc_new W2.drew _) (fun e => Nat.lt_irrefl _ (Row.lt HQ2.out.row _ e)) (by have := HB.out; have := HB2.out.size; simp; omega)⟩
    have HQD : Side (Q W2.drew B gq (.slice A n c0) xs) := ⟨HQ2.out.below (below_drew (Below.refl _ _))⟩
    refine start_ (n := 12) (S := fun w' => True) (ds := []) #[false, false, false, false, false, false, false, false, false, false, false, false] (by kernel_rfl) rfl rfl trivial (fun _ => ?_)
    refine inv_at (B := [0, 0, 2, 6, 14, 0, 0, 64, 254, 1, 513, 2047]) [0, 1, 2, 3, 4, 5, 6, 7, 8, 9, 10, 11] (fun a0_ b a w' => ∃ vc_, a = putSel a0_ b [(0, 23, .pointer (some ⟨gq, 0, none⟩)), (1, 24, .pointer (some ⟨gq, 0, none⟩)), (2, 25, .pointer (some ⟨gq, 0, none⟩)), (3, 26, .pointer (some ⟨gq, 0, none⟩)), (4, 27, .slice A n c0), (5, 28, .int .i64 i), (6, 29, .agg #[.int .i64 t, .int .i64 id]), (7, 30, .slice (some ⟨W2.heap.size, 0, none⟩) 1 1), (8, 31, vc_), (9, 32, .pointer (some ⟨gq, 0, none⟩)), (10, 33, .pointer (some ⟨gq, 0, none⟩))] ∧ PutR W2.drew B gq (.slice A n c0) xs i (t, id) b vc_ w') rfl (by kernel_rfl) (by kernel_rfl) (by kernel_rfl) ?_ ?_ ?_
    · exact ⟨undef, by simp only [putSel, Bool.false_eq_true, if_false], PutR.start⟩
    · refine steps_cons (by rintro b a w' ⟨vc_, ha, HI⟩ hb hon hoff; refine ⟨_, rfl, fun K hK => ?_⟩; have e0 := poff ha (t := 0) rfl rfl; exact value_ (v := .pointer (some ⟨gq, 0, none⟩)) (by rfl) rfl (by clear HI ha; go_simp) (hK.out _ _ ⟨vc_, upk ha 0 hb rfl rfl, HI.low 0 (by decide)⟩)) ?_
      refine steps_cons (by rintro b a w' ⟨vc_, ha, HI⟩ hb hon hoff; refine ⟨_, rfl, fun K hK => ?_⟩; have e0 := poff ha (t := 0) rfl rfl; exact value_ (v := .pointer (some ⟨gq, 0, none⟩)) (by rfl) rfl (by clear HI ha; go_simp) (hK.out _ _ ⟨vc_, upk ha 1 hb rfl rfl, HI.low 1 (by decide)⟩)) ?_
      refine steps_cons (by rintro b a w' ⟨vc_, ha, HI⟩ hb hon hoff; refine ⟨_, rfl, fun K hK => ?_⟩; have e24 := pon ha 1 (hon 1 rfl) rfl rfl rfl; exact value_ (v := .pointer (some ⟨gq, 0, none⟩)) (by rfl) rfl (by clear HI ha; go_simp) (hK.out _ _ ⟨vc_, upk ha 2 hb rfl rfl, HI.low 2 (by decide)⟩)) ?_
      refine steps_cons (by rintro b a w' ⟨vc_, ha, HI⟩ hb hon hoff; refine ⟨_, rfl, fun K hK => ?_⟩; have e25 := pon ha 2 (hon 2 rfl) rfl rfl rfl; exact value_ (v := .pointer (some ⟨gq, 0, none⟩)) (by rfl) rfl (by clear HI ha; go_simp) (hK.out _ _ ⟨vc_, upk ha 3 hb rfl rfl, HI.low 3 (by decide)⟩)) ?_
      refine steps_cons (by rintro b a w' ⟨vc_, ha, HI⟩ hb hon hoff; refine ⟨_, rfl, fun K hK => ?_⟩; have e26 := pon ha 3 (hon 3 rfl) rfl rfl rfl; have k0_ := bc (HI.bel (hoff 8 rfl) (hoff 11 rfl)) hql b0; have kz_ := bz (HI.bel (hoff 8 rfl) (hoff 11 rfl)) hql; exact value_ (v := .slice A n c0) (by rfl) rfl (by clear HI ha; go_simp) (hK.out _ _ ⟨vc_, upk ha 4 hb rfl rfl, HI.low 4 (by decide)⟩)) ?_
      refine steps_cons (by rintro b a w' ⟨vc_, ha, HI⟩ hb hon hoff; refine ⟨_, rfl, fun K hK => ?_⟩; have e7 := poff ha (t := 7) rfl rfl; exact value_ (v := .int .i64 i) (by rfl) rfl (by clear HI ha; go_simp) (hK.out _ _ ⟨vc_, upk ha 5 hb rfl rfl, HI.low 5 (by decide)⟩)) ?_
      refine steps_cons (by rintro b a w' ⟨vc_, ha, HI⟩ hb hon hoff; refine ⟨_, rfl, fun K hK => ?_⟩; have e6 := poff ha (t := 6) rfl rfl; have k0_ := bc (HI.bel (hoff 8 rfl) (hoff 11 rfl)) hpl2 q0; have k1_ := bc (HI.bel (hoff 8 rfl) (hoff 11 rfl)) hpl2 q1; have kz_ := bz (HI.bel (hoff 8 rfl) (hoff 11 rfl)) hpl2; exact value_ (v := .agg #[.int .i64 t, .int .i64 id]) (by rfl) rfl (by clear HI ha; go_simp) (hK.out _ _ ⟨vc_, upk ha 6 hb rfl rfl, HI.low 6 (by decide)⟩)) ?_
      refine steps_cons (by rintro b a w' ⟨vc_, ha, HI⟩ hb hon hoff; refine ⟨_, rfl, fun K hK => ?_⟩; have e29 := pon ha 6 (hon 6 rfl) rfl rfl rfl; have hw_ := HI.n0 hb (hoff 8 rfl) (hoff 11 rfl); subst hw_; exact value_ (w1 := W2.drew.alloc (.cells #[.int .i64 t, .int .i64 id] 44)) (v := .slice (some ⟨W2.heap.size, 0, none⟩) 1 1) (by rfl) rfl (by clear HI ha; go_simp) (hK.out _ _ ⟨vc_, upk ha 7 hb rfl rfl, PutR.s7 (hoff 8 rfl) (hoff 11 rfl) rfl⟩)) ?_
      refine steps_cons (by rintro b a w' ⟨vc_, ha, HI⟩ hb hon hoff; refine ⟨_, rfl, fun K hK => ?_⟩; have e27 := pon ha 4 (hon 4 rfl) rfl rfl rfl; have e28 := pon ha 5 (hon 5 rfl) rfl rfl rfl; have e30 := pon ha 7 (hon 7 rfl) rfl rfl rfl; have hw_ := HI.n1 (hon 7 rfl) hb (hoff 11 rfl); refine goes_ Try.func16 (by kernel_rfl) rfl #[.slice A n c0, .int .i64 i, .slice (some ⟨W2.heap.size, 0, none⟩) 1 1] (by rfl) rfl rfl (by simp [Act.eval, e27, e28, e30]) ((CI.out w' hw_).mono ?_); rintro e_ w'' ⟨v', rfl, hi_⟩; exact ⟨_, rfl, hK.out _ _ ⟨v', by rw [ha]; exact putSel_upk 8 hb rfl rfl rfl, PutR.s8 (hoff 11 rfl) (by rw [← hw_]; exact hi_)⟩⟩) ?_
      refine steps_cons (by rintro b a w' ⟨vc_, ha, HI⟩ hb hon hoff; refine ⟨_, rfl, fun K hK => ?_⟩; have e23 := pon ha 0 (hon 0 rfl) rfl rfl rfl; exact value_ (v := .pointer (some ⟨gq, 0, none⟩)) (by rfl) rfl (by clear HI ha; go_simp) (hK.out _ _ ⟨vc_, upk ha 9 hb rfl rfl, HI.low 9 (by decide)⟩)) ?_
      refine steps_cons (by rintro b a w' ⟨vc_, ha, HI⟩ hb hon hoff; refine ⟨_, rfl, fun K hK => ?_⟩; have e32 := pon ha 9 (hon 9 rfl) rfl rfl rfl; exact value_ (v := .pointer (some ⟨gq, 0, none⟩)) (by rfl) rfl (by clear HI ha; go_simp) (hK.out _ _ ⟨vc_, upk ha 10 hb rfl rfl, HI.low 10 (by decide)⟩)) ?_
      refine steps_cons (by rintro b a w' ⟨vc_, ha, HI⟩ hb hon hoff; refine ⟨_, rfl, fun K hK => ?_⟩; have e33 := pon ha 10 (hon 10 rfl) rfl rfl rfl; have e31 := pon ha 8 (hon 8 rfl) rfl rfl rfl; have hi_ := HI.n2 (hon 8 rfl) hb; have hst_ := run_store_run (P := Try.prog) (o := 0) 40 vc_ [vc_] (Ins.box HQD.out hi_) (Row.one hi_.row).1 (by kernel_rfl) (by simp) (by intro q hq; rw [List.mem_singleton.1 hq]; exact (Row.one hi_.row).2); exact skip_ (w1 := w'.setCells gq 0 [vc_]) (by rfl) rfl (by unfold execOp; simp [Act.eval, e33, e31, hst_]) (hK.out _ _ ⟨vc_, ups ha rfl, PutR.s11 hi_ rfl⟩)) ?_
      exact steps_nil
    · rintro b a w' hall ⟨vc_, ha, HI⟩
      have hb0_ := hall 0 rfl; have hb1_ := hall 1 rfl; have hb2_ := hall 2 rfl; have hb3_ := hall 3 rfl; have hb4_ := hall 4 rfl; have hb5_ := hall 5 rfl; have hb6_ := hall 6 rfl; have hb7_ := hall 7 rfl
      have hb8_ := hall 8 rfl; have hb9_ := hall 9 rfl; have hb10_ := hall 10 rfl; have hb11_ := hall 11 rfl
      subst ha
      simp only [putSel, hb0_, hb1_, hb2_, hb3_, hb4_, hb5_, hb6_, hb7_, hb8_, hb9_, hb10_, if_true, Act.put, List.setIfInBounds_toArray, List.set_cons_zero, List.set_cons_succ]
      have HF := HI.n3 hb11_
      clear hall HI hb0_ hb1_ hb2_ hb3_ hb4_ hb5_ hb6_ hb7_ hb8_ hb9_ hb10_ hb11_
      obtain ⟨w3, hi3, hw3⟩ := HF
      have HG : Side (Got W2.drew w' B gq (.slice A n c0) (putL xs (t, id))) := ⟨by
        have hi := Lb_of HS.out (t, id)
        rw [hw3, ← Lb.ins hi, ← HI0.out]
        exact Ins.got HQD.out hi3⟩
      clear hi3 hw3
      refine bodyPost_end (results_none rfl _ _ _) rfl ?_
      obtain ⟨v', k1, k2, k3⟩ := HG.out
      refine ⟨rfl, v', k1, Chg.trans (Chg.of_below (below_drew HB2.out)) k2 (fun _ _ h => h), ?_⟩
      rcases k3 with e | e
      · exact .inl e
      · exact .inr (fun k hk => Nat.le_trans HB2.out.size (e k hk))
end Go.Proofs.Ytbppjaglgbhckaa.CaN
