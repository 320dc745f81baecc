/- Package heap: the walk of HeapKnown: it answers true. No condition. -/
import Derived.Test.YtiebpmbongmgkaaHpL
set_option linter.unusedVariables false
set_option linter.unusedSimpArgs false
namespace Go.Proofs.Ytiebpmbongmgkaa.HpM
open Go.RowKit Go.Proofs.Ytiebpmbongmgkaa.Kit Go.Proofs.Ytiebpmbongmgkaa.Kit3 Go.Proofs.Ytiebpmbongmgkaa.Kit4 HpPlain Go.Maps Go.Proofs.Ytiebpmbongmgkaa.HpA Go.Proofs.Ytiebpmbongmgkaa.HpB Go.Proofs.Ytiebpmbongmgkaa.HpE Go.Proofs.Ytiebpmbongmgkaa.HpG Go.Proofs.Ytiebpmbongmgkaa.HpI Go.Proofs.Ytiebpmbongmgkaa.HpK Go.Proofs.Ytiebpmbongmgkaa.HpL
open Go.Proofs.YtiebpmbongmgkaaW.PrintLast
theorem HS.keep {w w' : World} {B gh bm : Nat} {kind : Int} (h : HS w B gh kind (.slice none 0 0) bm []) (e1 : w'.heap[gh]? = w.heap[gh]?) (e2 : w'.heap[bm]? = w.heap[bm]?) : HS w' B gh kind (.slice none 0 0) bm [] := by
  obtain ⟨D, hp, hI⟩ := h.hp
  refine ⟨⟨D, ⟨e1.trans hp.box, Row.nil _ _, ?_, hp.bh, hp.bb⟩, hI⟩, h.nd, h.sl⟩
  obtain ⟨es, clock, h1, r⟩ := hp.map
  exact ⟨es, clock, e2.trans h1, r⟩
def m1 : List It := put [] (65535, 5, 0, 0, 1)
def m2 : List It := put m1 (4, 5, 0, 0, 1)
def m3 : List It := drop m2 4
def m4 : List It := drop m3 65535
def m5 : List It := drop m4 0
def z1 : List It := put [] (1, 5, 0, 0, 0)
def z2 : List It := put z1 (2, 5, 1, 0, 0)
def z3 : List It := drop z2 1
theorem t2 : Tops 1 m2 (4, 5, 0, 0, 1) true := .inr ⟨⟨by decide, by decide⟩, rfl⟩
theorem t3 : Tops 1 m3 (65535, 5, 0, 0, 1) true := .inr ⟨⟨by decide, by decide⟩, rfl⟩
theorem t4 : Tops 1 m4 z false := .inl ⟨by decide, rfl, rfl⟩
theorem tz : Tops 77 z2 (2, 5, 1, 0, 0) true := .inr ⟨⟨by decide, by decide⟩, rfl⟩
theorem lens : m1.length = 1 ∧ m2.length = 2 ∧ m3.length = 1 ∧ m4.length = 0 ∧ z1.length = 1 ∧ z2.length = 2 ∧ z3.length = 1 := by decide
theorem hass : hasS z2 1 = true ∧ hasS z3 1 = false := by decide
set_option maxHeartbeats 16000000 in
set_option maxRecDepth 100000 in
theorem Known_at (w : World) : Calls Try.prog 6 #[] w fun r w' => r = .returned (.bool true) ∧ Below w.heap.size w w' := by
  have L := Side.mk lens
  have T2 := Side.mk t2
  have T3 := Side.mk t3
  have T4 := Side.mk t4
  have TZ := Side.mk tz
  have HZ := Side.mk hass
  go_enter Try.func6, Try.ntmps6
  go_wp2_with fail
  refine (awake_at _).mono ?_
  rintro e wa ⟨rfl, hb⟩
  have HB := Side.mk hb
  clear hb
  go_wp2_with fail
  refine (New_at _ 1).mono ?_
  rintro e w1 ⟨rfl, rfl⟩
  have S0 := Side.mk (St.start HB.out 1)
  have HB1 : Side (Below w.heap.size w ((wa.alloc (.map #[] 0)).alloc (.cells #[.int .i64 1, .slice none 0 0, .map (some wa.heap.size)] 53))) := ⟨(HB.out.alloc HB.out.size _).alloc (by have := HB.out.size; simp; omega) _⟩
  generalize wa.heap.size + 1 = gh at *
  generalize (wa.alloc (.map #[] 0)).alloc (.cells #[.int .i64 1, .slice none 0 0, .map (some wa.heap.size)] 53) = w1 at *
  go_wp2_with fail
  refine (New_at _ 77).mono ?_
  rintro e w2 ⟨rfl, rfl⟩
  have ZH := Side.mk (new_hs HB1.out 77)
  have hbz : Below w1.heap.size w1 ((w1.alloc (.map #[] 0)).alloc (.cells #[.int .i64 77, .slice none 0 0, .map (some w1.heap.size)] 53)) := ((Below.refl _ w1).alloc (Nat.le_refl _) _).alloc (by simp) _
  have S1 := Side.mk (S0.out.more hbz)
  have hsz : ((w1.alloc (.map #[] 0)).alloc (.cells #[.int .i64 77, .slice none 0 0, .map (some w1.heap.size)] 53)).heap.size = w1.heap.size + 2 := by simp
  rw [hsz] at S1
  obtain ⟨X, hX⟩ : ∃ X : Nat → Prop, X = fun k => False ∨ (w1.heap.size ≤ k ∧ k < w1.heap.size + 2) := ⟨_, rfl⟩
  rw [← hX] at S1
  have HX : Side (X w1.heap.size ∧ X (w1.heap.size + 1)) := ⟨by rw [hX]; exact ⟨.inr ⟨by omega, by omega⟩, .inr ⟨by omega, by omega⟩⟩⟩
  clear hX hbz S0 hsz
  have hgb : gh < w1.heap.size + 1 → True := fun _ => trivial
  clear hgb
  generalize hgz : w1.heap.size + 1 = gz at *
  generalize w1.heap.size = bz at *
  generalize (w1.alloc (.map #[] 0)).alloc (.cells #[.int .i64 77, .slice none 0 0, .map (some bz)] 53) = w2 at *
  clear hgz HB HB1
  go_wp2_with fail
  refine (MadeS _ _ _ _ _).out.mono ?_
  rintro e w3 ⟨rfl, hb⟩
  have S2 := Side.mk (S1.out.below' hb)
  have F2 : Side (Fr X w2 w3) := ⟨Fr.below hb⟩
  clear S1 hb
  go_upto_region 8 with (fail)
  obtain ⟨p, hp⟩ : ∃ p, p = w3.heap.size := ⟨_, rfl⟩
  rw [← hp]
  obtain ⟨W4, hW4⟩ : ∃ W4, W4 = w3.alloc (.cells #[.int .i64 5, .int .i64 0, .int .i64 0, .int .i64 1] 32) := ⟨_, rfl⟩
  rw [← hW4]
  have hb4 : Below w3.heap.size w3 W4 := by rw [hW4]; exact (Below.refl _ _).alloc (Nat.le_refl _) _
  have hbx : W4.heap[p]? = some (.cells #[.int .i64 5, .int .i64 0, .int .i64 0, .int .i64 1] 32 (0, 0)) := by rw [hW4, hp]; exact heap_alloc_new w3 _
  have S3 : Side (St w W4.drew X gh 1 []) := ⟨S2.out.below' (below_drew hb4)⟩
  have F3 : Side (Fr X w2 W4.drew) := ⟨F2.out.trans (Fr.below (below_drew hb4))⟩
  have HBX : Side (∀ w', Fr X W4.drew w' → w'.cell? ⟨p, 0, none⟩ = some (.int .i64 5) ∧ w'.cell? ⟨p, 1, none⟩ = some (.int .i64 0) ∧ w'.cell? ⟨p, 2, none⟩ = some (.int .i64 0) ∧ w'.cell? ⟨p, 3, none⟩ = some (.int .i64 1)) := ⟨fun w' hf => by
    have h := hf.block p _ hbx (.inr ⟨_, _, rfl, by decide, by decide⟩)
    exact ⟨cell_of_row w' p 0 _ _ (0, 0) h, cell_of_row w' p 1 _ _ (0, 0) h, cell_of_row w' p 2 _ _ (0, 0) h, cell_of_row w' p 3 _ _ (0, 0) h⟩⟩
  clear hp hW4 hb4 hbx S2 F2
  refine start_ (n := 12) (S := fun w' => True) (ds := []) #[false, false, false, false, false, false, false, false, false, false, false, false] (by kernel_rfl) rfl rfl trivial (fun _ => ?_)
  refine inv_at (B := [0, 0, 3, 0, 0, 31, 0, 0, 255, 511, 1023, 2047]) [0, 1, 2, 3, 4, 5, 6, 7, 8, 9, 10, 11] (fun a0_ b a w' => a = putSel a0_ b [(0, 32, .pointer (some ⟨gh, 0, none⟩)), (1, 33, .agg #[.int .i64 5, .int .i64 0, .int .i64 0, .int .i64 1]), (2, 34, .int .i64 2), (3, 35, .pointer (some ⟨gh, 0, none⟩)), (4, 36, .agg #[.int .i64 5, .int .i64 0, .int .i64 0, .int .i64 1]), (5, 37, .int .i64 2), (6, 38, .pointer (some ⟨gh, 0, none⟩)), (7, 39, .agg #[.int .i64 5, .int .i64 0, .int .i64 0, .int .i64 1]), (8, 40, .int .i64 0), (9, 4, .int .i64 2), (10, 5, .int .i64 2), (11, 6, .int .i64 0)] ∧ St w w' X gh 1 (if b 8 = true then m1 else []) ∧ Fr X W4.drew w') rfl (by kernel_rfl) (by kernel_rfl) (by kernel_rfl) ?_ ?_ ?_
  · exact ⟨by simp only [putSel, Bool.false_eq_true, if_false], by rw [if_neg (by decide)]; exact S3.out, Fr.refl _ _⟩
  · refine steps_cons (by rintro b a w' ⟨ha, HI⟩ hb hon hoff; refine ⟨_, rfl, fun K hK => ?_⟩; have e1 := poff ha (t := 1) rfl rfl; exact value_ (v := .pointer (some ⟨gh, 0, none⟩)) (by rfl) rfl (by clear HI ha; go_simp) (hK.out _ _ ⟨upk ha 0 hb rfl rfl, by rw [up_ne (by decide)]; exact HI.1, HI.2⟩)) ?_
    refine steps_cons (by rintro b a w' ⟨ha, HI⟩ hb hon hoff; refine ⟨_, rfl, fun K hK => ?_⟩; have e3 := poff ha (t := 3) rfl rfl; obtain ⟨k0_, k1_, k2_, k3_⟩ := HBX.out w' HI.2; exact value_ (v := .agg #[.int .i64 5, .int .i64 0, .int .i64 0, .int .i64 1]) (by rfl) rfl (by clear HI ha; go_simp) (hK.out _ _ ⟨upk ha 1 hb rfl rfl, by rw [up_ne (by decide)]; exact HI.1, HI.2⟩)) ?_
    refine steps_cons (by rintro b a w' ⟨ha, HI⟩ hb hon hoff; refine ⟨_, rfl, fun K hK => ?_⟩; have e32 := pon ha 0 (hon 0 rfl) rfl rfl rfl; have e33 := pon ha 1 (hon 1 rfl) rfl rfl rfl; refine goes_ Try.func10 (by kernel_rfl) rfl #[.pointer (some ⟨gh, 0, none⟩), .int .i64 (-1), .agg #[.int .i64 5, .int .i64 0, .int .i64 0, .int .i64 1]] (by rfl) rfl rfl (by simp [Act.eval, e32, e33]) ((Put_not HI.1 (by split <;> first | (rw [L.out.1]; omega) | simp) (-1, 5, 0, 0, 1) (.inl (by decide))).mono ?_); rintro e_ w'' ⟨rfl, hs_, hf_⟩; exact ⟨_, rfl, hK.out _ _ ⟨upk ha 2 hb rfl rfl, by rw [up_ne (by decide)]; exact hs_, HI.2.trans hf_⟩⟩) ?_
    refine steps_cons (by rintro b a w' ⟨ha, HI⟩ hb hon hoff; refine ⟨_, rfl, fun K hK => ?_⟩; have e1 := poff ha (t := 1) rfl rfl; exact value_ (v := .pointer (some ⟨gh, 0, none⟩)) (by rfl) rfl (by clear HI ha; go_simp) (hK.out _ _ ⟨upk ha 3 hb rfl rfl, by rw [up_ne (by decide)]; exact HI.1, HI.2⟩)) ?_
    refine steps_cons (by rintro b a w' ⟨ha, HI⟩ hb hon hoff; refine ⟨_, rfl, fun K hK => ?_⟩; have e3 := poff ha (t := 3) rfl rfl; obtain ⟨k0_, k1_, k2_, k3_⟩ := HBX.out w' HI.2; exact value_ (v := .agg #[.int .i64 5, .int .i64 0, .int .i64 0, .int .i64 1]) (by rfl) rfl (by clear HI ha; go_simp) (hK.out _ _ ⟨upk ha 4 hb rfl rfl, by rw [up_ne (by decide)]; exact HI.1, HI.2⟩)) ?_
    refine steps_cons (by rintro b a w' ⟨ha, HI⟩ hb hon hoff; refine ⟨_, rfl, fun K hK => ?_⟩; have e35 := pon ha 3 (hon 3 rfl) rfl rfl rfl; have e36 := pon ha 4 (hon 4 rfl) rfl rfl rfl; refine goes_ Try.func10 (by kernel_rfl) rfl #[.pointer (some ⟨gh, 0, none⟩), .int .i64 65536, .agg #[.int .i64 5, .int .i64 0, .int .i64 0, .int .i64 1]] (by rfl) rfl rfl (by simp [Act.eval, e35, e36]) ((Put_not HI.1 (by split <;> first | (rw [L.out.1]; omega) | simp) (65536, 5, 0, 0, 1) (.inr (by decide))).mono ?_); rintro e_ w'' ⟨rfl, hs_, hf_⟩; exact ⟨_, rfl, hK.out _ _ ⟨upk ha 5 hb rfl rfl, by rw [up_ne (by decide)]; exact hs_, HI.2.trans hf_⟩⟩) ?_
    refine steps_cons (by rintro b a w' ⟨ha, HI⟩ hb hon hoff; refine ⟨_, rfl, fun K hK => ?_⟩; have e1 := poff ha (t := 1) rfl rfl; exact value_ (v := .pointer (some ⟨gh, 0, none⟩)) (by rfl) rfl (by clear HI ha; go_simp) (hK.out _ _ ⟨upk ha 6 hb rfl rfl, by rw [up_ne (by decide)]; exact HI.1, HI.2⟩)) ?_
    refine steps_cons (by rintro b a w' ⟨ha, HI⟩ hb hon hoff; refine ⟨_, rfl, fun K hK => ?_⟩; have e3 := poff ha (t := 3) rfl rfl; obtain ⟨k0_, k1_, k2_, k3_⟩ := HBX.out w' HI.2; exact value_ (v := .agg #[.int .i64 5, .int .i64 0, .int .i64 0, .int .i64 1]) (by rfl) rfl (by clear HI ha; go_simp) (hK.out _ _ ⟨upk ha 7 hb rfl rfl, by rw [up_ne (by decide)]; exact HI.1, HI.2⟩)) ?_
    refine steps_cons (by rintro b a w' ⟨ha, HI⟩ hb hon hoff; refine ⟨_, rfl, fun K hK => ?_⟩; have e38 := pon ha 6 (hon 6 rfl) rfl rfl rfl; have e39 := pon ha 7 (hon 7 rfl) rfl rfl rfl; refine goes_ Try.func10 (by kernel_rfl) rfl #[.pointer (some ⟨gh, 0, none⟩), .int .i64 65535, .agg #[.int .i64 5, .int .i64 0, .int .i64 0, .int .i64 1]] (by rfl) rfl rfl (by simp [Act.eval, e38, e39]) ((Put_st (m := []) (by have h := HI.1; rw [if_neg (by rw [hb]; decide)] at h; exact h) (by simp) (65535, 5, 0, 0, 1) (by decide) m1 rfl).mono ?_); rintro e_ w'' ⟨rfl, hs_, hf_⟩; exact ⟨_, rfl, hK.out _ _ ⟨upk ha 8 hb rfl rfl, by rw [up_self, if_pos rfl]; exact hs_, HI.2.trans hf_⟩⟩) ?_
    refine steps_cons (by rintro b a w' ⟨ha, HI⟩ hb hon hoff; refine ⟨_, rfl, fun K hK => ?_⟩; have e34 := pon ha 2 (hon 2 rfl) rfl rfl rfl; exact value_ (v := .int .i64 2) (by rfl) rfl (by clear HI ha; go_simp) (hK.out _ _ ⟨upk ha 9 hb rfl rfl, by rw [up_ne (by decide)]; exact HI.1, HI.2⟩)) ?_
    refine steps_cons (by rintro b a w' ⟨ha, HI⟩ hb hon hoff; refine ⟨_, rfl, fun K hK => ?_⟩; have e37 := pon ha 5 (hon 5 rfl) rfl rfl rfl; exact value_ (v := .int .i64 2) (by rfl) rfl (by clear HI ha; go_simp) (hK.out _ _ ⟨upk ha 10 hb rfl rfl, by rw [up_ne (by decide)]; exact HI.1, HI.2⟩)) ?_
    refine steps_cons (by rintro b a w' ⟨ha, HI⟩ hb hon hoff; refine ⟨_, rfl, fun K hK => ?_⟩; have e40 := pon ha 8 (hon 8 rfl) rfl rfl rfl; exact value_ (v := .int .i64 0) (by rfl) rfl (by clear HI ha; go_simp) (hK.out _ _ ⟨upk ha 11 hb rfl rfl, by rw [up_ne (by decide)]; exact HI.1, HI.2⟩)) ?_
    exact steps_nil
  · rintro b a w' hall ⟨ha, HI⟩
    have hb0_ := hall 0 rfl; have hb1_ := hall 1 rfl; have hb2_ := hall 2 rfl; have hb3_ := hall 3 rfl; have hb4_ := hall 4 rfl; have hb5_ := hall 5 rfl; have hb6_ := hall 6 rfl; have hb7_ := hall 7 rfl
    have hb8_ := hall 8 rfl; have hb9_ := hall 9 rfl; have hb10_ := hall 10 rfl; have hb11_ := hall 11 rfl
    subst ha
    simp only [putSel, hb0_, hb1_, hb2_, hb3_, hb4_, hb5_, hb6_, hb7_, hb8_, hb9_, hb10_, hb11_, if_true, Act.put, List.setIfInBounds_toArray, List.set_cons_zero, List.set_cons_succ]
    have S4 : Side (St w w' X gh 1 m1) := ⟨by have h := HI.1; rw [if_pos hb8_] at h; exact h⟩
    have F4 := Side.mk (F3.out.trans HI.2)
    obtain ⟨k0_, k1_, k2_, k3_⟩ := HBX.out w' HI.2
    clear hall HI hb0_ hb1_ hb2_ hb3_ hb4_ hb5_ hb6_ hb7_ hb8_ hb9_ hb10_ hb11_
    refine ‹∀ (a : Act) (w : World), Code.wp Try.prog _ _ a w → _› _ _ ?_
    clear S3 F3 HBX
    go_wp2_with fail
    refine (Put_st S4.out (by rw [L.out.1]; omega) (4, 5, 0, 0, 1) (by decide) m2 rfl).mono ?_
    rintro e w5 ⟨rfl, s5, f5⟩
    have S5 := Side.mk s5
    have F5 := Side.mk (F4.out.trans f5)
    clear s5 f5 S4 F4 k0_ k1_ k2_ k3_
    go_wp2_with fail
    refine (Pop_st S5.out (by rw [L.out.2.1]; omega) _ _ T2.out m3 rfl).mono ?_
    rintro e w6 ⟨rfl, s6, f6⟩
    have S6 := Side.mk s6
    have F6 := Side.mk (F5.out.trans f6)
    clear s6 f6 S5 F5
    go_wp2_with fail
    refine (Pop_st (S6.out.below' (by (repeat (with_reducible first | exact Below.refl _ _ | apply below_drewN | apply below_drew | apply below_alloc)))) (by rw [L.out.2.2.1]; omega) _ _ T3.out m4 rfl).mono ?_
    rintro e w8 ⟨rfl, s8, f8⟩
    have S8 := Side.mk s8
    have F8 := Side.mk ((F6.out.trans (Fr.below (by (repeat (with_reducible first | exact Below.refl _ _ | apply below_drewN | apply below_drew | apply below_alloc))))).trans f8)
    clear s8 f8 S6 F6
    go_wp2_with fail
    refine (Pop_st (S8.out.below' (by (repeat (with_reducible first | exact Below.refl _ _ | apply below_drewN | apply below_drew | apply below_alloc)))) (by rw [L.out.2.2.2.1]; omega) _ _ T4.out m5 rfl).mono ?_
    rintro e w10 ⟨rfl, s10, f10⟩
    have S10 := Side.mk s10
    have F10 := Side.mk ((F8.out.trans (Fr.below (by (repeat (with_reducible first | exact Below.refl _ _ | apply below_drewN | apply below_drew | apply below_alloc))))).trans f10)
    clear s10 f10 S8 F8
    have ZN : Side (St w w10 (fun _ => False) gz 77 []) := ⟨by
      obtain ⟨D, hp, hI⟩ := ZH.out.hp
      obtain ⟨es, clock, h1, _⟩ := hp.map
      refine ⟨S10.out.below, fun _ h => h.elim, .slice none 0 0, bz, [], HS.keep ZH.out ?_ ?_, fun j hj hjl => absurd hjl (by simp), List.Perm.refl _, fun _ _ h => h⟩
      · exact (F10.out.block gz _ hp.box (.inl HX.out.2)).trans hp.box.symm
      · exact (F10.out.block bz _ h1 (.inl HX.out.1)).trans h1.symm⟩
    clear S10 F10 ZH
    go_wp2_with fail
    refine (MadeS _ _ _ _ _).out.mono ?_
    rintro e w11 ⟨rfl, hb⟩
    have Z1 := Side.mk (St.below' (ZN.out.below' (by (repeat (with_reducible first | exact Below.refl _ _ | apply below_drewN | apply below_drew | apply below_alloc)))) hb)
    clear hb ZN
    go_wp2_with fail
    refine (Put_st Z1.out (by simp) (1, 5, 0, 0, 0) (by decide) z1 rfl).mono ?_
    rintro e w12 ⟨rfl, s12, _⟩
    have Z2 := Side.mk s12
    clear s12 Z1
    go_wp2_with fail
    refine (MadeS _ _ _ _ _).out.mono ?_
    rintro e w13 ⟨rfl, hb⟩
    have Z3 := Side.mk (Z2.out.below' hb)
    clear hb Z2
    go_wp2_with fail
    refine (Put_st Z3.out (by rw [L.out.2.2.2.2.1]; omega) (2, 5, 1, 0, 0) (by decide) z2 rfl).mono ?_
    rintro e w14 ⟨rfl, s14, _⟩
    have Z4 := Side.mk s14
    clear s14 Z3
    go_wp2_with fail
    refine (Top_st Z4.out (by rw [L.out.2.2.2.2.2.1]; omega) _ _ TZ.out).mono ?_
    rintro e w15 ⟨rfl, s15, _⟩
    have Z5 := Side.mk s15
    clear s15 Z4
    go_wp2_with fail
    refine (Drop_st (Z5.out.below' (by (repeat (with_reducible first | exact Below.refl _ _ | apply below_drewN | apply below_drew | apply below_alloc)))) (by rw [L.out.2.2.2.2.2.1]; omega) 1 (by decide) true HZ.out.1 z3 rfl).mono ?_
    rintro e w16 ⟨rfl, s16, _⟩
    have Z7 := Side.mk s16
    clear s16 Z5
    go_wp2_with fail
    refine (Drop_st Z7.out (by rw [L.out.2.2.2.2.2.2]; omega) 1 (by decide) false HZ.out.2 z3 rfl).mono ?_
    rintro e w17 ⟨rfl, s17, _⟩
    have Z8 := Side.mk s17
    clear s17 Z7
    go_wp2_with fail
    refine (Len_st Z8.out 1 L.out.2.2.2.2.2.2).mono ?_
    rintro e w18 ⟨rfl, rfl⟩
    go_wp2
    go_ret
    exact ⟨rfl, Z8.out.below⟩
end Go.Proofs.Ytiebpmbongmgkaa.HpM
