/- Package calendar: CalendarPlays, one id is dropped. No condition. -/
import Derived.Test.YtbppjaglgbhckaaCbG
set_option linter.unusedVariables false
set_option linter.unusedSimpArgs false
namespace Go.Proofs.Ytbppjaglgbhckaa.CbE
open Go.RowKit Go.Proofs.Ytbppjaglgbhckaa.Kit Go.Proofs.Ytbppjaglgbhckaa.Kit2 Go.Proofs.Ytbppjaglgbhckaa.Kit4 Go.Proofs.Ytbppjaglgbhckaa.Kit5 Go.Proofs.Ytbppjaglgbhckaa.CaA Go.Proofs.Ytbppjaglgbhckaa.CaG Go.Proofs.Ytbppjaglgbhckaa.CaH Go.Proofs.Ytbppjaglgbhckaa.CaI Go.Proofs.Ytbppjaglgbhckaa.CaK Go.Proofs.Ytbppjaglgbhckaa.CaM Go.Proofs.Ytbppjaglgbhckaa.CaN Go.Proofs.Ytbppjaglgbhckaa.CaP Go.Proofs.Ytbppjaglgbhckaa.CaQ Go.Proofs.Ytbppjaglgbhckaa.CaR Go.Proofs.Ytbppjaglgbhckaa.CaT Go.Proofs.Ytbppjaglgbhckaa.CaX Go.Proofs.Ytbppjaglgbhckaa.CaY Go.Proofs.Ytbppjaglgbhckaa.CaZ Go.Proofs.Ytbppjaglgbhckaa.CbA Go.Proofs.Ytbppjaglgbhckaa.CbG
open Go.Proofs.YtbppjaglgbhckaaW.PrintLast Go.Proofs.Ytbppjaglgbhckaa.CbBp
theorem infoD : (Try.prog.info? 34).map (fun i => (i.zero, i.size, i.bytes)) = some (some (.agg #[.int .i64 0, .int .i64 0, .int .i64 0]), 3, 24) := by kernel_rfl
set_option maxHeartbeats 400000000 in
set_option maxRecDepth 100000 in
theorem piece : CbBp.part.2.2.1 := by
  set_option tactic.hygienic false in (intro _; intros)
  have hpl := HB.out.lt
  have hml : ms.length ≤ 200 := by omega
  go_upto_region 37 with (fail)
  go_wp2_with fail
  have b2 : wq.cell? ⟨p, 2, none⟩ = some (.int .i64 di) := cell_of_row wq p 2 _ _ (0, 0) HB.out
  go_loopw [11, 12] (fun v11 v12 wr2 => ∃ j : Nat, v12 = .int .i64 (j : Int) ∧ j ≤ ms.length ∧ Side (Below wq.heap.size wq wr2) ∧ Side (DRow wr2 wq.heap.size v11 (kept ms di j))) (fun _ v12 _ => (ms.length - intOf v12).toNat)
  case atStart => exact ⟨0, rfl, Nat.zero_le _, ⟨Below.refl _ _⟩, ⟨by unfold kept; rw [List.take_zero]; exact GRow.nil _ _⟩⟩
  case round =>
    obtain ⟨j, rfl, hj, HW, HR⟩ := hrel
    obtain ⟨wz, hwz⟩ : ∃ wz : World, wz = wr := ⟨_, rfl⟩
    rw [← hwz] at HW HR ⊢
    clear hwz
    have hj0 : (0 : Int) ≤ j := by omega
    have hj1 : (j : Int) + 1 ≤ 9223372036854775807 := by omega
    have HKL : Side ((kept ms di j).length ≤ 200) := ⟨by have := kept_le ms di j; omega⟩
    by_cases hjl : j < ms.length
    · have hjli : (j : Int) < ms.length := by omega
      obtain ⟨x, hx⟩ : ∃ x, ms[j]? = some x := ⟨_, List.getElem?_eq_getElem (by omega)⟩
      have HKS := Side.mk (kept_step ms di j x hx)
      obtain ⟨g6, off6, rfl, hgl, u0, u1, u2⟩ := MR.get (HA.out.row.below HW.out) hx
      have d2 : wz.cell? ⟨p, 2, none⟩ = some (.int .i64 di) := bc HW.out hpl b2
      have hpz := bz HW.out hpl
      obtain ⟨sb, hsb⟩ : ∃ sb : Bool, sb = (x.2.2 != di) := ⟨_, rfl⟩
      have HSB := Side.mk hsb
      clear hx hsb
      go_upto_region 41 with (fail)
      go_cut [156] (fun v we => v = .bool sb ∧ Side (Below wz.heap.size wz we))
      case first =>
        refine start_ (n := 8) (S := fun w' => True) (ds := []) #[false, false, false, false, false, false, false, false] (by kernel_rfl) rfl rfl trivial (fun _ => ?_)
        refine inv_at (B := [0, 0, 3, 7, 15, 0, 32, 127]) [0, 1, 2, 3, 4, 5, 6, 7] (fun a0_ b a w' => a = putSel a0_ b [(0, 149, .slice (some ⟨g6, off6, none⟩) ms.length c4), (1, 150, .int .i64 j), (2, 151, .pointer (some ⟨g6, off6 + j * 3, none⟩)), (3, 152, .pointer (some ⟨g6, off6 + j * 3 + 2, none⟩)), (4, 153, .int .i64 x.2.2), (5, 154, .pointer (some ⟨p, 2, none⟩)), (6, 155, .int .i64 di), (7, 156, .bool sb)] ∧ Below wz.drew.heap.size wz.drew w') rfl (by kernel_rfl) (by kernel_rfl) (by kernel_rfl) ?_ ?_ ?_
        · exact ⟨by simp only [putSel, Bool.false_eq_true, if_false], Below.refl _ _⟩
        · refine steps_cons (by rintro b a w' ⟨ha, HI⟩ hb hon hoff; refine ⟨_, rfl, fun K hK => ?_⟩; have e4 := poff ha (t := 4) rfl rfl; exact value_ (v := .slice (some ⟨g6, off6, none⟩) ms.length c4) (by rfl) rfl (by clear HI ha; go_simp) (hK.out _ _ ⟨upk ha 0 hb rfl rfl, HI⟩)) ?_
          refine steps_cons (by rintro b a w' ⟨ha, HI⟩ hb hon hoff; refine ⟨_, rfl, fun K hK => ?_⟩; have e12 := poff ha (t := 12) rfl rfl; exact value_ (v := .int .i64 j) (by rfl) rfl (by clear HI ha; go_simp) (hK.out _ _ ⟨upk ha 1 hb rfl rfl, HI⟩)) ?_
          refine steps_cons (by rintro b a w' ⟨ha, HI⟩ hb hon hoff; refine ⟨_, rfl, fun K hK => ?_⟩; have e149 := pon ha 0 (hon 0 rfl) rfl rfl rfl; have e150 := pon ha 1 (hon 1 rfl) rfl rfl rfl; exact value_ (v := .pointer (some ⟨g6, off6 + j * 3, none⟩)) (by rfl) rfl (by clear HI ha; go_simp) (hK.out _ _ ⟨upk ha 2 hb rfl rfl, HI⟩)) ?_
          refine steps_cons (by rintro b a w' ⟨ha, HI⟩ hb hon hoff; refine ⟨_, rfl, fun K hK => ?_⟩; have e151 := pon ha 2 (hon 2 rfl) rfl rfl rfl; exact value_ (v := .pointer (some ⟨g6, off6 + j * 3 + 2, none⟩)) (by rfl) rfl (by clear HI ha; go_simp) (hK.out _ _ ⟨upk ha 3 hb rfl rfl, HI⟩)) ?_
          refine steps_cons (by rintro b a w' ⟨ha, HI⟩ hb hon hoff; refine ⟨_, rfl, fun K hK => ?_⟩; have e152 := pon ha 3 (hon 3 rfl) rfl rfl rfl; have k0_ := bc HI hgl u2; have kz_ := bz HI hgl; exact value_ (v := .int .i64 x.2.2) (by rfl) rfl (by clear HI ha; go_simp) (hK.out _ _ ⟨upk ha 4 hb rfl rfl, HI⟩)) ?_
          refine steps_cons (by rintro b a w' ⟨ha, HI⟩ hb hon hoff; refine ⟨_, rfl, fun K hK => ?_⟩; have e6 := poff ha (t := 6) rfl rfl; exact value_ (v := .pointer (some ⟨p, 2, none⟩)) (by rfl) rfl (by clear HI ha; go_simp) (hK.out _ _ ⟨upk ha 5 hb rfl rfl, HI⟩)) ?_
          refine steps_cons (by rintro b a w' ⟨ha, HI⟩ hb hon hoff; refine ⟨_, rfl, fun K hK => ?_⟩; have e154 := pon ha 5 (hon 5 rfl) rfl rfl rfl; have k0_ := bc HI hpz d2; have kz_ := bz HI hpz; exact value_ (v := .int .i64 di) (by rfl) rfl (by clear HI ha; go_simp) (hK.out _ _ ⟨upk ha 6 hb rfl rfl, HI⟩)) ?_
          refine steps_cons (by rintro b a w' ⟨ha, HI⟩ hb hon hoff; refine ⟨_, rfl, fun K hK => ?_⟩; have e153 := pon ha 4 (hon 4 rfl) rfl rfl rfl; have e155 := pon ha 6 (hon 6 rfl) rfl rfl rfl; exact value_ (v := .bool sb) (by rfl) rfl (by clear HI ha; go_simp; exact HSB.out.symm) (hK.out _ _ ⟨upk ha 7 hb rfl rfl, HI⟩)) ?_
          exact steps_nil
        · rintro b a w' hall ⟨ha, HI⟩
          have hb0_ := hall 0 rfl; have hb1_ := hall 1 rfl; have hb2_ := hall 2 rfl; have hb3_ := hall 3 rfl; have hb4_ := hall 4 rfl; have hb5_ := hall 5 rfl; have hb6_ := hall 6 rfl; have hb7_ := hall 7 rfl
          subst ha
          simp only [putSel, hb0_, hb1_, hb2_, hb3_, hb4_, hb5_, hb6_, hb7_, if_true, Act.put, List.setIfInBounds_toArray, List.set_cons_zero, List.set_cons_succ]
          have hB := (below_then (below_drew (Below.refl _ wz)) (Nat.le_refl _) HI : Below wz.heap.size wz w')
          clear hall HI hb0_ hb1_ hb2_ hb3_ hb4_ hb5_ hb6_ hb7_
          refine ‹∀ (a' : Act) (w' : World), Met _ a' w' → _› _ _ ?_
          go_meet
          case rel => exact ⟨rfl, ⟨hB⟩⟩
      case rest =>
      obtain ⟨rfl, HC⟩ := hcut
      have v0 := bc HC.out hgl u0
      have v1 := bc HC.out hgl u1
      have v2 := bc HC.out hgl u2
      have hgl2 := bz HC.out hgl
      have HR2 := Side.mk (HR.out.below HC.out)
      have HW2 := Side.mk (HW.out.trans (HC.out.mono HW.out.size))
      clear HW HC HR u0 u1 u2 d2 hpz hgl
      go_step
      cases sb
      · have HN : Side (DRow wc wq.heap.size u11 (kept ms di (j + 1))) := ⟨by rw [HKS.out, ← HSB.out]; simpa using HR2.out⟩
        clear HKS HSB HR2 HKL v0 v1 v2 hgl2
        go_wp2
        go_roundw
        case rel => exact ⟨j + 1, by simp, by omega, HW2, HN⟩
        case measure => simp [intOf]; omega
      · have HKS2 : Side (kept ms di (j + 1) = kept ms di j ++ [x]) := ⟨by rw [HKS.out, ← HSB.out]; rfl⟩
        clear HKS HSB
        go_wp2_with (at_builtin; refine wpList_gapp E3 Try.underlying32 infoD rfl (by decide) rfl _ _ rfl wq.heap.size _ (kept ms di j) rfl ?c1 ⟨wc.heap.size, 0, none⟩ 1 [x] rfl ?c2 ?c3 ?c4 ?c5)
        case c1 => exact HR2.out.below (by (repeat (with_reducible first | exact Below.refl _ _ | apply below_drewN | apply below_drew | apply below_alloc)))
        case c2 =>
          intro r y hy q u hu
          rcases r with _ | r
          · simp at hy
            subst hy
            rw [show (⟨wc.heap.size, 0, none⟩ : Addr).add (0 * 3 + q) = ⟨wc.heap.size, q, none⟩ by simp [Addr.add]; omega]
            refine (World.cell?_alloc_at _ _ _ _ rfl).trans ?_
            simpa [dcl] using hu
          · simp at hy
        case c3 => have := HKL.out; simp; omega
        case c4 => have := HW2.out.size; simp; omega
        case c5 =>
          intro v' w3 hrow hgr hat
          have HN : Side (DRow w3 wq.heap.size v' (kept ms di (j + 1))) := ⟨by rw [HKS2.out]; exact hrow⟩
          have HW3 : Side (Below wq.heap.size wq w3) := ⟨bel_grown (HW2.out.trans ((by (repeat (with_reducible first | exact Below.refl _ _ | apply below_drewN | apply below_drew | apply below_alloc)) : Below wc.heap.size wc _).mono HW2.out.size)) hgr (fun k e => HR2.out.base k e.symm)⟩
          clear hrow hgr hat HKS2 HR2 HW2 HKL v0 v1 v2 hgl2
          go_wp2
          go_roundw
          case rel => exact ⟨j + 1, by simp, by omega, HW3, HN⟩
          case measure => simp [intOf]; omega
    · obtain rfl : j = ms.length := by omega
      have hjl' : ¬ (ms.length : Int) < ms.length := by omega
      have HKA := Side.mk (kept_all ms di)
      have HKN := Side.mk (kept_le ms di ms.length)
      generalize kept ms di ms.length = ks at *
      have HP := Side.mk (HA.out.below HW.out)
      have hbase := HA.out.st.below.size
      have c2 : wz.cell? ⟨p, 2, none⟩ = some (.int .i64 di) := bc HW.out hpl b2
      have hpz := bz HW.out hpl
      obtain ⟨a8, c8, rfl, -, -⟩ := HR.out.shape E3
      have hkn : (ks.length : Int) ≤ ms.length := by have := HKN.out; omega
      have hmi : (ms.length : Int) ≤ 200 := by omega
      clear hjl hj HW HKL b2 hpl HA HB
      go_upto_region 43 with (fail)
      go_wp2_with fail
      refine (Drop_st (HP.out.st.below' (by (repeat (with_reducible first | exact Below.refl _ _ | apply below_drewN | apply below_drew | apply below_alloc)))) (by rw [its_len]; omega) di (its ks) HKA.out.symm).mono ?_
      rintro e w5 ⟨rfl, hs, hf⟩
      rw [its_len, its_len]
      have HN : Side (Pl w w5 gq (.slice a8 ks.length c8) ks) := ⟨⟨hs, MR.fr (MR.below (MR.of_row (GRow.lower HR.out hbase)) (by (repeat (with_reducible first | exact Below.refl _ _ | apply below_drewN | apply below_drew | apply below_alloc)))) hf⟩⟩
      clear hs hf HP HR c2 hpz HKA
      have hle := HKN.out
      go_wp2
      go_meet
      case rel => exact ⟨ks, by omega, HN⟩
end Go.Proofs.Ytbppjaglgbhckaa.CbE
