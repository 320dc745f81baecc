/- Package heap: the walk of HeapPlays. No condition. -/
import Derived.Test.YtiebpmbongmgkaaHpUp
import Derived.Test.YtiebpmbongmgkaaHpS
import Derived.Test.YtiebpmbongmgkaaHpT
import Derived.Test.YtiebpmbongmgkaaHpR
set_option linter.unusedVariables false
set_option linter.unusedSimpArgs false
namespace Go.Proofs.Ytiebpmbongmgkaa.HpU8
open Go.RowKit Go.Proofs.Ytiebpmbongmgkaa.Kit Go.Proofs.Ytiebpmbongmgkaa.Kit2 Go.Proofs.Ytiebpmbongmgkaa.Kit3 Go.Proofs.Ytiebpmbongmgkaa.Kit4 Go.Proofs.Ytiebpmbongmgkaa.Kit5 HpPlain Go.Maps Go.Proofs.Ytiebpmbongmgkaa.HpA Go.Proofs.Ytiebpmbongmgkaa.HpB Go.Proofs.Ytiebpmbongmgkaa.HpE Go.Proofs.Ytiebpmbongmgkaa.HpG Go.Proofs.Ytiebpmbongmgkaa.HpI Go.Proofs.Ytiebpmbongmgkaa.HpK Go.Proofs.Ytiebpmbongmgkaa.HpL Go.Proofs.Ytiebpmbongmgkaa.HpN Go.Proofs.Ytiebpmbongmgkaa.HpO Go.Proofs.Ytiebpmbongmgkaa.HpP Go.Proofs.Ytiebpmbongmgkaa.HpT Go.Proofs.Ytiebpmbongmgkaa.HpR
open Go.Proofs.YtiebpmbongmgkaaW.PrintLast
set_option maxHeartbeats 400000000 in
set_option maxRecDepth 100000 in
theorem piece : HpUp.part.2.2.2.2.2.2.2.1 := by
  set_option tactic.hygienic false in (intro _; intros)
  clear HBB
  clear b0 HTOP
  go_upto_region 27 with (fail)
  have b1 := HA.out.bx.cell 1 _ rfl
  have b2 := HA.out.bx.cell 2 _ rfl
  have b3 := HA.out.bx.cell 3 _ rfl
  have b4 := HA.out.bx.cell 4 _ rfl
  have b5 := HA.out.bx.cell 5 _ rfl
  obtain ⟨ec, m2, hsx, hcp⟩ := put_any HA.out.pl.st hml y.2
  have HSX := Side.mk hsx
  have CP := Side.mk hcp
  clear hsx hcp
  refine start_ (n := 8) (S := fun w' => True) (ds := []) #[false, false, false, false, false, false, false, false] (by kernel_rfl) rfl rfl trivial (fun _ => ?_)
  refine inv_at (B := [0, 0, 2, 0, 8, 24, 63, 127]) [0, 1, 2, 3, 4, 5, 6, 7] (fun a0_ b a w' => a = putSel a0_ b [(0, 73, .pointer (some ⟨gh, 0, none⟩)), (1, 74, .pointer (some ⟨p8, 1, none⟩)), (2, 75, .int .i64 y.2.1), (3, 76, .pointer (some ⟨p8, 2, none⟩)), (4, 77, rv y.2), (5, 78, rv y.2), (6, 79, .int .i64 ec), (7, 13, .int .i64 ec)] ∧ OneB wq.drew (fun w' => St w w' (fun _ => False) gh kind m2 ∧ Fr (fun _ => False) wq w') 6 b w') rfl (by kernel_rfl) (by kernel_rfl) (by kernel_rfl) ?_ ?_ ?_
  · exact ⟨by simp only [putSel, Bool.false_eq_true, if_false], OneB.start⟩
  · refine steps_cons (by rintro b a w' ⟨ha, HI⟩ hb hon hoff; refine ⟨_, rfl, fun K hK => ?_⟩; have e5 := poff ha (t := 5) rfl rfl; exact value_ (v := .pointer (some ⟨gh, 0, none⟩)) (by rfl) rfl (by clear HI ha; go_simp) (hK.out _ _ ⟨upk ha 0 hb rfl rfl, HI.low (by decide)⟩)) ?_
    refine steps_cons (by rintro b a w' ⟨ha, HI⟩ hb hon hoff; refine ⟨_, rfl, fun K hK => ?_⟩; have e8 := poff ha (t := 8) rfl rfl; exact value_ (v := .pointer (some ⟨p8, 1, none⟩)) (by rfl) rfl (by clear HI ha; go_simp) (hK.out _ _ ⟨upk ha 1 hb rfl rfl, HI.low (by decide)⟩)) ?_
    refine steps_cons (by rintro b a w' ⟨ha, HI⟩ hb hon hoff; refine ⟨_, rfl, fun K hK => ?_⟩; have e74 := pon ha 1 (hon 1 rfl) rfl rfl rfl; have k0_ := bc (HI.n (hoff 6 rfl)) hpl b1; have kz_ := bz (HI.n (hoff 6 rfl)) hpl; exact value_ (v := .int .i64 y.2.1) (by rfl) rfl (by clear HI ha; go_simp) (hK.out _ _ ⟨upk ha 2 hb rfl rfl, HI.low (by decide)⟩)) ?_
    refine steps_cons (by rintro b a w' ⟨ha, HI⟩ hb hon hoff; refine ⟨_, rfl, fun K hK => ?_⟩; have e8 := poff ha (t := 8) rfl rfl; exact value_ (v := .pointer (some ⟨p8, 2, none⟩)) (by rfl) rfl (by clear HI ha; go_simp) (hK.out _ _ ⟨upk ha 3 hb rfl rfl, HI.low (by decide)⟩)) ?_
    refine steps_cons (by rintro b a w' ⟨ha, HI⟩ hb hon hoff; refine ⟨_, rfl, fun K hK => ?_⟩; have e76 := pon ha 3 (hon 3 rfl) rfl rfl rfl; have k0_ := bc (HI.n (hoff 6 rfl)) hpl b2; have k1_ := bc (HI.n (hoff 6 rfl)) hpl b3; have k2_ := bc (HI.n (hoff 6 rfl)) hpl b4; have k3_ := bc (HI.n (hoff 6 rfl)) hpl b5; have kz_ := bz (HI.n (hoff 6 rfl)) hpl; exact value_ (v := rv y.2) (by rfl) rfl (by clear HI ha; go_simp) (hK.out _ _ ⟨upk ha 4 hb rfl rfl, HI.low (by decide)⟩)) ?_
    refine steps_cons (by rintro b a w' ⟨ha, HI⟩ hb hon hoff; refine ⟨_, rfl, fun K hK => ?_⟩; have e77 := pon ha 4 (hon 4 rfl) rfl rfl rfl; refine goes_ Try.func11 (by kernel_rfl) rfl #[rv y.2] (by rfl) rfl rfl (by simp [Act.eval, e77]) ((MadeS _ _ _ _ _).out.mono ?_); rintro e_ w'' ⟨rfl, hbc⟩; exact ⟨_, rfl, hK.out _ _ ⟨upk ha 5 hb rfl rfl, HI.mid (hoff 6 rfl) hbc (by decide)⟩⟩) ?_
    refine steps_cons (by rintro b a w' ⟨ha, HI⟩ hb hon hoff; refine ⟨_, rfl, fun K hK => ?_⟩; have e73 := pon ha 0 (hon 0 rfl) rfl rfl rfl; have e75 := pon ha 2 (hon 2 rfl) rfl rfl rfl; have e78 := pon ha 5 (hon 5 rfl) rfl rfl rfl; refine goes_ Try.func10 (by kernel_rfl) rfl #[.pointer (some ⟨gh, 0, none⟩), .int .i64 y.2.1, rv y.2] (by rfl) rfl rfl (by simp [Act.eval, e73, e75, e78]) ((CP.out w' (below_then (below_drew (Below.refl _ wq)) (Nat.le_refl _) (HI.n hb))).mono ?_); rintro e_ w'' ⟨rfl, hs_, hf_⟩; exact ⟨_, rfl, hK.out _ _ ⟨upk ha 6 hb rfl rfl, OneB.set ⟨hs_, hf_⟩⟩⟩) ?_
    refine steps_cons (by rintro b a w' ⟨ha, HI⟩ hb hon hoff; refine ⟨_, rfl, fun K hK => ?_⟩; have e79 := pon ha 6 (hon 6 rfl) rfl rfl rfl; exact value_ (v := .int .i64 ec) (by rfl) rfl (by clear HI ha; go_simp) (hK.out _ _ ⟨upk ha 7 hb rfl rfl, HI.low (by decide)⟩)) ?_
    exact steps_nil
  · rintro b a w' hall ⟨ha, HI⟩
    have hb0_ := hall 0 rfl; have hb1_ := hall 1 rfl; have hb2_ := hall 2 rfl; have hb3_ := hall 3 rfl; have hb4_ := hall 4 rfl; have hb5_ := hall 5 rfl; have hb6_ := hall 6 rfl; have hb7_ := hall 7 rfl
    subst ha
    simp only [putSel, hb0_, hb1_, hb2_, hb3_, hb4_, hb5_, hb6_, hb7_, if_true, Act.put, List.setIfInBounds_toArray, List.set_cons_zero, List.set_cons_succ]
    obtain ⟨hs, hf⟩ := HI.y hb6_
    clear hall HI hb0_ hb1_ hb2_ hb3_ hb4_ hb5_ hb6_ hb7_
    refine ‹∀ (a : Act) (w : World), Code.wp Try.prog _ _ a w → _› _ _ ?_
    obtain ⟨hr, hv⟩ := HA.out.calls hf
    have HR := Side.mk hr
    have HV := Side.mk hv
    have HND := Side.mk HA.out.pl.st.nd
    clear hr hv hf CP HA b1 b2 b3 b4 b5 hpl
    have b1 := HV.out.cell 1 _ rfl
    have hpl := HV.out.lt
    rcases HSX.out with ⟨rfl, rfl, hx⟩ | ⟨rfl, rfl, h1, h2⟩
    · have HN : Side (Pc w gh kind (.slice a6 ms.length c6) ms (-1) w') := ⟨⟨hs, HR.out⟩⟩
      clear HSX hs HAT HR
      go_upto_region 28 with (fail)
      go_cut [87] (fun v we => v = .bool true ∧ Side (Pc w gh kind (.slice a6 ms.length c6) ms (-1) we))
      case first =>
        rcases hx with h1 | ⟨h1, h2⟩
        · go_wp2
          go_meet
          case rel => exact ⟨by first | rfl | (simp [h1]; done), HN⟩
        · go_wp2
          go_meet
          case rel => exact ⟨by first | rfl | (simp [h1, h2]; done), HN⟩
      case rest =>
      obtain ⟨rfl, HN'⟩ := hcut
      clear HN b1 hpl HV
      go_step
      go_wp2
      go_meet
      case rel => exact ⟨ms, -1, rfl, .inl rfl, by omega, HN'⟩
    · have HS := Side.mk hs
      clear HSX hs
      go_upto_region 28 with (fail)
      go_cut [87] (fun v we => v = .bool false ∧ we = w')
      case first =>
        go_wp2
        go_meet
        case rel => exact ⟨by first | rfl | (simp [h1, h2]; done), rfl⟩
      case rest =>
      obtain ⟨rfl, hww⟩ := hcut
      clear h1 h2
      have HV' : Side (Val wc 42 p8 (dcl y)) := ⟨by rw [hww]; exact HV.out⟩
      have HR' : Side (DRow wc w.heap.size (.slice a6 ms.length c6) ms) := ⟨by rw [hww]; exact HR.out⟩
      have HS' : Side (St w wc (fun _ => False) gh kind (put (its ms) y.2)) := ⟨by rw [hww]; exact HS.out⟩
      clear hww HV HR HS b1 hpl
      have hpl := HV'.out.lt
      have b2 := HV'.out.cell 2 _ rfl
      have b3 := HV'.out.cell 3 _ rfl
      have b4 := HV'.out.cell 4 _ rfl
      have b5 := HV'.out.cell 5 _ rfl
      go_step
      rcases HAT.out with ⟨rfl, hh, -⟩ | ⟨q, hq, rfl, hq2, -, -⟩
      · have b0 := HV'.out.cell 0 _ rfl
        have b1 := HV'.out.cell 1 _ rfl
        have HH := Side.mk hh
        have HLN : Side (ms.length ≤ 200) := ⟨by omega⟩
        clear hh HAT
        go_wp2_with (at_builtin; refine wpList_gapp E6 Try.underlying40 infoD rfl (by decide) rfl _ _ rfl w.heap.size _ ms rfl ?c1 ⟨wc.heap.size, 0, none⟩ 1 [y] rfl ?c2 ?c3 ?c4 ?c5)
        case c1 => exact HR'.out.below (by (repeat (with_reducible first | exact Below.refl _ _ | apply below_drewN | apply below_drew | apply below_alloc)))
        case c2 =>
          intro r x hx k u hu
          rcases r with _ | r
          · simp at hx
            subst hx
            rw [show (⟨wc.heap.size, 0, none⟩ : Addr).add (0 * 6 + k) = ⟨wc.heap.size, k, none⟩ by simp [Addr.add]; omega]
            refine (World.cell?_alloc_at _ _ _ _ rfl).trans ?_
            simpa [dcl] using hu
          · simp at hx
        case c3 => have := HLN.out; simp; omega
        case c4 => have := HS'.out.below.size; simp; omega
        case c5 =>
          intro v' w3 hrow hgr hat
          have HN : Side (Pc w gh kind v' (ms ++ [y]) (-1) w3) := ⟨Pc.app HH.out (HS'.out.below' (by (repeat (with_reducible first | exact Below.refl _ _ | apply below_drewN | apply below_drew | apply below_alloc)))) (HR'.out.below (by (repeat (with_reducible first | exact Below.refl _ _ | apply below_drewN | apply below_drew | apply below_alloc)))) hrow hgr⟩
          have HLN2 : Side ((ms ++ [y]).length ≤ i + 1) := ⟨by simp; omega⟩
          clear hrow hgr hat HH HS' HR' HV' b0 b1 b2 b3 b4 b5 hpl HND HLN
          go_wp2
          go_meet
          case rel => exact ⟨ms ++ [y], -1, rfl, .inl rfl, HLN2.out, HN⟩
      · obtain ⟨g6, rfl, -, hgl, -, -, hc⟩ := HR'.out.get E6 (by rintro rfl; simp at hq)
        obtain ⟨u, hu⟩ : ∃ u, ms[q]? = some u := ⟨_, List.getElem?_eq_getElem hq⟩
        have u2 := hc q u hu 2 _ rfl
        have u3 := hc q u hu 3 _ rfl
        have u4 := hc q u hu 4 _ rfl
        have u5 := hc q u hu 5 _ rfl
        clear hc hu
        have hq0 : (0 : Int) ≤ q := by omega
        have hqi : (q : Int) < ms.length := by omega
        have f2 := HR'.out.froz (q * 6 + 2)
        have f3 := HR'.out.froz (q * 6 + 3)
        have f4 := HR'.out.froz (q * 6 + 4)
        have f5 := HR'.out.froz (q * 6 + 5)
        obtain ⟨ms2, h1, h2⟩ := Pc.set HND.out HS'.out HR'.out q hq hq2
        have H2 := Side.mk h2
        have H1 := Side.mk h1
        clear h1 h2 HS' HND HAT HV' hq2
        go_upto_region 34 with (fail)
        go_wp2
        go_meet
        case rel => exact ⟨ms2, -1, rfl, .inl rfl, by have := H1.out; omega, H2⟩
end Go.Proofs.Ytiebpmbongmgkaa.HpU8
