/- Package calendar: CalendarPlays, one asks who is due. No condition. -/
import Derived.Test.YtbppjaglgbhckaaCbG
set_option linter.unusedVariables false
set_option linter.unusedSimpArgs false
namespace Go.Proofs.Ytbppjaglgbhckaa.CbD
open Go.RowKit Go.Proofs.Ytbppjaglgbhckaa.Kit Go.Proofs.Ytbppjaglgbhckaa.Kit2 Go.Proofs.Ytbppjaglgbhckaa.Kit4 Go.Proofs.Ytbppjaglgbhckaa.Kit5 Go.Proofs.Ytbppjaglgbhckaa.CaA Go.Proofs.Ytbppjaglgbhckaa.CaG Go.Proofs.Ytbppjaglgbhckaa.CaH Go.Proofs.Ytbppjaglgbhckaa.CaI Go.Proofs.Ytbppjaglgbhckaa.CaK Go.Proofs.Ytbppjaglgbhckaa.CaM Go.Proofs.Ytbppjaglgbhckaa.CaN Go.Proofs.Ytbppjaglgbhckaa.CaP Go.Proofs.Ytbppjaglgbhckaa.CaQ Go.Proofs.Ytbppjaglgbhckaa.CaR Go.Proofs.Ytbppjaglgbhckaa.CaT Go.Proofs.Ytbppjaglgbhckaa.CaX Go.Proofs.Ytbppjaglgbhckaa.CaY Go.Proofs.Ytbppjaglgbhckaa.CaZ Go.Proofs.Ytbppjaglgbhckaa.CbA Go.Proofs.Ytbppjaglgbhckaa.CbG
open Go.Proofs.YtbppjaglgbhckaaW.PrintLast Go.Proofs.Ytbppjaglgbhckaa.CbBp
set_option maxHeartbeats 400000000 in
set_option maxRecDepth 100000 in
theorem piece : CbBp.part.2.1 := by
  set_option tactic.hygienic false in (intro _; intros)
  have b1 : wq.cell? ⟨p, 1, none⟩ = some (.int .i64 dt) := cell_of_row wq p 1 _ _ (0, 0) HB.out
  have hpl := HB.out.lt
  obtain ⟨k, hk⟩ : ∃ k, CaQ.due dt (its ms) = k := ⟨_, rfl⟩
  have hkl : k ≤ ms.length := by have := CaQ.due_le dt (its ms); rw [its_len] at this; omega
  have hml : ms.length ≤ 200 := by omega
  have HK := Side.mk hk
  clear hk
  go_upto_region 24 with (fail)
  go_wp2_with fail
  refine (Due_st (HA.out.st.below' (by (repeat (with_reducible first | exact Below.refl _ _ | apply below_drewN | apply below_drew | apply below_alloc)))) (by rw [its_len]; omega) dt k HK.out).mono ?_
  rintro e w5 ⟨vo, rfl, hi, hs, hf⟩
  obtain ⟨ax, cx, rfl⟩ := CaQ.IRow.shape hi
  rw [ids_len _ _ (by rw [its_len]; exact hkl)] at hi ⊢
  have HI := Side.mk hi
  have HS := Side.mk hs
  have HR := Side.mk ((HA.out.row.below (by (repeat (with_reducible first | exact Below.refl _ _ | apply below_drewN | apply below_drew | apply below_alloc)))).fr hf)
  have HB5 := Side.mk (At1.fr (At1.below HB.out (by (repeat (with_reducible first | exact Below.refl _ _ | apply below_drewN | apply below_drew | apply below_alloc)))) hf)
  clear hi hs hf HA HB b1 hpl
  go_wp2_with fail
  go_loopw [9] (fun v9 wr2 => ∃ n : Nat, v9 = .int .i64 (n : Int) ∧ n ≤ k ∧ Side (Below w5.heap.size w5 wr2)) (fun v9 _ => (k - intOf v9).toNat)
  case atStart => exact ⟨0, rfl, Nat.zero_le _, ⟨Below.refl _ _⟩⟩
  case round =>
    obtain ⟨n, rfl, hn, HW⟩ := hrel
    obtain ⟨wz, hwz⟩ : ∃ wz : World, wz = wr := ⟨_, rfl⟩
    rw [← hwz] at HW ⊢
    clear hwz
    have hn0 : (0 : Int) ≤ n := by omega
    have hn1 : (n : Int) + 1 ≤ 9223372036854775807 := by omega
    by_cases hnk : n < k
    · obtain ⟨x, hx⟩ : ∃ x, ms[n]? = some x := ⟨_, List.getElem?_eq_getElem (by omega)⟩
      have HLE := Side.mk (due_more hx (by rw [HK.out]; exact hnk))
      have hnl : (n : Int) < ms.length := by omega
      obtain ⟨g6, off6, rfl, hgl, -, u1, -⟩ := MR.get (HR.out.below HW.out) hx
      have b1 : wz.cell? ⟨p, 1, none⟩ = some (.int .i64 dt) := cell_of_row wz p 1 _ _ (0, 0) (At1.below HB5.out HW.out)
      have hpl := Nat.lt_of_lt_of_le HB5.out.lt HW.out.size
      clear hx
      go_upto_region 26 with (fail)
      go_cut [116] (fun v we => v = .bool true ∧ Side (Below wz.heap.size wz we))
      case first =>
        refine start_ (n := 14) (S := fun w' => True) (ds := []) #[false, false, false, false, false, false, false, false, false, false, false, false, false, false] (by kernel_rfl) rfl rfl trivial (fun _ => ?_)
        refine inv_at (B := [0, 0, 2, 7, 15, 31, 31, 127, 255, 511, 31, 1055, 4095, 8191]) [0, 1, 2, 3, 4, 5, 6, 7, 8, 9, 10, 11, 12, 13] (fun a0_ b a w' => a = putSel a0_ b [(0, 103, .int .i64 n), (1, 104, .slice (some ⟨g6, off6, none⟩) ms.length c4), (2, 105, .int .i64 ms.length), (3, 106, .bool true), (4, 107, .bool true), (5, 108, .slice (some ⟨g6, off6, none⟩) ms.length c4), (6, 109, .int .i64 n), (7, 110, .pointer (some ⟨g6, off6 + n * 3, none⟩)), (8, 111, .pointer (some ⟨g6, off6 + n * 3 + 1, none⟩)), (9, 112, .int .i64 x.2.1), (10, 113, .pointer (some ⟨p, 1, none⟩)), (11, 114, .int .i64 dt), (12, 115, .bool true), (13, 116, .bool true)] ∧ Below wz.drew.heap.size wz.drew w') rfl (by kernel_rfl) (by kernel_rfl) (by kernel_rfl) ?_ ?_ ?_
        · exact ⟨by simp only [putSel, Bool.false_eq_true, if_false], Below.refl _ _⟩
        · refine steps_cons (by rintro b a w' ⟨ha, HI⟩ hb hon hoff; refine ⟨_, rfl, fun K hK => ?_⟩; have e9 := poff ha (t := 9) rfl rfl; exact value_ (v := .int .i64 n) (by rfl) rfl (by clear HI ha; go_simp) (hK.out _ _ ⟨upk ha 0 hb rfl rfl, HI⟩)) ?_
          refine steps_cons (by rintro b a w' ⟨ha, HI⟩ hb hon hoff; refine ⟨_, rfl, fun K hK => ?_⟩; have e4 := poff ha (t := 4) rfl rfl; exact value_ (v := .slice (some ⟨g6, off6, none⟩) ms.length c4) (by rfl) rfl (by clear HI ha; go_simp) (hK.out _ _ ⟨upk ha 1 hb rfl rfl, HI⟩)) ?_
          refine steps_cons (by rintro b a w' ⟨ha, HI⟩ hb hon hoff; refine ⟨_, rfl, fun K hK => ?_⟩; have e104 := pon ha 1 (hon 1 rfl) rfl rfl rfl; exact value_ (v := .int .i64 ms.length) (by rfl) rfl (by clear HI ha; go_simp) (hK.out _ _ ⟨upk ha 2 hb rfl rfl, HI⟩)) ?_
          refine steps_cons (by rintro b a w' ⟨ha, HI⟩ hb hon hoff; refine ⟨_, rfl, fun K hK => ?_⟩; have e103 := pon ha 0 (hon 0 rfl) rfl rfl rfl; have e105 := pon ha 2 (hon 2 rfl) rfl rfl rfl; exact value_ (v := .bool true) (by rfl) rfl (by clear HI ha; go_simp) (hK.out _ _ ⟨upk ha 3 hb rfl rfl, HI⟩)) ?_
          refine steps_cons (by rintro b a w' ⟨ha, HI⟩ hb hon hoff; refine ⟨_, rfl, fun K hK => ?_⟩; have e106 := pon ha 3 (hon 3 rfl) rfl rfl rfl; exact value_ (v := .bool true) (by rfl) rfl (by clear HI ha; go_simp) (hK.out _ _ ⟨upk ha 4 hb rfl rfl, HI⟩)) ?_
          refine steps_cons (by rintro b a w' ⟨ha, HI⟩ hb hon hoff; refine ⟨_, rfl, fun K hK => ?_⟩; have e4 := poff ha (t := 4) rfl rfl; have e107 := pon ha 4 (hon 4 rfl) rfl rfl rfl; exact value_ (v := .slice (some ⟨g6, off6, none⟩) ms.length c4) (wanted_on (t := 107) (u := true) rfl rfl rfl e107) rfl (by clear HI ha; go_simp) (hK.out _ _ ⟨upk ha 5 hb rfl rfl, HI⟩)) ?_
          refine steps_cons (by rintro b a w' ⟨ha, HI⟩ hb hon hoff; refine ⟨_, rfl, fun K hK => ?_⟩; have e9 := poff ha (t := 9) rfl rfl; have e107 := pon ha 4 (hon 4 rfl) rfl rfl rfl; exact value_ (v := .int .i64 n) (wanted_on (t := 107) (u := true) rfl rfl rfl e107) rfl (by clear HI ha; go_simp) (hK.out _ _ ⟨upk ha 6 hb rfl rfl, HI⟩)) ?_
          refine steps_cons (by rintro b a w' ⟨ha, HI⟩ hb hon hoff; refine ⟨_, rfl, fun K hK => ?_⟩; have e108 := pon ha 5 (hon 5 rfl) rfl rfl rfl; have e109 := pon ha 6 (hon 6 rfl) rfl rfl rfl; have e107 := pon ha 4 (hon 4 rfl) rfl rfl rfl; exact value_ (v := .pointer (some ⟨g6, off6 + n * 3, none⟩)) (wanted_on (t := 107) (u := true) rfl rfl rfl e107) rfl (by clear HI ha; go_simp) (hK.out _ _ ⟨upk ha 7 hb rfl rfl, HI⟩)) ?_
          refine steps_cons (by rintro b a w' ⟨ha, HI⟩ hb hon hoff; refine ⟨_, rfl, fun K hK => ?_⟩; have e110 := pon ha 7 (hon 7 rfl) rfl rfl rfl; have e107 := pon ha 4 (hon 4 rfl) rfl rfl rfl; exact value_ (v := .pointer (some ⟨g6, off6 + n * 3 + 1, none⟩)) (wanted_on (t := 107) (u := true) rfl rfl rfl e107) rfl (by clear HI ha; go_simp) (hK.out _ _ ⟨upk ha 8 hb rfl rfl, HI⟩)) ?_
          refine steps_cons (by rintro b a w' ⟨ha, HI⟩ hb hon hoff; refine ⟨_, rfl, fun K hK => ?_⟩; have e111 := pon ha 8 (hon 8 rfl) rfl rfl rfl; have e107 := pon ha 4 (hon 4 rfl) rfl rfl rfl; have k0_ := bc HI hgl u1; have kz_ := bz HI hgl; exact value_ (v := .int .i64 x.2.1) (wanted_on (t := 107) (u := true) rfl rfl rfl e107) rfl (by clear HI ha; go_simp) (hK.out _ _ ⟨upk ha 9 hb rfl rfl, HI⟩)) ?_
          refine steps_cons (by rintro b a w' ⟨ha, HI⟩ hb hon hoff; refine ⟨_, rfl, fun K hK => ?_⟩; have e6 := poff ha (t := 6) rfl rfl; have e107 := pon ha 4 (hon 4 rfl) rfl rfl rfl; exact value_ (v := .pointer (some ⟨p, 1, none⟩)) (wanted_on (t := 107) (u := true) rfl rfl rfl e107) rfl (by clear HI ha; go_simp) (hK.out _ _ ⟨upk ha 10 hb rfl rfl, HI⟩)) ?_
          refine steps_cons (by rintro b a w' ⟨ha, HI⟩ hb hon hoff; refine ⟨_, rfl, fun K hK => ?_⟩; have e113 := pon ha 10 (hon 10 rfl) rfl rfl rfl; have e107 := pon ha 4 (hon 4 rfl) rfl rfl rfl; have k0_ := bc HI hpl b1; have kz_ := bz HI hpl; exact value_ (v := .int .i64 dt) (wanted_on (t := 107) (u := true) rfl rfl rfl e107) rfl (by clear HI ha; go_simp) (hK.out _ _ ⟨upk ha 11 hb rfl rfl, HI⟩)) ?_
          refine steps_cons (by rintro b a w' ⟨ha, HI⟩ hb hon hoff; refine ⟨_, rfl, fun K hK => ?_⟩; have e112 := pon ha 9 (hon 9 rfl) rfl rfl rfl; have e114 := pon ha 11 (hon 11 rfl) rfl rfl rfl; have e107 := pon ha 4 (hon 4 rfl) rfl rfl rfl; exact value_ (v := .bool true) (wanted_on (t := 107) (u := true) rfl rfl rfl e107) rfl (by clear HI ha; go_simp; exact HLE.out) (hK.out _ _ ⟨upk ha 12 hb rfl rfl, HI⟩)) ?_
          refine steps_cons (by rintro b a w' ⟨ha, HI⟩ hb hon hoff; refine ⟨_, rfl, fun K hK => ?_⟩; have e107 := pon ha 4 (hon 4 rfl) rfl rfl rfl; have e115 := pon ha 12 (hon 12 rfl) rfl rfl rfl; exact value_ (v := .bool true) (by rfl) rfl (by clear HI ha; go_simp) (hK.out _ _ ⟨upk ha 13 hb rfl rfl, HI⟩)) ?_
          exact steps_nil
        · rintro b a w' hall ⟨ha, HI⟩
          have hb0_ := hall 0 rfl; have hb1_ := hall 1 rfl; have hb2_ := hall 2 rfl; have hb3_ := hall 3 rfl; have hb4_ := hall 4 rfl; have hb5_ := hall 5 rfl; have hb6_ := hall 6 rfl; have hb7_ := hall 7 rfl
          have hb8_ := hall 8 rfl; have hb9_ := hall 9 rfl; have hb10_ := hall 10 rfl; have hb11_ := hall 11 rfl; have hb12_ := hall 12 rfl; have hb13_ := hall 13 rfl
          subst ha
          simp only [putSel, hb0_, hb1_, hb2_, hb3_, hb4_, hb5_, hb6_, hb7_, hb8_, hb9_, hb10_, hb11_, hb12_, hb13_, if_true, Act.put, List.setIfInBounds_toArray, List.set_cons_zero, List.set_cons_succ]
          have hB := (below_then (below_drew (Below.refl _ wz)) (Nat.le_refl _) HI : Below wz.heap.size wz w')
          clear hall HI hb0_ hb1_ hb2_ hb3_ hb4_ hb5_ hb6_ hb7_ hb8_ hb9_ hb10_ hb11_ hb12_ hb13_
          refine ‹∀ (a' : Act) (w' : World), Met _ a' w' → _› _ _ ?_
          go_meet
          case rel => exact ⟨rfl, ⟨hB⟩⟩
      case rest =>
      obtain ⟨rfl, HC⟩ := hcut
      have HW2 := Side.mk (HW.out.trans (HC.out.mono HW.out.size))
      clear HW HC u1 b1 hpl hgl HLE
      go_step
      go_wp2
      go_roundw
      case rel => exact ⟨n + 1, by simp, by omega, HW2⟩
      case measure => simp [intOf]; omega
    · obtain rfl : n = k := by omega
      have HT : Side ((n : Int) < ms.length → ∃ g6 off6 y, a4 = some ⟨g6, off6, none⟩ ∧ g6 < wz.heap.size ∧ wz.cell? ⟨g6, off6 + n * 3 + 1, none⟩ = some (.int .i64 y) ∧ ¬ y ≤ dt) := ⟨fun h => by
        obtain ⟨x, hx⟩ : ∃ x, ms[n]? = some x := ⟨_, List.getElem?_eq_getElem (by omega)⟩
        obtain ⟨g6, off6, h1, h2, -, h3, -⟩ := MR.get (HR.out.below HW.out) hx
        exact ⟨g6, off6, x.2.1, h1, h2, h3, due_last hx HK.out.symm⟩⟩
      have b1 : wz.cell? ⟨p, 1, none⟩ = some (.int .i64 dt) := cell_of_row wz p 1 _ _ (0, 0) (At1.below HB5.out HW.out)
      have hpl := Nat.lt_of_lt_of_le HB5.out.lt HW.out.size
      clear hnk
      go_upto_region 26 with (fail)
      go_cut [116] (fun v we => v = .bool false ∧ Side (Below wz.heap.size wz we))
      case first =>
        by_cases hnl : (n : Int) < ms.length
        · obtain ⟨g6, off6, y, rfl, hgl, u1, hy⟩ := HT.out hnl
          have HLE := Side.mk hy
          clear HT hy
          refine start_ (n := 14) (S := fun w' => True) (ds := []) #[false, false, false, false, false, false, false, false, false, false, false, false, false, false] (by kernel_rfl) rfl rfl trivial (fun _ => ?_)
          refine inv_at (B := [0, 0, 2, 7, 15, 31, 31, 127, 255, 511, 31, 1055, 4095, 8191]) [0, 1, 2, 3, 4, 5, 6, 7, 8, 9, 10, 11, 12, 13] (fun a0_ b a w' => a = putSel a0_ b [(0, 103, .int .i64 n), (1, 104, .slice (some ⟨g6, off6, none⟩) ms.length c4), (2, 105, .int .i64 ms.length), (3, 106, .bool true), (4, 107, .bool true), (5, 108, .slice (some ⟨g6, off6, none⟩) ms.length c4), (6, 109, .int .i64 n), (7, 110, .pointer (some ⟨g6, off6 + n * 3, none⟩)), (8, 111, .pointer (some ⟨g6, off6 + n * 3 + 1, none⟩)), (9, 112, .int .i64 y), (10, 113, .pointer (some ⟨p, 1, none⟩)), (11, 114, .int .i64 dt), (12, 115, .bool false), (13, 116, .bool false)] ∧ Below wz.drew.heap.size wz.drew w') rfl (by kernel_rfl) (by kernel_rfl) (by kernel_rfl) ?_ ?_ ?_
          · exact ⟨by simp only [putSel, Bool.false_eq_true, if_false], Below.refl _ _⟩
          · refine steps_cons (by rintro b a w' ⟨ha, HI⟩ hb hon hoff; refine ⟨_, rfl, fun K hK => ?_⟩; have e9 := poff ha (t := 9) rfl rfl; exact value_ (v := .int .i64 n) (by rfl) rfl (by clear HI ha; go_simp) (hK.out _ _ ⟨upk ha 0 hb rfl rfl, HI⟩)) ?_
            refine steps_cons (by rintro b a w' ⟨ha, HI⟩ hb hon hoff; refine ⟨_, rfl, fun K hK => ?_⟩; have e4 := poff ha (t := 4) rfl rfl; exact value_ (v := .slice (some ⟨g6, off6, none⟩) ms.length c4) (by rfl) rfl (by clear HI ha; go_simp) (hK.out _ _ ⟨upk ha 1 hb rfl rfl, HI⟩)) ?_
            refine steps_cons (by rintro b a w' ⟨ha, HI⟩ hb hon hoff; refine ⟨_, rfl, fun K hK => ?_⟩; have e104 := pon ha 1 (hon 1 rfl) rfl rfl rfl; exact value_ (v := .int .i64 ms.length) (by rfl) rfl (by clear HI ha; go_simp) (hK.out _ _ ⟨upk ha 2 hb rfl rfl, HI⟩)) ?_
            refine steps_cons (by rintro b a w' ⟨ha, HI⟩ hb hon hoff; refine ⟨_, rfl, fun K hK => ?_⟩; have e103 := pon ha 0 (hon 0 rfl) rfl rfl rfl; have e105 := pon ha 2 (hon 2 rfl) rfl rfl rfl; exact value_ (v := .bool true) (by rfl) rfl (by clear HI ha; go_simp) (hK.out _ _ ⟨upk ha 3 hb rfl rfl, HI⟩)) ?_
            refine steps_cons (by rintro b a w' ⟨ha, HI⟩ hb hon hoff; refine ⟨_, rfl, fun K hK => ?_⟩; have e106 := pon ha 3 (hon 3 rfl) rfl rfl rfl; exact value_ (v := .bool true) (by rfl) rfl (by clear HI ha; go_simp) (hK.out _ _ ⟨upk ha 4 hb rfl rfl, HI⟩)) ?_
            refine steps_cons (by rintro b a w' ⟨ha, HI⟩ hb hon hoff; refine ⟨_, rfl, fun K hK => ?_⟩; have e4 := poff ha (t := 4) rfl rfl; have e107 := pon ha 4 (hon 4 rfl) rfl rfl rfl; exact value_ (v := .slice (some ⟨g6, off6, none⟩) ms.length c4) (wanted_on (t := 107) (u := true) rfl rfl rfl e107) rfl (by clear HI ha; go_simp) (hK.out _ _ ⟨upk ha 5 hb rfl rfl, HI⟩)) ?_
            refine steps_cons (by rintro b a w' ⟨ha, HI⟩ hb hon hoff; refine ⟨_, rfl, fun K hK => ?_⟩; have e9 := poff ha (t := 9) rfl rfl; have e107 := pon ha 4 (hon 4 rfl) rfl rfl rfl; exact value_ (v := .int .i64 n) (wanted_on (t := 107) (u := true) rfl rfl rfl e107) rfl (by clear HI ha; go_simp) (hK.out _ _ ⟨upk ha 6 hb rfl rfl, HI⟩)) ?_
            refine steps_cons (by rintro b a w' ⟨ha, HI⟩ hb hon hoff; refine ⟨_, rfl, fun K hK => ?_⟩; have e108 := pon ha 5 (hon 5 rfl) rfl rfl rfl; have e109 := pon ha 6 (hon 6 rfl) rfl rfl rfl; have e107 := pon ha 4 (hon 4 rfl) rfl rfl rfl; exact value_ (v := .pointer (some ⟨g6, off6 + n * 3, none⟩)) (wanted_on (t := 107) (u := true) rfl rfl rfl e107) rfl (by clear HI ha; go_simp) (hK.out _ _ ⟨upk ha 7 hb rfl rfl, HI⟩)) ?_
            refine steps_cons (by rintro b a w' ⟨ha, HI⟩ hb hon hoff; refine ⟨_, rfl, fun K hK => ?_⟩; have e110 := pon ha 7 (hon 7 rfl) rfl rfl rfl; have e107 := pon ha 4 (hon 4 rfl) rfl rfl rfl; exact value_ (v := .pointer (some ⟨g6, off6 + n * 3 + 1, none⟩)) (wanted_on (t := 107) (u := true) rfl rfl rfl e107) rfl (by clear HI ha; go_simp) (hK.out _ _ ⟨upk ha 8 hb rfl rfl, HI⟩)) ?_
            refine steps_cons (by rintro b a w' ⟨ha, HI⟩ hb hon hoff; refine ⟨_, rfl, fun K hK => ?_⟩; have e111 := pon ha 8 (hon 8 rfl) rfl rfl rfl; have e107 := pon ha 4 (hon 4 rfl) rfl rfl rfl; have k0_ := bc HI hgl u1; have kz_ := bz HI hgl; exact value_ (v := .int .i64 y) (wanted_on (t := 107) (u := true) rfl rfl rfl e107) rfl (by clear HI ha; go_simp) (hK.out _ _ ⟨upk ha 9 hb rfl rfl, HI⟩)) ?_
            refine steps_cons (by rintro b a w' ⟨ha, HI⟩ hb hon hoff; refine ⟨_, rfl, fun K hK => ?_⟩; have e6 := poff ha (t := 6) rfl rfl; have e107 := pon ha 4 (hon 4 rfl) rfl rfl rfl; exact value_ (v := .pointer (some ⟨p, 1, none⟩)) (wanted_on (t := 107) (u := true) rfl rfl rfl e107) rfl (by clear HI ha; go_simp) (hK.out _ _ ⟨upk ha 10 hb rfl rfl, HI⟩)) ?_
            refine steps_cons (by rintro b a w' ⟨ha, HI⟩ hb hon hoff; refine ⟨_, rfl, fun K hK => ?_⟩; have e113 := pon ha 10 (hon 10 rfl) rfl rfl rfl; have e107 := pon ha 4 (hon 4 rfl) rfl rfl rfl; have k0_ := bc HI hpl b1; have kz_ := bz HI hpl; exact value_ (v := .int .i64 dt) (wanted_on (t := 107) (u := true) rfl rfl rfl e107) rfl (by clear HI ha; go_simp) (hK.out _ _ ⟨upk ha 11 hb rfl rfl, HI⟩)) ?_
            refine steps_cons (by rintro b a w' ⟨ha, HI⟩ hb hon hoff; refine ⟨_, rfl, fun K hK => ?_⟩; have e112 := pon ha 9 (hon 9 rfl) rfl rfl rfl; have e114 := pon ha 11 (hon 11 rfl) rfl rfl rfl; have e107 := pon ha 4 (hon 4 rfl) rfl rfl rfl; exact value_ (v := .bool false) (wanted_on (t := 107) (u := true) rfl rfl rfl e107) rfl (by clear HI ha; have h__ := HLE.out; go_simp) (hK.out _ _ ⟨upk ha 12 hb rfl rfl, HI⟩)) ?_
            refine steps_cons (by rintro b a w' ⟨ha, HI⟩ hb hon hoff; refine ⟨_, rfl, fun K hK => ?_⟩; have e107 := pon ha 4 (hon 4 rfl) rfl rfl rfl; have e115 := pon ha 12 (hon 12 rfl) rfl rfl rfl; exact value_ (v := .bool false) (by rfl) rfl (by clear HI ha; go_simp) (hK.out _ _ ⟨upk ha 13 hb rfl rfl, HI⟩)) ?_
            exact steps_nil
          · rintro b a w' hall ⟨ha, HI⟩
            have hb0_ := hall 0 rfl; have hb1_ := hall 1 rfl; have hb2_ := hall 2 rfl; have hb3_ := hall 3 rfl; have hb4_ := hall 4 rfl; have hb5_ := hall 5 rfl; have hb6_ := hall 6 rfl; have hb7_ := hall 7 rfl
            have hb8_ := hall 8 rfl; have hb9_ := hall 9 rfl; have hb10_ := hall 10 rfl; have hb11_ := hall 11 rfl; have hb12_ := hall 12 rfl; have hb13_ := hall 13 rfl
            subst ha
            simp only [putSel, hb0_, hb1_, hb2_, hb3_, hb4_, hb5_, hb6_, hb7_, hb8_, hb9_, hb10_, hb11_, hb12_, hb13_, if_true, Act.put, List.setIfInBounds_toArray, List.set_cons_zero, List.set_cons_succ]
            have hB := (below_then (below_drew (Below.refl _ wz)) (Nat.le_refl _) HI : Below wz.heap.size wz w')
            clear hall HI hb0_ hb1_ hb2_ hb3_ hb4_ hb5_ hb6_ hb7_ hb8_ hb9_ hb10_ hb11_ hb12_ hb13_
            refine ‹∀ (a' : Act) (w' : World), Met _ a' w' → _› _ _ ?_
            go_meet
            case rel => exact ⟨rfl, ⟨hB⟩⟩
        · clear HT
          refine start_ (n := 14) (S := fun w' => True) (ds := []) #[false, false, false, false, false, false, false, false, false, false, false, false, false, false] (by kernel_rfl) rfl rfl trivial (fun _ => ?_)
          refine inv_at (B := [0, 0, 2, 7, 15, 31, 31, 127, 255, 511, 31, 1055, 4095, 8191]) [0, 1, 2, 3, 4, 5, 6, 7, 8, 9, 10, 11, 12, 13] (fun a0_ b a w' => a = putSel a0_ b [(0, 103, .int .i64 n), (1, 104, .slice a4 ms.length c4), (2, 105, .int .i64 ms.length), (3, 106, .bool false), (4, 107, .bool false), (5, 108, undef), (6, 109, undef), (7, 110, undef), (8, 111, undef), (9, 112, undef), (10, 113, undef), (11, 114, undef), (12, 115, undef), (13, 116, .bool false)] ∧ Below wz.drew.heap.size wz.drew w') rfl (by kernel_rfl) (by kernel_rfl) (by kernel_rfl) ?_ ?_ ?_
          · exact ⟨by simp only [putSel, Bool.false_eq_true, if_false], Below.refl _ _⟩
          · refine steps_cons (by rintro b a w' ⟨ha, HI⟩ hb hon hoff; refine ⟨_, rfl, fun K hK => ?_⟩; have e9 := poff ha (t := 9) rfl rfl; exact value_ (v := .int .i64 n) (by rfl) rfl (by clear HI ha; go_simp) (hK.out _ _ ⟨upk ha 0 hb rfl rfl, HI⟩)) ?_
            refine steps_cons (by rintro b a w' ⟨ha, HI⟩ hb hon hoff; refine ⟨_, rfl, fun K hK => ?_⟩; have e4 := poff ha (t := 4) rfl rfl; exact value_ (v := .slice a4 ms.length c4) (by rfl) rfl (by clear HI ha; go_simp) (hK.out _ _ ⟨upk ha 1 hb rfl rfl, HI⟩)) ?_
            refine steps_cons (by rintro b a w' ⟨ha, HI⟩ hb hon hoff; refine ⟨_, rfl, fun K hK => ?_⟩; have e104 := pon ha 1 (hon 1 rfl) rfl rfl rfl; exact value_ (v := .int .i64 ms.length) (by rfl) rfl (by clear HI ha; go_simp) (hK.out _ _ ⟨upk ha 2 hb rfl rfl, HI⟩)) ?_
            refine steps_cons (by rintro b a w' ⟨ha, HI⟩ hb hon hoff; refine ⟨_, rfl, fun K hK => ?_⟩; have e103 := pon ha 0 (hon 0 rfl) rfl rfl rfl; have e105 := pon ha 2 (hon 2 rfl) rfl rfl rfl; exact value_ (v := .bool false) (by rfl) rfl (by clear HI ha; go_simp) (hK.out _ _ ⟨upk ha 3 hb rfl rfl, HI⟩)) ?_
            refine steps_cons (by rintro b a w' ⟨ha, HI⟩ hb hon hoff; refine ⟨_, rfl, fun K hK => ?_⟩; have e106 := pon ha 3 (hon 3 rfl) rfl rfl rfl; exact value_ (v := .bool false) (by rfl) rfl (by clear HI ha; go_simp) (hK.out _ _ ⟨upk ha 4 hb rfl rfl, HI⟩)) ?_
            refine steps_cons (by rintro b a w' ⟨ha, HI⟩ hb hon hoff; refine ⟨_, rfl, fun K hK => ?_⟩; have e4 := poff ha (t := 4) rfl rfl; have e107 := pon ha 4 (hon 4 rfl) rfl rfl rfl; exact off_ (wanted_off (t := 107) (u := true) rfl rfl rfl e107) (hK.out _ _ ⟨upk ha 5 hb rfl rfl, HI⟩)) ?_
            refine steps_cons (by rintro b a w' ⟨ha, HI⟩ hb hon hoff; refine ⟨_, rfl, fun K hK => ?_⟩; have e9 := poff ha (t := 9) rfl rfl; have e107 := pon ha 4 (hon 4 rfl) rfl rfl rfl; exact off_ (wanted_off (t := 107) (u := true) rfl rfl rfl e107) (hK.out _ _ ⟨upk ha 6 hb rfl rfl, HI⟩)) ?_
            refine steps_cons (by rintro b a w' ⟨ha, HI⟩ hb hon hoff; refine ⟨_, rfl, fun K hK => ?_⟩; have e108 := pon ha 5 (hon 5 rfl) rfl rfl rfl; have e109 := pon ha 6 (hon 6 rfl) rfl rfl rfl; have e107 := pon ha 4 (hon 4 rfl) rfl rfl rfl; exact off_ (wanted_off (t := 107) (u := true) rfl rfl rfl e107) (hK.out _ _ ⟨upk ha 7 hb rfl rfl, HI⟩)) ?_
            refine steps_cons (by rintro b a w' ⟨ha, HI⟩ hb hon hoff; refine ⟨_, rfl, fun K hK => ?_⟩; have e110 := pon ha 7 (hon 7 rfl) rfl rfl rfl; have e107 := pon ha 4 (hon 4 rfl) rfl rfl rfl; exact off_ (wanted_off (t := 107) (u := true) rfl rfl rfl e107) (hK.out _ _ ⟨upk ha 8 hb rfl rfl, HI⟩)) ?_
            refine steps_cons (by rintro b a w' ⟨ha, HI⟩ hb hon hoff; refine ⟨_, rfl, fun K hK => ?_⟩; have e111 := pon ha 8 (hon 8 rfl) rfl rfl rfl; have e107 := pon ha 4 (hon 4 rfl) rfl rfl rfl; exact off_ (wanted_off (t := 107) (u := true) rfl rfl rfl e107) (hK.out _ _ ⟨upk ha 9 hb rfl rfl, HI⟩)) ?_
            refine steps_cons (by rintro b a w' ⟨ha, HI⟩ hb hon hoff; refine ⟨_, rfl, fun K hK => ?_⟩; have e6 := poff ha (t := 6) rfl rfl; have e107 := pon ha 4 (hon 4 rfl) rfl rfl rfl; exact off_ (wanted_off (t := 107) (u := true) rfl rfl rfl e107) (hK.out _ _ ⟨upk ha 10 hb rfl rfl, HI⟩)) ?_
            refine steps_cons (by rintro b a w' ⟨ha, HI⟩ hb hon hoff; refine ⟨_, rfl, fun K hK => ?_⟩; have e113 := pon ha 10 (hon 10 rfl) rfl rfl rfl; have e107 := pon ha 4 (hon 4 rfl) rfl rfl rfl; exact off_ (wanted_off (t := 107) (u := true) rfl rfl rfl e107) (hK.out _ _ ⟨upk ha 11 hb rfl rfl, HI⟩)) ?_
            refine steps_cons (by rintro b a w' ⟨ha, HI⟩ hb hon hoff; refine ⟨_, rfl, fun K hK => ?_⟩; have e112 := pon ha 9 (hon 9 rfl) rfl rfl rfl; have e114 := pon ha 11 (hon 11 rfl) rfl rfl rfl; have e107 := pon ha 4 (hon 4 rfl) rfl rfl rfl; exact off_ (wanted_off (t := 107) (u := true) rfl rfl rfl e107) (hK.out _ _ ⟨upk ha 12 hb rfl rfl, HI⟩)) ?_
            refine steps_cons (by rintro b a w' ⟨ha, HI⟩ hb hon hoff; refine ⟨_, rfl, fun K hK => ?_⟩; have e107 := pon ha 4 (hon 4 rfl) rfl rfl rfl; have e115 := pon ha 12 (hon 12 rfl) rfl rfl rfl; exact value_ (v := .bool false) (by rfl) rfl (by clear HI ha; go_simp) (hK.out _ _ ⟨upk ha 13 hb rfl rfl, HI⟩)) ?_
            exact steps_nil
          · rintro b a w' hall ⟨ha, HI⟩
            have hb0_ := hall 0 rfl; have hb1_ := hall 1 rfl; have hb2_ := hall 2 rfl; have hb3_ := hall 3 rfl; have hb4_ := hall 4 rfl; have hb5_ := hall 5 rfl; have hb6_ := hall 6 rfl; have hb7_ := hall 7 rfl
            have hb8_ := hall 8 rfl; have hb9_ := hall 9 rfl; have hb10_ := hall 10 rfl; have hb11_ := hall 11 rfl; have hb12_ := hall 12 rfl; have hb13_ := hall 13 rfl
            subst ha
            simp only [putSel, hb0_, hb1_, hb2_, hb3_, hb4_, hb5_, hb6_, hb7_, hb8_, hb9_, hb10_, hb11_, hb12_, hb13_, if_true, Act.put, List.setIfInBounds_toArray, List.set_cons_zero, List.set_cons_succ]
            have hB := (below_then (below_drew (Below.refl _ wz)) (Nat.le_refl _) HI : Below wz.heap.size wz w')
            clear hall HI hb0_ hb1_ hb2_ hb3_ hb4_ hb5_ hb6_ hb7_ hb8_ hb9_ hb10_ hb11_ hb12_ hb13_
            refine ‹∀ (a' : Act) (w' : World), Met _ a' w' → _› _ _ ?_
            go_meet
            case rel => exact ⟨rfl, ⟨hB⟩⟩
      case rest =>
      obtain ⟨rfl, HC⟩ := hcut
      clear HT b1 hpl
      have hC := HW.out.trans (HC.out.mono HW.out.size)
      have HS1 := Side.mk (HS.out.below' hC)
      have HR1 := Side.mk (HR.out.below hC)
      have HI1 := Side.mk (HI.out.below hC)
      clear HC hC HW HS HR HI HB5 HK
      go_step
      go_wp2_with fail
      go_loopw [10] (fun v10 wr3 => ∃ j : Nat, v10 = .int .i64 (j : Int) ∧ j ≤ n ∧ Side (Below wc.heap.size wc wr3)) (fun v10 _ => (n - intOf v10).toNat)
      case atStart => exact ⟨0, rfl, Nat.zero_le _, ⟨by (repeat (with_reducible first | exact Below.refl _ _ | apply below_drewN | apply below_drew | apply below_alloc))⟩⟩
      case round =>
        obtain ⟨j, rfl, hj, HW⟩ := hrel
        obtain ⟨wy, hwy⟩ : ∃ wy : World, wy = wr := ⟨_, rfl⟩
        rw [← hwy] at HW ⊢
        clear hwy
        have hj0 : (0 : Int) ≤ j := by omega
        have hj1 : (j : Int) + 1 ≤ 9223372036854775807 := by omega
        by_cases hjn : j < n
        · have hjni : (j : Int) < n := by omega
          obtain ⟨x, hx⟩ : ∃ x, ms[j]? = some x := ⟨_, List.getElem?_eq_getElem (by omega)⟩
          obtain ⟨g6, off6, rfl, hgl, -, -, u1⟩ := MR.get (HR1.out.below HW.out) hx
          obtain ⟨gx, rfl, hxl, x1⟩ := CbG.IRow.get (IRow.below HI1.out HW.out) (ids_at ms n j x hjn hx)
          have hjl : (j : Int) < ms.length := by omega
          clear hx hjn
          go_upto_region 33 with (fail)
          go_cut [137] (fun v we => v = .bool false ∧ Side (Below wy.heap.size wy we))
          case first =>
            refine start_ (n := 10) (S := fun w' => True) (ds := []) #[false, false, false, false, false, false, false, false, false, false] (by kernel_rfl) rfl rfl trivial (fun _ => ?_)
            refine inv_at (B := [0, 0, 3, 7, 0, 0, 48, 112, 240, 511]) [0, 1, 2, 3, 4, 5, 6, 7, 8, 9] (fun a0_ b a w' => a = putSel a0_ b [(0, 128, .slice (some ⟨gx, 0, none⟩) n cx), (1, 129, .int .i64 j), (2, 130, .pointer (some ⟨gx, j, none⟩)), (3, 131, .int .i64 x.2.2), (4, 132, .slice (some ⟨g6, off6, none⟩) ms.length c4), (5, 133, .int .i64 j), (6, 134, .pointer (some ⟨g6, off6 + j * 3, none⟩)), (7, 135, .pointer (some ⟨g6, off6 + j * 3 + 2, none⟩)), (8, 136, .int .i64 x.2.2), (9, 137, .bool false)] ∧ Below wy.drew.heap.size wy.drew w') rfl (by kernel_rfl) (by kernel_rfl) (by kernel_rfl) ?_ ?_ ?_
            · exact ⟨by simp only [putSel, Bool.false_eq_true, if_false], Below.refl _ _⟩
            · refine steps_cons (by rintro b a w' ⟨ha, HI⟩ hb hon hoff; refine ⟨_, rfl, fun K hK => ?_⟩; have e8 := poff ha (t := 8) rfl rfl; exact value_ (v := .slice (some ⟨gx, 0, none⟩) n cx) (by rfl) rfl (by clear HI ha; go_simp) (hK.out _ _ ⟨upk ha 0 hb rfl rfl, HI⟩)) ?_
              refine steps_cons (by rintro b a w' ⟨ha, HI⟩ hb hon hoff; refine ⟨_, rfl, fun K hK => ?_⟩; have e10 := poff ha (t := 10) rfl rfl; exact value_ (v := .int .i64 j) (by rfl) rfl (by clear HI ha; go_simp) (hK.out _ _ ⟨upk ha 1 hb rfl rfl, HI⟩)) ?_
              refine steps_cons (by rintro b a w' ⟨ha, HI⟩ hb hon hoff; refine ⟨_, rfl, fun K hK => ?_⟩; have e128 := pon ha 0 (hon 0 rfl) rfl rfl rfl; have e129 := pon ha 1 (hon 1 rfl) rfl rfl rfl; exact value_ (v := .pointer (some ⟨gx, j, none⟩)) (by rfl) rfl (by clear HI ha; go_simp) (hK.out _ _ ⟨upk ha 2 hb rfl rfl, HI⟩)) ?_
              refine steps_cons (by rintro b a w' ⟨ha, HI⟩ hb hon hoff; refine ⟨_, rfl, fun K hK => ?_⟩; have e130 := pon ha 2 (hon 2 rfl) rfl rfl rfl; have k0_ := bc HI hxl x1; have kz_ := bz HI hxl; exact value_ (v := .int .i64 x.2.2) (by rfl) rfl (by clear HI ha; go_simp) (hK.out _ _ ⟨upk ha 3 hb rfl rfl, HI⟩)) ?_
              refine steps_cons (by rintro b a w' ⟨ha, HI⟩ hb hon hoff; refine ⟨_, rfl, fun K hK => ?_⟩; have e4 := poff ha (t := 4) rfl rfl; exact value_ (v := .slice (some ⟨g6, off6, none⟩) ms.length c4) (by rfl) rfl (by clear HI ha; go_simp) (hK.out _ _ ⟨upk ha 4 hb rfl rfl, HI⟩)) ?_
              refine steps_cons (by rintro b a w' ⟨ha, HI⟩ hb hon hoff; refine ⟨_, rfl, fun K hK => ?_⟩; have e10 := poff ha (t := 10) rfl rfl; exact value_ (v := .int .i64 j) (by rfl) rfl (by clear HI ha; go_simp) (hK.out _ _ ⟨upk ha 5 hb rfl rfl, HI⟩)) ?_
              refine steps_cons (by rintro b a w' ⟨ha, HI⟩ hb hon hoff; refine ⟨_, rfl, fun K hK => ?_⟩; have e132 := pon ha 4 (hon 4 rfl) rfl rfl rfl; have e133 := pon ha 5 (hon 5 rfl) rfl rfl rfl; exact value_ (v := .pointer (some ⟨g6, off6 + j * 3, none⟩)) (by rfl) rfl (by clear HI ha; go_simp) (hK.out _ _ ⟨upk ha 6 hb rfl rfl, HI⟩)) ?_
              refine steps_cons (by rintro b a w' ⟨ha, HI⟩ hb hon hoff; refine ⟨_, rfl, fun K hK => ?_⟩; have e134 := pon ha 6 (hon 6 rfl) rfl rfl rfl; exact value_ (v := .pointer (some ⟨g6, off6 + j * 3 + 2, none⟩)) (by rfl) rfl (by clear HI ha; go_simp) (hK.out _ _ ⟨upk ha 7 hb rfl rfl, HI⟩)) ?_
              refine steps_cons (by rintro b a w' ⟨ha, HI⟩ hb hon hoff; refine ⟨_, rfl, fun K hK => ?_⟩; have e135 := pon ha 7 (hon 7 rfl) rfl rfl rfl; have k0_ := bc HI hgl u1; have kz_ := bz HI hgl; exact value_ (v := .int .i64 x.2.2) (by rfl) rfl (by clear HI ha; go_simp) (hK.out _ _ ⟨upk ha 8 hb rfl rfl, HI⟩)) ?_
              refine steps_cons (by rintro b a w' ⟨ha, HI⟩ hb hon hoff; refine ⟨_, rfl, fun K hK => ?_⟩; have e131 := pon ha 3 (hon 3 rfl) rfl rfl rfl; have e136 := pon ha 8 (hon 8 rfl) rfl rfl rfl; exact value_ (v := .bool false) (by rfl) rfl (by clear HI ha; go_simp) (hK.out _ _ ⟨upk ha 9 hb rfl rfl, HI⟩)) ?_
              exact steps_nil
            · rintro b a w' hall ⟨ha, HI⟩
              have hb0_ := hall 0 rfl; have hb1_ := hall 1 rfl; have hb2_ := hall 2 rfl; have hb3_ := hall 3 rfl; have hb4_ := hall 4 rfl; have hb5_ := hall 5 rfl; have hb6_ := hall 6 rfl; have hb7_ := hall 7 rfl
              have hb8_ := hall 8 rfl; have hb9_ := hall 9 rfl
              subst ha
              simp only [putSel, hb0_, hb1_, hb2_, hb3_, hb4_, hb5_, hb6_, hb7_, hb8_, hb9_, if_true, Act.put, List.setIfInBounds_toArray, List.set_cons_zero, List.set_cons_succ]
              have hB := (below_then (below_drew (Below.refl _ wy)) (Nat.le_refl _) HI : Below wy.heap.size wy w')
              clear hall HI hb0_ hb1_ hb2_ hb3_ hb4_ hb5_ hb6_ hb7_ hb8_ hb9_
              refine ‹∀ (a' : Act) (w' : World), Met _ a' w' → _› _ _ ?_
              go_meet
              case rel => exact ⟨rfl, ⟨hB⟩⟩
          case rest =>
          obtain ⟨rfl, HC⟩ := hcut
          have HW2 := Side.mk (HW.out.trans (HC.out.mono HW.out.size))
          clear HW HC u1 x1 hxl hgl
          go_step
          go_wp2
          go_roundw
          case rel => exact ⟨j + 1, by simp, by omega, ⟨HW2.out⟩⟩
          case measure => simp [intOf]; omega
        · obtain rfl : j = n := by omega
          have hjni : ¬ (j : Int) < j := by omega
          have HS2 := Side.mk (HS1.out.below' HW.out)
          have HR2 := Side.mk (HR1.out.below HW.out)
          clear hjn HI1 HS1 HR1 HW
          rcases HR2.out with ⟨h0, h00⟩ | ⟨g6, off6, cp, cur, hv, h1, h2, h3, h4, h5⟩
          · subst h00
            obtain rfl : j = 0 := by have := hkl; simp at this; omega
            simp at h0
            obtain ⟨rfl, rfl⟩ := h0
            have HN : Side (Pl w wy gq (.slice none 0 0) []) := ⟨⟨HS2.out, MR.nil _ _⟩⟩
            clear HS2 HR2
            go_wp2
            go_meet
            case rel => exact ⟨[], by simp, HN⟩
          · simp at hv
            obtain ⟨rfl, rfl⟩ := hv
            have hc9 : (c4 : Int) ≤ 9223372036854775807 := by unfold maxLen at h4; omega
            have hjl : (j : Int) ≤ ms.length := by omega
            have hlc : (ms.length : Int) ≤ c4 := by omega
            have hjc : (j : Int) ≤ c4 := by omega
            have h3' : ms.length ≤ c4 := h3
            have hdl : Side ((ms.drop j).length ≤ i + 1) := ⟨by simp; omega⟩
            clear h1 h2 h4 h5
            by_cases hcap : c4 = j
            · subst hcap
              have hml0 : ms.length = c4 := by omega
              have HN : Side (Pl w wy gq (.slice (some ⟨g6, off6, none⟩) 0 0) (ms.drop c4)) := ⟨⟨by rw [its_drop]; exact HS2.out, by rw [List.drop_eq_nil_of_le (by omega)]; exact MR.none HR2.out⟩⟩
              clear HS2 HR2 hml0
              go_wp2
              go_meet
              case rel => exact ⟨ms.drop c4, hdl.out, HN⟩
            · have HN : Side (Pl w wy gq (.slice (some ⟨g6, off6 + j * 3, none⟩) (ms.length - j) (c4 - j)) (ms.drop j)) := ⟨⟨by rw [its_drop]; exact HS2.out, MR.drop HR2.out j hkl⟩⟩
              clear HS2 HR2
              go_wp2
              go_meet
              case rel => exact ⟨ms.drop j, hdl.out, HN⟩
end Go.Proofs.Ytbppjaglgbhckaa.CbD
