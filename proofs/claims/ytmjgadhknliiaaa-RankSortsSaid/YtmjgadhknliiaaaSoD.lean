/- slices.insertionSortCmpFunc over ranks. No condition. -/
import Derived.Test.YtmjgadhknliiaaaSoC
import Derived.Deep.QuietTactic
import Derived.BigQuiet
set_option linter.unusedVariables false
set_option linter.unusedSimpArgs false
namespace Go.Proofs.Ytmjgadhknliiaaa.SoD
open Go.RowKit Go.Proofs.Ytmjgadhknliiaaa.Kit Go.Proofs.Ytmjgadhknliiaaa.Kit3 Go.Proofs.Ytmjgadhknliiaaa.Kit4 Go.Proofs.Ytmjgadhknliiaaa.Kit5 Go.Proofs.Ytmjgadhknliiaaa.Rank Go.Proofs.Ytmjgadhknliiaaa.SoA SoPlain
open Go.Proofs.YtmjgadhknliiaaaW.PrintLast
/-- What stands between the steps of one that is put in: j: where it is, i: how far the others go. -/
structure Ins (f : Nat → R) (la i j : Nat) : Prop where
  oth : ∀ p q, la ≤ p → p < q → q ≤ i → p ≠ j → q ≠ j → lt (f q) (f p) = false
  up : ∀ q, j < q → q ≤ i → lt (f j) (f q) = true
theorem Ins.start {f : Nat → R} {la i : Nat} (h : Srt lt f la i) : Ins f la i i := ⟨fun p q h1 h2 h3 h4 h5 => h p q h1 h2 (by omega), fun q h1 h2 => by omega⟩
theorem Ins.fin {f : Nat → R} {la i j : Nat} (h : Ins f la i j) (hj : j ≤ i) (hd : la < j → lt (f j) (f (j - 1)) = false) : Srt lt f la (i + 1) := by
  intro p q h1 h2 h3
  by_cases e1 : p = j
  · subst e1
    exact ordR.asy _ _ (h.up q h2 (by omega))
  · by_cases e2 : q = j
    · subst e2
      have hd := hd (by omega)
      by_cases e3 : p = q - 1
      · subst e3; exact hd
      · exact ordR.neg _ _ _ (h.oth p (q - 1) h1 (by omega) (by omega) (by omega) (by omega)) hd
    · exact h.oth p q h1 h2 (by omega) e1 e2
theorem Ins.step {f f' : Nat → R} {la i k : Nat} (h : Ins f la i (k + 1)) (hk : la ≤ k) (hki : k + 1 ≤ i) (hl : lt (f (k + 1)) (f k) = true) (e : ∀ p, f' p = f (if p = k then k + 1 else if p = k + 1 then k else p)) : Ins f' la i k := by
  have e1 : f' k = f (k + 1) := by rw [e, if_pos rfl]
  have e2 : f' (k + 1) = f k := by rw [e, if_neg (by omega), if_pos rfl]
  have e3 : ∀ p, p ≠ k → p ≠ k + 1 → f' p = f p := fun p h1 h2 => by rw [e, if_neg h1, if_neg h2]
  constructor
  · intro p q h1 h2 h3 h4 h5
    by_cases a1 : p = k + 1
    · subst a1
      rw [e2, e3 q (by omega) (by omega)]
      exact h.oth k q hk (by omega) h3 (by omega) (by omega)
    · by_cases a2 : q = k + 1
      · subst a2
        rw [e2, e3 p (by omega) (by omega)]
        exact h.oth p k h1 (by omega) (by omega) (by omega) (by omega)
      · rw [e3 p (by omega) a1, e3 q (by omega) a2]
        exact h.oth p q h1 h2 h3 a1 a2
  · intro q h1 h2
    rw [e1]
    by_cases a1 : q = k + 1
    · subst a1; rw [e2]; exact hl
    · rw [e3 q (by omega) a1]; exact h.up q (by omega) h2
theorem srt_le {f : Nat → R} {a b c : Nat} (h : Srt lt f a b) (hc : c ≤ b) : Srt lt f a c := fun p q h1 h2 h3 => h p q h1 h2 (by omega)
set_option maxHeartbeats 8000000 in
set_option maxRecDepth 100000 in
theorem insertion_at (w : World) (B g n cap : Nat) (xs0 : List R) (h : M w B g n cap xs0) (la lb : Nat) (hab : la ≤ lb) (hb : lb ≤ n) :
    Calls Try.prog 31 #[.slice (some ⟨g, 0, none⟩) n cap, .int .i64 la, .int .i64 lb, .func (.func 20) #[] #[]] w fun r w' => r = .returned (.tuple #[]) ∧ ∃ ys, M w' B g n cap ys ∧ Chg w w' (fun k => k = g) ∧ Stb lt n (at_ xs0) (at_ ys) ∧ Srt lt (at_ ys) la lb ∧ ∀ p, p < la ∨ lb ≤ p → at_ ys p = at_ xs0 p := by
  have HM0 := Side.mk h
  have hn := h.small
  clear h
  go_enter Try.func31, Try.ntmps31
  go_wp2_with fail
  go_loopw [8] (fun v8 wr => ∃ (i : Nat) (xs : List R), v8 = .int .i64 (i : Int) ∧ la < i ∧ i ≤ lb + 1 ∧ Side (M wr B g n cap xs) ∧ Side (Chg w wr (fun k => k = g)) ∧ Side (Stb lt n (at_ xs0) (at_ xs)) ∧ Side (Srt lt (at_ xs) la i) ∧ Side (∀ p, p < la ∨ lb ≤ p → at_ xs p = at_ xs0 p)) (fun v8 _ => (lb - intOf v8).toNat)
  case atStart => exact ⟨la + 1, xs0, by simp, by omega, by omega, HM0, ⟨Chg.refl _ _⟩, ⟨Stb.refl _ _⟩, ⟨fun p q h1 h2 h3 => by omega⟩, ⟨fun _ _ => rfl⟩⟩
  case round =>
    clear HM0
    obtain ⟨i, xs1, rfl, hi, hil, HM1, HC1, HT1, HS1, HO1⟩ := hrel
    obtain ⟨wo, hwo⟩ : ∃ wo : World, wo = wr := ⟨_, rfl⟩
    rw [← hwo] at HM1 HC1 ⊢
    clear hwo
    by_cases hib : i < lb
    · have hibi : (i : Int) < lb := by omega
      have hi1 : (i : Int) + 1 ≤ 9223372036854775807 := by omega
      go_wp2_with fail
      go_loopw [9] (fun v9 wr => ∃ (j : Nat) (xs : List R), v9 = .int .i64 (j : Int) ∧ la ≤ j ∧ j ≤ i ∧ Side (M wr B g n cap xs) ∧ Side (Chg w wr (fun k => k = g)) ∧ Side (Stb lt n (at_ xs0) (at_ xs)) ∧ Side (Ins (at_ xs) la i j) ∧ Side (∀ p, p < la ∨ lb ≤ p → at_ xs p = at_ xs0 p)) (fun v9 _ => (intOf v9).toNat)
      case atStart => exact ⟨i, xs1, rfl, by omega, Nat.le_refl _, ⟨HM1.out.below (by (repeat (with_reducible first | exact Below.refl _ _ | apply below_drewN | apply below_drew | apply below_alloc)))⟩, ⟨HC1.out.trans (Chg.of_below (by (repeat (with_reducible first | exact Below.refl _ _ | apply below_drewN | apply below_drew | apply below_alloc)))) (fun _ _ h => h)⟩, HT1, ⟨Ins.start HS1.out⟩, HO1⟩
      case round =>
        clear HM1 HC1 HT1 HS1 HO1
        obtain ⟨j, xs, rfl, hj, hji, HM, HC, HT, HS, HO⟩ := hrel
        obtain ⟨wz, hwz⟩ : ∃ wz : World, wz = wr := ⟨_, rfl⟩
        rw [← hwz] at HM HC ⊢
        clear hwz
        obtain ⟨tt, htt⟩ : ∃ tt : Bool, tt = (decide (la < j) && lt (at_ xs j) (at_ xs (j - 1))) := ⟨_, rfl⟩
        have HTT := Side.mk htt
        clear htt
        go_upto_region 4 with (fail)
        go_cut [34] (fun v we => v = .bool tt ∧ Side (Below wz.heap.size wz we))
        case first =>
          by_cases hlj : la < j
          · obtain ⟨J, hJ⟩ : ∃ J, J = j - 1 := ⟨_, rfl⟩
            have ht := HTT.out
            rw [decide_eq_true hlj, Bool.true_and, ← hJ] at ht
            have CMP := fun w => Side.mk (compare_at (at_ xs j) (at_ xs J) w)
            obtain ⟨rc, hrc⟩ : ∃ rc, rc = rcmp (at_ xs j) (at_ xs J) := ⟨_, rfl⟩
            have HDC : Side (decide (rc < 0) = tt) := ⟨by rw [ht, hrc]; rfl⟩
            rw [← hrc] at CMP
            obtain ⟨x0, x1, x2, x3⟩ := HM.out.cell (p := j) (by omega)
            obtain ⟨y0, y1, y2, y3⟩ := HM.out.cell (p := J) (by omega)
            have hgl := HM.out.lt
            have hlji : (la : Int) < (j : Int) := by omega
            have hJn : (j : Int) < n := by omega
            have hJn2 : (J : Int) < n := by omega
            have hJ0 : (0 : Int) ≤ J := by omega
            have hJ1 : (0 : Int) ≤ (j : Int) := by omega
            have HWJ : Side (IntKind.i64.wrap ((j : Int) - 1) = (J : Int)) := ⟨by rw [Go.IntWalk.i64_in ((j : Int) - 1) (by omega)]; omega⟩
            clear ht hrc hJ HTT HS HT HO HC HM
            refine start_ (n := 17) (S := fun w' => True) (ds := []) #[false, false, false, false, false, false, false, false, false, false, false, false, false, false, false, false, false] (by kernel_rfl) rfl rfl trivial (fun _ => ?_)
            refine inv_at (B := [0, 0, 3, 7, 15, 15, 15, 111, 239, 15, 15, 1039, 3599, 7695, 16383, 32767, 65535]) [0, 1, 2, 3, 4, 5, 6, 7, 8, 9, 10, 11, 12, 13, 14, 15, 16] (fun a0_ b a w' => a = putSel a0_ b [(0, 18, .int .i64 j), (1, 19, .int .i64 la), (2, 20, .bool true), (3, 21, .bool true), (4, 22, .func (.func 20) #[] #[]), (5, 23, .slice (some ⟨g, 0, none⟩) n cap), (6, 24, .int .i64 j), (7, 25, .pointer (some ⟨g, j * 4, none⟩)), (8, 26, .agg #[.int .i64 (at_ xs j).d, .int .i64 (at_ xs j).b, .int .i64 (at_ xs j).g, .int .i64 (at_ xs j).i]), (9, 27, .slice (some ⟨g, 0, none⟩) n cap), (10, 28, .int .i64 j), (11, 29, .int .i64 J), (12, 30, .pointer (some ⟨g, J * 4, none⟩)), (13, 31, .agg #[.int .i64 (at_ xs J).d, .int .i64 (at_ xs J).b, .int .i64 (at_ xs J).g, .int .i64 (at_ xs J).i]), (14, 32, .int .i64 rc), (15, 33, .bool tt), (16, 34, .bool tt)] ∧ Below wz.drew.heap.size wz.drew w') rfl (by kernel_rfl) (by kernel_rfl) (by kernel_rfl) ?_ ?_ ?_
            · exact ⟨by simp only [putSel, Bool.false_eq_true, if_false], Below.refl _ _⟩
            · refine steps_cons (by rintro b a w' ⟨ha, HI⟩ hb hon hoff; refine ⟨_, rfl, fun K hK => ?_⟩; have e9 := poff ha (t := 9) rfl rfl; exact value_ (v := .int .i64 j) (by rfl) rfl (by clear HI ha; go_simp) (hK.out _ _ ⟨upk ha 0 hb rfl rfl, HI⟩)) ?_
              refine steps_cons (by rintro b a w' ⟨ha, HI⟩ hb hon hoff; refine ⟨_, rfl, fun K hK => ?_⟩; have e1 := poff ha (t := 1) rfl rfl; exact value_ (v := .int .i64 la) (by rfl) rfl (by clear HI ha; go_simp) (hK.out _ _ ⟨upk ha 1 hb rfl rfl, HI⟩)) ?_
              refine steps_cons (by rintro b a w' ⟨ha, HI⟩ hb hon hoff; refine ⟨_, rfl, fun K hK => ?_⟩; have e18 := pon ha 0 (hon 0 rfl) rfl rfl rfl; have e19 := pon ha 1 (hon 1 rfl) rfl rfl rfl; exact value_ (v := .bool true) (by rfl) rfl (by clear HI ha; go_simp) (hK.out _ _ ⟨upk ha 2 hb rfl rfl, HI⟩)) ?_
              refine steps_cons (by rintro b a w' ⟨ha, HI⟩ hb hon hoff; refine ⟨_, rfl, fun K hK => ?_⟩; have e20 := pon ha 2 (hon 2 rfl) rfl rfl rfl; exact value_ (v := .bool true) (by rfl) rfl (by clear HI ha; go_simp) (hK.out _ _ ⟨upk ha 3 hb rfl rfl, HI⟩)) ?_
              refine steps_cons (by rintro b a w' ⟨ha, HI⟩ hb hon hoff; refine ⟨_, rfl, fun K hK => ?_⟩; have e3 := poff ha (t := 3) rfl rfl; have e21 := pon ha 3 (hon 3 rfl) rfl rfl rfl; exact value_ (v := .func (.func 20) #[] #[]) (wanted_on (t := 21) (u := true) rfl rfl rfl e21) rfl (by clear HI ha; go_simp) (hK.out _ _ ⟨upk ha 4 hb rfl rfl, HI⟩)) ?_
              refine steps_cons (by rintro b a w' ⟨ha, HI⟩ hb hon hoff; refine ⟨_, rfl, fun K hK => ?_⟩; have e0 := poff ha (t := 0) rfl rfl; have e21 := pon ha 3 (hon 3 rfl) rfl rfl rfl; exact value_ (v := .slice (some ⟨g, 0, none⟩) n cap) (wanted_on (t := 21) (u := true) rfl rfl rfl e21) rfl (by clear HI ha; go_simp) (hK.out _ _ ⟨upk ha 5 hb rfl rfl, HI⟩)) ?_
              refine steps_cons (by rintro b a w' ⟨ha, HI⟩ hb hon hoff; refine ⟨_, rfl, fun K hK => ?_⟩; have e9 := poff ha (t := 9) rfl rfl; have e21 := pon ha 3 (hon 3 rfl) rfl rfl rfl; exact value_ (v := .int .i64 j) (wanted_on (t := 21) (u := true) rfl rfl rfl e21) rfl (by clear HI ha; go_simp) (hK.out _ _ ⟨upk ha 6 hb rfl rfl, HI⟩)) ?_
              refine steps_cons (by rintro b a w' ⟨ha, HI⟩ hb hon hoff; refine ⟨_, rfl, fun K hK => ?_⟩; have e23 := pon ha 5 (hon 5 rfl) rfl rfl rfl; have e24 := pon ha 6 (hon 6 rfl) rfl rfl rfl; have e21 := pon ha 3 (hon 3 rfl) rfl rfl rfl; exact value_ (v := .pointer (some ⟨g, j * 4, none⟩)) (wanted_on (t := 21) (u := true) rfl rfl rfl e21) rfl (by clear HI ha; go_simp) (hK.out _ _ ⟨upk ha 7 hb rfl rfl, HI⟩)) ?_
              refine steps_cons (by rintro b a w' ⟨ha, HI⟩ hb hon hoff; refine ⟨_, rfl, fun K hK => ?_⟩; have e25 := pon ha 7 (hon 7 rfl) rfl rfl rfl; have e21 := pon ha 3 (hon 3 rfl) rfl rfl rfl; have k0_ := bc HI hgl x0; have k1_ := bc HI hgl x1; have k2_ := bc HI hgl x2; have k3_ := bc HI hgl x3; have kz_ := bz HI hgl; exact value_ (v := .agg #[.int .i64 (at_ xs j).d, .int .i64 (at_ xs j).b, .int .i64 (at_ xs j).g, .int .i64 (at_ xs j).i]) (wanted_on (t := 21) (u := true) rfl rfl rfl e21) rfl (by clear HI ha; go_simp) (hK.out _ _ ⟨upk ha 8 hb rfl rfl, HI⟩)) ?_
              refine steps_cons (by rintro b a w' ⟨ha, HI⟩ hb hon hoff; refine ⟨_, rfl, fun K hK => ?_⟩; have e0 := poff ha (t := 0) rfl rfl; have e21 := pon ha 3 (hon 3 rfl) rfl rfl rfl; exact value_ (v := .slice (some ⟨g, 0, none⟩) n cap) (wanted_on (t := 21) (u := true) rfl rfl rfl e21) rfl (by clear HI ha; go_simp) (hK.out _ _ ⟨upk ha 9 hb rfl rfl, HI⟩)) ?_
              refine steps_cons (by rintro b a w' ⟨ha, HI⟩ hb hon hoff; refine ⟨_, rfl, fun K hK => ?_⟩; have e9 := poff ha (t := 9) rfl rfl; have e21 := pon ha 3 (hon 3 rfl) rfl rfl rfl; exact value_ (v := .int .i64 j) (wanted_on (t := 21) (u := true) rfl rfl rfl e21) rfl (by clear HI ha; go_simp) (hK.out _ _ ⟨upk ha 10 hb rfl rfl, HI⟩)) ?_
              refine steps_cons (by rintro b a w' ⟨ha, HI⟩ hb hon hoff; refine ⟨_, rfl, fun K hK => ?_⟩; have e28 := pon ha 10 (hon 10 rfl) rfl rfl rfl; have e21 := pon ha 3 (hon 3 rfl) rfl rfl rfl; exact value_ (v := .int .i64 J) (wanted_on (t := 21) (u := true) rfl rfl rfl e21) rfl (by clear HI ha; go_simp; exact HWJ.out) (hK.out _ _ ⟨upk ha 11 hb rfl rfl, HI⟩)) ?_
              refine steps_cons (by rintro b a w' ⟨ha, HI⟩ hb hon hoff; refine ⟨_, rfl, fun K hK => ?_⟩; have e27 := pon ha 9 (hon 9 rfl) rfl rfl rfl; have e29 := pon ha 11 (hon 11 rfl) rfl rfl rfl; have e21 := pon ha 3 (hon 3 rfl) rfl rfl rfl; exact value_ (v := .pointer (some ⟨g, J * 4, none⟩)) (wanted_on (t := 21) (u := true) rfl rfl rfl e21) rfl (by clear HI ha; go_simp) (hK.out _ _ ⟨upk ha 12 hb rfl rfl, HI⟩)) ?_
              refine steps_cons (by rintro b a w' ⟨ha, HI⟩ hb hon hoff; refine ⟨_, rfl, fun K hK => ?_⟩; have e30 := pon ha 12 (hon 12 rfl) rfl rfl rfl; have e21 := pon ha 3 (hon 3 rfl) rfl rfl rfl; have k0_ := bc HI hgl y0; have k1_ := bc HI hgl y1; have k2_ := bc HI hgl y2; have k3_ := bc HI hgl y3; have kz_ := bz HI hgl; exact value_ (v := .agg #[.int .i64 (at_ xs J).d, .int .i64 (at_ xs J).b, .int .i64 (at_ xs J).g, .int .i64 (at_ xs J).i]) (wanted_on (t := 21) (u := true) rfl rfl rfl e21) rfl (by clear HI ha; go_simp) (hK.out _ _ ⟨upk ha 13 hb rfl rfl, HI⟩)) ?_
              refine steps_cons (by rintro b a w' ⟨ha, HI⟩ hb hon hoff; refine ⟨_, rfl, fun K hK => ?_⟩; have e22 := pon ha 4 (hon 4 rfl) rfl rfl rfl; have e26 := pon ha 8 (hon 8 rfl) rfl rfl rfl; have e31 := pon ha 13 (hon 13 rfl) rfl rfl rfl; have e21 := pon ha 3 (hon 3 rfl) rfl rfl rfl; refine goes_v Try.func20 (by kernel_rfl) rfl #[.agg #[.int .i64 (at_ xs j).d, .int .i64 (at_ xs j).b, .int .i64 (at_ xs j).g, .int .i64 (at_ xs j).i], .agg #[.int .i64 (at_ xs J).d, .int .i64 (at_ xs J).b, .int .i64 (at_ xs J).g, .int .i64 (at_ xs J).i]] (wanted_on (t := 21) (u := true) rfl rfl rfl e21) rfl (x := .tmp 22) (by simp [Act.eval, e22]) rfl (by simp [Act.eval, e26, e31]) ((CMP w').out.mono ?_); rintro e_ w'' ⟨rfl, hbc⟩; exact ⟨_, rfl, hK.out _ _ ⟨upk ha 14 hb rfl rfl, below_then HI HI.size hbc⟩⟩) ?_
              refine steps_cons (by rintro b a w' ⟨ha, HI⟩ hb hon hoff; refine ⟨_, rfl, fun K hK => ?_⟩; have e32 := pon ha 14 (hon 14 rfl) rfl rfl rfl; have e21 := pon ha 3 (hon 3 rfl) rfl rfl rfl; exact value_ (v := .bool tt) (wanted_on (t := 21) (u := true) rfl rfl rfl e21) rfl (by clear HI ha; go_simp; exact HDC.out) (hK.out _ _ ⟨upk ha 15 hb rfl rfl, HI⟩)) ?_
              refine steps_cons (by rintro b a w' ⟨ha, HI⟩ hb hon hoff; refine ⟨_, rfl, fun K hK => ?_⟩; have e21 := pon ha 3 (hon 3 rfl) rfl rfl rfl; have e33 := pon ha 15 (hon 15 rfl) rfl rfl rfl; exact value_ (v := .bool tt) (by rfl) rfl (by clear HI ha; go_simp) (hK.out _ _ ⟨upk ha 16 hb rfl rfl, HI⟩)) ?_
              exact steps_nil
            · rintro b a w' hall ⟨ha, HI⟩
              have hb0_ := hall 0 rfl; have hb1_ := hall 1 rfl; have hb2_ := hall 2 rfl; have hb3_ := hall 3 rfl; have hb4_ := hall 4 rfl; have hb5_ := hall 5 rfl; have hb6_ := hall 6 rfl; have hb7_ := hall 7 rfl
              have hb8_ := hall 8 rfl; have hb9_ := hall 9 rfl; have hb10_ := hall 10 rfl; have hb11_ := hall 11 rfl; have hb12_ := hall 12 rfl; have hb13_ := hall 13 rfl; have hb14_ := hall 14 rfl; have hb15_ := hall 15 rfl
              have hb16_ := hall 16 rfl
              subst ha
              simp only [putSel, hb0_, hb1_, hb2_, hb3_, hb4_, hb5_, hb6_, hb7_, hb8_, hb9_, hb10_, hb11_, hb12_, hb13_, hb14_, hb15_, hb16_, if_true, Act.put, List.setIfInBounds_toArray, List.set_cons_zero, List.set_cons_succ]
              have hB := (below_then (below_drew (Below.refl _ wz)) (Nat.le_refl _) HI : Below wz.heap.size wz w')
              clear hall HI hb0_ hb1_ hb2_ hb3_ hb4_ hb5_ hb6_ hb7_ hb8_ hb9_ hb10_ hb11_ hb12_ hb13_ hb14_ hb15_ hb16_
              refine ‹∀ (a' : Act) (w' : World), Met _ a' w' → _› _ _ ?_
              go_meet
              case rel => exact ⟨rfl, ⟨hB⟩⟩
          · obtain rfl : tt = false := by rw [HTT.out, decide_eq_false hlj, Bool.false_and]
            have hlji : ¬ (la : Int) < j := by omega
            clear HTT HS HT HO HC HM
            refine start_ (n := 17) (S := fun w' => True) (ds := []) #[false, false, false, false, false, false, false, false, false, false, false, false, false, false, false, false, false] (by kernel_rfl) rfl rfl trivial (fun _ => ?_)
            refine inv_at (B := [0, 0, 3, 7, 15, 15, 15, 111, 239, 15, 15, 1039, 3599, 7695, 16383, 32767, 65535]) [0, 1, 2, 3, 4, 5, 6, 7, 8, 9, 10, 11, 12, 13, 14, 15, 16] (fun a0_ b a w' => a = putSel a0_ b [(0, 18, .int .i64 j), (1, 19, .int .i64 la), (2, 20, .bool false), (3, 21, .bool false), (4, 22, undef), (5, 23, undef), (6, 24, undef), (7, 25, undef), (8, 26, undef), (9, 27, undef), (10, 28, undef), (11, 29, undef), (12, 30, undef), (13, 31, undef), (14, 32, undef), (15, 33, undef), (16, 34, .bool false)] ∧ Below wz.drew.heap.size wz.drew w') rfl (by kernel_rfl) (by kernel_rfl) (by kernel_rfl) ?_ ?_ ?_
            · exact ⟨by simp only [putSel, Bool.false_eq_true, if_false], Below.refl _ _⟩
            · refine steps_cons (by rintro b a w' ⟨ha, HI⟩ hb hon hoff; refine ⟨_, rfl, fun K hK => ?_⟩; have e9 := poff ha (t := 9) rfl rfl; exact value_ (v := .int .i64 j) (by rfl) rfl (by clear HI ha; go_simp) (hK.out _ _ ⟨upk ha 0 hb rfl rfl, HI⟩)) ?_
              refine steps_cons (by rintro b a w' ⟨ha, HI⟩ hb hon hoff; refine ⟨_, rfl, fun K hK => ?_⟩; have e1 := poff ha (t := 1) rfl rfl; exact value_ (v := .int .i64 la) (by rfl) rfl (by clear HI ha; go_simp) (hK.out _ _ ⟨upk ha 1 hb rfl rfl, HI⟩)) ?_
              refine steps_cons (by rintro b a w' ⟨ha, HI⟩ hb hon hoff; refine ⟨_, rfl, fun K hK => ?_⟩; have e18 := pon ha 0 (hon 0 rfl) rfl rfl rfl; have e19 := pon ha 1 (hon 1 rfl) rfl rfl rfl; exact value_ (v := .bool false) (by rfl) rfl (by clear HI ha; go_simp) (hK.out _ _ ⟨upk ha 2 hb rfl rfl, HI⟩)) ?_
              refine steps_cons (by rintro b a w' ⟨ha, HI⟩ hb hon hoff; refine ⟨_, rfl, fun K hK => ?_⟩; have e20 := pon ha 2 (hon 2 rfl) rfl rfl rfl; exact value_ (v := .bool false) (by rfl) rfl (by clear HI ha; go_simp) (hK.out _ _ ⟨upk ha 3 hb rfl rfl, HI⟩)) ?_
              refine steps_cons (by rintro b a w' ⟨ha, HI⟩ hb hon hoff; refine ⟨_, rfl, fun K hK => ?_⟩; have e3 := poff ha (t := 3) rfl rfl; have e21 := pon ha 3 (hon 3 rfl) rfl rfl rfl; exact off_ (wanted_off (t := 21) (u := true) rfl rfl rfl e21) (hK.out _ _ ⟨upk ha 4 hb rfl rfl, HI⟩)) ?_
              refine steps_cons (by rintro b a w' ⟨ha, HI⟩ hb hon hoff; refine ⟨_, rfl, fun K hK => ?_⟩; have e0 := poff ha (t := 0) rfl rfl; have e21 := pon ha 3 (hon 3 rfl) rfl rfl rfl; exact off_ (wanted_off (t := 21) (u := true) rfl rfl rfl e21) (hK.out _ _ ⟨upk ha 5 hb rfl rfl, HI⟩)) ?_
              refine steps_cons (by rintro b a w' ⟨ha, HI⟩ hb hon hoff; refine ⟨_, rfl, fun K hK => ?_⟩; have e9 := poff ha (t := 9) rfl rfl; have e21 := pon ha 3 (hon 3 rfl) rfl rfl rfl; exact off_ (wanted_off (t := 21) (u := true) rfl rfl rfl e21) (hK.out _ _ ⟨upk ha 6 hb rfl rfl, HI⟩)) ?_
              refine steps_cons (by rintro b a w' ⟨ha, HI⟩ hb hon hoff; refine ⟨_, rfl, fun K hK => ?_⟩; have e23 := pon ha 5 (hon 5 rfl) rfl rfl rfl; have e24 := pon ha 6 (hon 6 rfl) rfl rfl rfl; have e21 := pon ha 3 (hon 3 rfl) rfl rfl rfl; exact off_ (wanted_off (t := 21) (u := true) rfl rfl rfl e21) (hK.out _ _ ⟨upk ha 7 hb rfl rfl, HI⟩)) ?_
              refine steps_cons (by rintro b a w' ⟨ha, HI⟩ hb hon hoff; refine ⟨_, rfl, fun K hK => ?_⟩; have e25 := pon ha 7 (hon 7 rfl) rfl rfl rfl; have e21 := pon ha 3 (hon 3 rfl) rfl rfl rfl; exact off_ (wanted_off (t := 21) (u := true) rfl rfl rfl e21) (hK.out _ _ ⟨upk ha 8 hb rfl rfl, HI⟩)) ?_
              refine steps_cons (by rintro b a w' ⟨ha, HI⟩ hb hon hoff; refine ⟨_, rfl, fun K hK => ?_⟩; have e0 := poff ha (t := 0) rfl rfl; have e21 := pon ha 3 (hon 3 rfl) rfl rfl rfl; exact off_ (wanted_off (t := 21) (u := true) rfl rfl rfl e21) (hK.out _ _ ⟨upk ha 9 hb rfl rfl, HI⟩)) ?_
              refine steps_cons (by rintro b a w' ⟨ha, HI⟩ hb hon hoff; refine ⟨_, rfl, fun K hK => ?_⟩; have e9 := poff ha (t := 9) rfl rfl; have e21 := pon ha 3 (hon 3 rfl) rfl rfl rfl; exact off_ (wanted_off (t := 21) (u := true) rfl rfl rfl e21) (hK.out _ _ ⟨upk ha 10 hb rfl rfl, HI⟩)) ?_
              refine steps_cons (by rintro b a w' ⟨ha, HI⟩ hb hon hoff; refine ⟨_, rfl, fun K hK => ?_⟩; have e28 := pon ha 10 (hon 10 rfl) rfl rfl rfl; have e21 := pon ha 3 (hon 3 rfl) rfl rfl rfl; exact off_ (wanted_off (t := 21) (u := true) rfl rfl rfl e21) (hK.out _ _ ⟨upk ha 11 hb rfl rfl, HI⟩)) ?_
              refine steps_cons (by rintro b a w' ⟨ha, HI⟩ hb hon hoff; refine ⟨_, rfl, fun K hK => ?_⟩; have e27 := pon ha 9 (hon 9 rfl) rfl rfl rfl; have e29 := pon ha 11 (hon 11 rfl) rfl rfl rfl; have e21 := pon ha 3 (hon 3 rfl) rfl rfl rfl; exact off_ (wanted_off (t := 21) (u := true) rfl rfl rfl e21) (hK.out _ _ ⟨upk ha 12 hb rfl rfl, HI⟩)) ?_
              refine steps_cons (by rintro b a w' ⟨ha, HI⟩ hb hon hoff; refine ⟨_, rfl, fun K hK => ?_⟩; have e30 := pon ha 12 (hon 12 rfl) rfl rfl rfl; have e21 := pon ha 3 (hon 3 rfl) rfl rfl rfl; exact off_ (wanted_off (t := 21) (u := true) rfl rfl rfl e21) (hK.out _ _ ⟨upk ha 13 hb rfl rfl, HI⟩)) ?_
              refine steps_cons (by rintro b a w' ⟨ha, HI⟩ hb hon hoff; refine ⟨_, rfl, fun K hK => ?_⟩; have e22 := pon ha 4 (hon 4 rfl) rfl rfl rfl; have e26 := pon ha 8 (hon 8 rfl) rfl rfl rfl; have e31 := pon ha 13 (hon 13 rfl) rfl rfl rfl; have e21 := pon ha 3 (hon 3 rfl) rfl rfl rfl; exact off_ (wanted_off (t := 21) (u := true) rfl rfl rfl e21) (hK.out _ _ ⟨upk ha 14 hb rfl rfl, HI⟩)) ?_
              refine steps_cons (by rintro b a w' ⟨ha, HI⟩ hb hon hoff; refine ⟨_, rfl, fun K hK => ?_⟩; have e32 := pon ha 14 (hon 14 rfl) rfl rfl rfl; have e21 := pon ha 3 (hon 3 rfl) rfl rfl rfl; exact off_ (wanted_off (t := 21) (u := true) rfl rfl rfl e21) (hK.out _ _ ⟨upk ha 15 hb rfl rfl, HI⟩)) ?_
              refine steps_cons (by rintro b a w' ⟨ha, HI⟩ hb hon hoff; refine ⟨_, rfl, fun K hK => ?_⟩; have e21 := pon ha 3 (hon 3 rfl) rfl rfl rfl; have e33 := pon ha 15 (hon 15 rfl) rfl rfl rfl; exact value_ (v := .bool false) (by rfl) rfl (by clear HI ha; go_simp) (hK.out _ _ ⟨upk ha 16 hb rfl rfl, HI⟩)) ?_
              exact steps_nil
            · rintro b a w' hall ⟨ha, HI⟩
              have hb0_ := hall 0 rfl; have hb1_ := hall 1 rfl; have hb2_ := hall 2 rfl; have hb3_ := hall 3 rfl; have hb4_ := hall 4 rfl; have hb5_ := hall 5 rfl; have hb6_ := hall 6 rfl; have hb7_ := hall 7 rfl
              have hb8_ := hall 8 rfl; have hb9_ := hall 9 rfl; have hb10_ := hall 10 rfl; have hb11_ := hall 11 rfl; have hb12_ := hall 12 rfl; have hb13_ := hall 13 rfl; have hb14_ := hall 14 rfl; have hb15_ := hall 15 rfl
              have hb16_ := hall 16 rfl
              subst ha
              simp only [putSel, hb0_, hb1_, hb2_, hb3_, hb4_, hb5_, hb6_, hb7_, hb8_, hb9_, hb10_, hb11_, hb12_, hb13_, hb14_, hb15_, hb16_, if_true, Act.put, List.setIfInBounds_toArray, List.set_cons_zero, List.set_cons_succ]
              have hB := (below_then (below_drew (Below.refl _ wz)) (Nat.le_refl _) HI : Below wz.heap.size wz w')
              clear hall HI hb0_ hb1_ hb2_ hb3_ hb4_ hb5_ hb6_ hb7_ hb8_ hb9_ hb10_ hb11_ hb12_ hb13_ hb14_ hb15_ hb16_
              refine ‹∀ (a' : Act) (w' : World), Met _ a' w' → _› _ _ ?_
              go_meet
              case rel => exact ⟨rfl, ⟨hB⟩⟩
        case rest =>
        obtain ⟨rfl, HB⟩ := hcut
        have HM2 := Side.mk (HM.out.below HB.out)
        have HC2 : Side (Chg w wc (fun k => k = g)) := ⟨HC.out.trans (Chg.of_below HB.out) (fun _ _ h => h)⟩
        clear HM HC HB
        go_step
        cases tt
        · have HF : Side (Srt lt (at_ xs) la (i + 1)) := ⟨HS.out.fin hji (fun h => by
            have := HTT.out
            rw [decide_eq_true h, Bool.true_and] at this
            exact this.symm)⟩
          clear HTT HS
          go_wp2
          go_roundw
          case rel => exact ⟨i + 1, xs, by simp, by omega, by omega, ⟨HM2.out.below (by (repeat (with_reducible first | exact Below.refl _ _ | apply below_drewN | apply below_drew | apply below_alloc)))⟩, ⟨HC2.out.trans (Chg.of_below (by (repeat (with_reducible first | exact Below.refl _ _ | apply below_drewN | apply below_drew | apply below_alloc)))) (fun _ _ h => h)⟩, HT, HF, HO⟩
          case measure => simp [intOf]; omega
        · have htt := HTT.out.symm
          rw [Bool.and_eq_true, decide_eq_true_eq] at htt
          obtain ⟨hlj, hlt⟩ := htt
          obtain ⟨J, hJ⟩ : ∃ J, J = j - 1 := ⟨_, rfl⟩
          have hJ2 : j = J + 1 := by omega
          rw [← hJ] at hlt
          have hlen := HM2.out.len
          have hat : ∀ p, at_ (sw xs j J) p = at_ xs (if p = J then J + 1 else if p = J + 1 then J else p) := fun p => by rw [at_sw (by omega) (by omega), hJ2]
          have HS2 : Side (Ins (at_ (sw xs j J)) la i J) := ⟨by rw [hJ2] at HS hlt hji; rw [hJ2] at hat ⊢; exact HS.out.step (by omega) hji hlt hat⟩
          have HT2 : Side (Stb lt n (at_ xs0) (at_ (sw xs j J))) := ⟨HT.out.trans (Stb.swap J (by omega) (by rw [← hJ2]; exact hlt) (fun p _ => hat p))⟩
          have HO2 : Side (∀ p, p < la ∨ lb ≤ p → at_ (sw xs j J) p = at_ xs0 p) := ⟨fun p hp => by
            rw [hat, if_neg (by omega), if_neg (by omega)]
            exact HO.out p hp⟩
          obtain ⟨I, hI⟩ : ∃ I, I = j := ⟨_, rfl⟩
          rw [← hI] at HS2 HT2 HO2 ⊢
          have hIn : I < n := by omega
          have hJn : J < n := by omega
          have hIi : (I : Int) < n := by omega
          have hJi : (J : Int) < n := by omega
          have hI0 : (0 : Int) ≤ I := by omega
          have hJ0 : (0 : Int) ≤ J := by omega
          have HWJ : Side (IntKind.i64.wrap ((I : Int) - 1) = (J : Int)) := ⟨by rw [Go.IntWalk.i64_in ((I : Int) - 1) (by omega)]; omega⟩
          have hIJ : (I : Int) - 1 = (J : Int) := by omega
          have hJI : J < I := by omega
          have hJj : J < j := by omega
          have hla : la ≤ J := by omega
          have hJil : J ≤ i := by omega
          have HM := HM2
          obtain ⟨wz, hwz⟩ : ∃ wz : World, wz = wc := ⟨_, rfl⟩
          rw [← hwz] at HM HC2 ⊢
          clear hI hJ hJ2 hlt hlen hat HS HT HO HTT HM2 hwz hlj
          go_upto_region 6 with (fail)
          have hI := HM.out.cell (p := I) hIn
          obtain ⟨i0, i1, i2, i3⟩ := hI
          have hJ := HM.out.cell (p := J) hJn
          obtain ⟨j0, j1, j2, j3⟩ := hJ
          have hgl := HM.out.lt
          have hMd : M wz.drew B g n cap xs := HM.out.below (below_drew (Below.refl _ _))
          have HST1 := Side.mk (hMd.store hIn (at_ xs J) (.agg #[.int .i64 (at_ xs J).d, .int .i64 (at_ xs J).b, .int .i64 (at_ xs J).g, .int .i64 (at_ xs J).i]) rfl)
          have HST2 := Side.mk ((hMd.write hIn (at_ xs J)).store hJn (at_ xs I) (.agg #[.int .i64 (at_ xs I).d, .int .i64 (at_ xs I).b, .int .i64 (at_ xs I).g, .int .i64 (at_ xs I).i]) rfl)
          have HMS : Side (M ((wz.drew.setCells g (I * 4) (rcl (at_ xs J))).setCells g (J * 4) (rcl (at_ xs I))) B g n cap (sw xs I J)) := ⟨hMd.swap hIn hJn⟩
          have HCS : Side (Chg wz ((wz.drew.setCells g (I * 4) (rcl (at_ xs J))).setCells g (J * 4) (rcl (at_ xs I))) (fun k => k = g)) := ⟨(Chg.of_below (below_drew (Below.refl _ _))).trans (sw_chg hMd) (fun _ _ h => h)⟩
          clear hMd
          refine start_ (n := 18) (S := fun w' => True) (ds := []) #[false, false, false, false, false, false, false, false, false, false, false, false, false, false, false, false, false, false] (by kernel_rfl) rfl rfl trivial (fun _ => ?_)
          refine inv_at (B := [0, 0, 0, 0, 8, 0, 0, 64, 224, 480, 0, 0, 3072, 7168, 16355, 32739, 65535, 131071]) [0, 1, 2, 3, 4, 5, 6, 7, 8, 9, 10, 11, 12, 13, 14, 15, 16, 17] (fun a0_ b a w' => a = putSel a0_ b [(0, 37, .slice (some ⟨g, 0, none⟩) n cap), (1, 38, .int .i64 I), (2, 39, .slice (some ⟨g, 0, none⟩) n cap), (3, 40, .int .i64 I), (4, 41, .int .i64 J), (5, 42, .slice (some ⟨g, 0, none⟩) n cap), (6, 43, .int .i64 I), (7, 44, .int .i64 J), (8, 45, .pointer (some ⟨g, J * 4, none⟩)), (9, 46, .agg #[.int .i64 (at_ xs J).d, .int .i64 (at_ xs J).b, .int .i64 (at_ xs J).g, .int .i64 (at_ xs J).i]), (10, 47, .slice (some ⟨g, 0, none⟩) n cap), (11, 48, .int .i64 I), (12, 49, .pointer (some ⟨g, I * 4, none⟩)), (13, 50, .agg #[.int .i64 (at_ xs I).d, .int .i64 (at_ xs I).b, .int .i64 (at_ xs I).g, .int .i64 (at_ xs I).i]), (14, 51, .pointer (some ⟨g, I * 4, none⟩)), (16, 52, .pointer (some ⟨g, J * 4, none⟩))] ∧ Two wz.drew g I J xs 15 17 b w') rfl (by kernel_rfl) (by kernel_rfl) (by kernel_rfl) ?_ ?_ ?_
          · exact ⟨by simp only [putSel, Bool.false_eq_true, if_false], Two.start⟩
          · refine steps_cons (by rintro b a w' ⟨ha, HI⟩ hb hon hoff; refine ⟨_, rfl, fun K hK => ?_⟩; have e0 := poff ha (t := 0) rfl rfl; exact value_ (v := .slice (some ⟨g, 0, none⟩) n cap) (by rfl) rfl (by clear HI ha; go_simp) (hK.out _ _ ⟨upk ha 0 hb rfl rfl, HI.low 0 (by decide)⟩)) ?_
            refine steps_cons (by rintro b a w' ⟨ha, HI⟩ hb hon hoff; refine ⟨_, rfl, fun K hK => ?_⟩; have e9 := poff ha (t := 9) rfl rfl; exact value_ (v := .int .i64 I) (by rfl) rfl (by clear HI ha; go_simp) (hK.out _ _ ⟨upk ha 1 hb rfl rfl, HI.low 1 (by decide)⟩)) ?_
            refine steps_cons (by rintro b a w' ⟨ha, HI⟩ hb hon hoff; refine ⟨_, rfl, fun K hK => ?_⟩; have e0 := poff ha (t := 0) rfl rfl; exact value_ (v := .slice (some ⟨g, 0, none⟩) n cap) (by rfl) rfl (by clear HI ha; go_simp) (hK.out _ _ ⟨upk ha 2 hb rfl rfl, HI.low 2 (by decide)⟩)) ?_
            refine steps_cons (by rintro b a w' ⟨ha, HI⟩ hb hon hoff; refine ⟨_, rfl, fun K hK => ?_⟩; have e9 := poff ha (t := 9) rfl rfl; exact value_ (v := .int .i64 I) (by rfl) rfl (by clear HI ha; go_simp) (hK.out _ _ ⟨upk ha 3 hb rfl rfl, HI.low 3 (by decide)⟩)) ?_
            refine steps_cons (by rintro b a w' ⟨ha, HI⟩ hb hon hoff; refine ⟨_, rfl, fun K hK => ?_⟩; have e40 := pon ha 3 (hon 3 rfl) rfl rfl rfl; exact value_ (v := .int .i64 J) (by rfl) rfl (by clear HI ha; have h__ := HWJ.out; clear hIJ; go_simp) (hK.out _ _ ⟨upk ha 4 hb rfl rfl, HI.low 4 (by decide)⟩)) ?_
            refine steps_cons (by rintro b a w' ⟨ha, HI⟩ hb hon hoff; refine ⟨_, rfl, fun K hK => ?_⟩; have e0 := poff ha (t := 0) rfl rfl; exact value_ (v := .slice (some ⟨g, 0, none⟩) n cap) (by rfl) rfl (by clear HI ha; go_simp) (hK.out _ _ ⟨upk ha 5 hb rfl rfl, HI.low 5 (by decide)⟩)) ?_
            refine steps_cons (by rintro b a w' ⟨ha, HI⟩ hb hon hoff; refine ⟨_, rfl, fun K hK => ?_⟩; have e9 := poff ha (t := 9) rfl rfl; exact value_ (v := .int .i64 I) (by rfl) rfl (by clear HI ha; go_simp) (hK.out _ _ ⟨upk ha 6 hb rfl rfl, HI.low 6 (by decide)⟩)) ?_
            refine steps_cons (by rintro b a w' ⟨ha, HI⟩ hb hon hoff; refine ⟨_, rfl, fun K hK => ?_⟩; have e43 := pon ha 6 (hon 6 rfl) rfl rfl rfl; exact value_ (v := .int .i64 J) (by rfl) rfl (by clear HI ha; have h__ := HWJ.out; clear hIJ; go_simp) (hK.out _ _ ⟨upk ha 7 hb rfl rfl, HI.low 7 (by decide)⟩)) ?_
            refine steps_cons (by rintro b a w' ⟨ha, HI⟩ hb hon hoff; refine ⟨_, rfl, fun K hK => ?_⟩; have e42 := pon ha 5 (hon 5 rfl) rfl rfl rfl; have e44 := pon ha 7 (hon 7 rfl) rfl rfl rfl; exact value_ (v := .pointer (some ⟨g, J * 4, none⟩)) (by rfl) rfl (by clear HI ha; go_simp) (hK.out _ _ ⟨upk ha 8 hb rfl rfl, HI.low 8 (by decide)⟩)) ?_
            refine steps_cons (by rintro b a w' ⟨ha, HI⟩ hb hon hoff; refine ⟨_, rfl, fun K hK => ?_⟩; have e45 := pon ha 8 (hon 8 rfl) rfl rfl rfl; obtain rfl := HI.n (hoff 15 rfl); exact value_ (v := .agg #[.int .i64 (at_ xs J).d, .int .i64 (at_ xs J).b, .int .i64 (at_ xs J).g, .int .i64 (at_ xs J).i]) (by rfl) rfl (by clear HI ha; go_simp) (hK.out _ _ ⟨upk ha 9 hb rfl rfl, HI.low 9 (by decide)⟩)) ?_
            refine steps_cons (by rintro b a w' ⟨ha, HI⟩ hb hon hoff; refine ⟨_, rfl, fun K hK => ?_⟩; have e0 := poff ha (t := 0) rfl rfl; exact value_ (v := .slice (some ⟨g, 0, none⟩) n cap) (by rfl) rfl (by clear HI ha; go_simp) (hK.out _ _ ⟨upk ha 10 hb rfl rfl, HI.low 10 (by decide)⟩)) ?_
            refine steps_cons (by rintro b a w' ⟨ha, HI⟩ hb hon hoff; refine ⟨_, rfl, fun K hK => ?_⟩; have e9 := poff ha (t := 9) rfl rfl; exact value_ (v := .int .i64 I) (by rfl) rfl (by clear HI ha; go_simp) (hK.out _ _ ⟨upk ha 11 hb rfl rfl, HI.low 11 (by decide)⟩)) ?_
            refine steps_cons (by rintro b a w' ⟨ha, HI⟩ hb hon hoff; refine ⟨_, rfl, fun K hK => ?_⟩; have e47 := pon ha 10 (hon 10 rfl) rfl rfl rfl; have e48 := pon ha 11 (hon 11 rfl) rfl rfl rfl; exact value_ (v := .pointer (some ⟨g, I * 4, none⟩)) (by rfl) rfl (by clear HI ha; go_simp) (hK.out _ _ ⟨upk ha 12 hb rfl rfl, HI.low 12 (by decide)⟩)) ?_
            refine steps_cons (by rintro b a w' ⟨ha, HI⟩ hb hon hoff; refine ⟨_, rfl, fun K hK => ?_⟩; have e49 := pon ha 12 (hon 12 rfl) rfl rfl rfl; obtain rfl := HI.n (hoff 15 rfl); exact value_ (v := .agg #[.int .i64 (at_ xs I).d, .int .i64 (at_ xs I).b, .int .i64 (at_ xs I).g, .int .i64 (at_ xs I).i]) (by rfl) rfl (by clear HI ha; go_simp) (hK.out _ _ ⟨upk ha 13 hb rfl rfl, HI.low 13 (by decide)⟩)) ?_
            refine steps_cons (by rintro b a w' ⟨ha, HI⟩ hb hon hoff; refine ⟨_, rfl, fun K hK => ?_⟩; have e37 := pon ha 0 (hon 0 rfl) rfl rfl rfl; have e38 := pon ha 1 (hon 1 rfl) rfl rfl rfl; exact value_ (v := .pointer (some ⟨g, I * 4, none⟩)) (by rfl) rfl (by clear HI ha; go_simp) (hK.out _ _ ⟨upk ha 14 hb rfl rfl, HI.low 14 (by decide)⟩)) ?_
            refine steps_cons (by rintro b a w' ⟨ha, HI⟩ hb hon hoff; refine ⟨_, rfl, fun K hK => ?_⟩; have e51 := pon ha 14 (hon 14 rfl) rfl rfl rfl; have e46 := pon ha 9 (hon 9 rfl) rfl rfl rfl; obtain rfl := HI.n hb; exact skip_ (by rfl) rfl (by unfold execOp; simp [Act.eval, e51, e46, HST1.out]) (hK.out _ _ ⟨ups ha rfl, HI.st1 hb (by decide)⟩)) ?_
            refine steps_cons (by rintro b a w' ⟨ha, HI⟩ hb hon hoff; refine ⟨_, rfl, fun K hK => ?_⟩; have e39 := pon ha 2 (hon 2 rfl) rfl rfl rfl; have e41 := pon ha 4 (hon 4 rfl) rfl rfl rfl; exact value_ (v := .pointer (some ⟨g, J * 4, none⟩)) (by rfl) rfl (by clear HI ha; go_simp) (hK.out _ _ ⟨upk ha 15 hb rfl rfl, HI.low 16 (by decide)⟩)) ?_
            refine steps_cons (by rintro b a w' ⟨ha, HI⟩ hb hon hoff; refine ⟨_, rfl, fun K hK => ?_⟩; have e52 := pon ha 15 (hon 16 rfl) rfl rfl rfl; have e50 := pon ha 13 (hon 13 rfl) rfl rfl rfl; obtain rfl := HI.y1 (hon 15 rfl) hb; exact skip_ (by rfl) rfl (by unfold execOp; simp [Act.eval, e52, e50, HST2.out]) (hK.out _ _ ⟨ups ha rfl, Two.st2 (hon 15 rfl) (by decide)⟩)) ?_
            exact steps_nil
          · rintro b a w' hall ⟨ha, HI⟩
            have hb0_ := hall 0 rfl; have hb1_ := hall 1 rfl; have hb2_ := hall 2 rfl; have hb3_ := hall 3 rfl; have hb4_ := hall 4 rfl; have hb5_ := hall 5 rfl; have hb6_ := hall 6 rfl; have hb7_ := hall 7 rfl
            have hb8_ := hall 8 rfl; have hb9_ := hall 9 rfl; have hb10_ := hall 10 rfl; have hb11_ := hall 11 rfl; have hb12_ := hall 12 rfl; have hb13_ := hall 13 rfl; have hb14_ := hall 14 rfl; have hb15_ := hall 15 rfl
            have hb16_ := hall 16 rfl; have hb17_ := hall 17 rfl
            subst ha
            simp only [putSel, hb0_, hb1_, hb2_, hb3_, hb4_, hb5_, hb6_, hb7_, hb8_, hb9_, hb10_, hb11_, hb12_, hb13_, hb14_, hb16_, if_true, Act.put, List.setIfInBounds_toArray, List.set_cons_zero, List.set_cons_succ]
            obtain rfl := HI.y2 hb17_
            clear hall HI hb0_ hb1_ hb2_ hb3_ hb4_ hb5_ hb6_ hb7_ hb8_ hb9_ hb10_ hb11_ hb12_ hb13_ hb14_ hb15_ hb16_ hb17_
            have HC3 : Side (Chg w ((wz.drew.setCells g (I * 4) (rcl (at_ xs J))).setCells g (J * 4) (rcl (at_ xs I))) (fun k => k = g)) := ⟨HC2.out.trans HCS.out (fun _ _ h => h)⟩
            generalize (wz.drew.setCells g (I * 4) (rcl (at_ xs J))).setCells g (J * 4) (rcl (at_ xs I)) = w3 at *
            generalize sw xs I J = ys at *
            clear HST1 HST2 i0 i1 i2 i3 j0 j1 j2 j3 hgl HM HC2 HCS HWJ
            go_wp2
            go_roundw
            case rel => exact ⟨J, ys, by first | rfl | simp | (simp; omega), hla, hJil, HMS, HC3, HT2, HS2, HO2⟩
            case measure => simp [intOf]; try omega
    · have hibi : ¬ (i : Int) < lb := by omega
      go_wp2_with fail
      exact bodyPost_end (results_none rfl _ _ _) rfl ⟨rfl, xs1, HM1.out, HC1.out, HT1.out, srt_le HS1.out (by omega), HO1.out⟩
end Go.Proofs.Ytmjgadhknliiaaa.SoD
