/- Package heap, sixth text: settle. No condition. -/
import Derived.Test.YtiebpmbongmgkaaHpE
import Derived.Deep.DeepCutAuto
import Derived.Deep.LoopGhost
set_option linter.unusedVariables false
set_option linter.unusedSimpArgs false
namespace Go.Proofs.Ytiebpmbongmgkaa.HpF
open Go.RowKit Go.Proofs.Ytiebpmbongmgkaa.Kit Go.Proofs.Ytiebpmbongmgkaa.Kit3 Go.Proofs.Ytiebpmbongmgkaa.Kit4 HpPlain Go.Maps Go.Proofs.Ytiebpmbongmgkaa.HpA Go.Proofs.Ytiebpmbongmgkaa.HpB Go.Proofs.Ytiebpmbongmgkaa.HpC Go.Proofs.Ytiebpmbongmgkaa.HpD Go.Proofs.Ytiebpmbongmgkaa.HpE
open Go.Proofs.YtiebpmbongmgkaaW.PrintLast
theorem swap_n (w : World) (B gh g cap bm n : Nat) (kind : Int) (l : List It) (hn : l.length = n) (h : HS w B gh kind (.slice (some ⟨g, 0, none⟩) n cap) bm l) (i k : Nat) (hi : i < n) (hk : k < n) (hl : n ≤ 100000) :
    Calls Try.prog 20 #[.pointer (some ⟨gh, 0, none⟩), .int .i64 i, .int .i64 k] w fun r w' => r = .returned (.tuple #[]) ∧ HS w' B gh kind (.slice (some ⟨g, 0, none⟩) n cap) bm (sw l i k) ∧ Chg w w' (Foot gh bm (.slice (some ⟨g, 0, none⟩) n cap)) := by
  subst hn; exact swap_at w B gh g cap bm kind l h i k hi hk hl
/-- A heap whose list is that of another one, in another order. -/
structure Mid (w0 w : World) (B gh g cap bm n : Nat) (kind : Int) (l0 l : List It) : Prop where
  hs : HS w B gh kind (.slice (some ⟨g, 0, none⟩) n cap) bm l
  perm : l.Perm l0
  chg : Chg w0 w (Foot gh bm (.slice (some ⟨g, 0, none⟩) n cap))
  len : l.length = n
theorem Mid.below {w0 w w' : World} {B gh g cap bm n : Nat} {kind : Int} {l0 l : List It} (h : Mid w0 w B gh g cap bm n kind l0 l) (hb : Below w.heap.size w w') : Mid w0 w' B gh g cap bm n kind l0 l :=
  ⟨h.hs.below hb, h.perm, Chg.trans h.chg (Chg.of_below hb) (fun _ _ h => h), h.len⟩
theorem Mid.swap {w0 w w' : World} {B gh g cap bm n : Nat} {kind : Int} {l0 l : List It} (h : Mid w0 w B gh g cap bm n kind l0 l) (i k : Nat) (hi : i < n) (hk : k < n) (h1 : HS w' B gh kind (.slice (some ⟨g, 0, none⟩) n cap) bm (sw l i k)) (h2 : Chg w w' (Foot gh bm (.slice (some ⟨g, 0, none⟩) n cap))) : Mid w0 w' B gh g cap bm n kind l0 (sw l i k) :=
  ⟨h1, (sw_perm l i k (by rw [h.len]; exact hi) (by rw [h.len]; exact hk)).trans h.perm, Chg.trans h.chg h2 (fun _ _ h => h), by rw [sw_len, h.len]⟩
theorem Mid.at_swap {w0 w : World} {B gh g cap bm n : Nat} {kind : Int} {l0 l : List It} (h : Mid w0 w B gh g cap bm n kind l0 l) (i k : Nat) (hi : i < n) (hk : k < n) : at_ (sw l i k) = swf (at_ l) i k := at_sw l i k (by rw [h.len]; exact hi) (by rw [h.len]; exact hk)
/-- What a round reads of an item. -/
theorem Mid.item {w0 w : World} {B gh g cap bm n : Nat} {kind : Int} {l0 l : List It} (h : Mid w0 w B gh g cap bm n kind l0 l) (i : Nat) (hi : i < n) :
    w.cell? ⟨g, i * 5, none⟩ = some (.int .i64 (at_ l i).1) ∧ w.cell? ⟨g, i * 5 + 1, none⟩ = some (.int .i64 (at_ l i).2.1) ∧ w.cell? ⟨g, i * 5 + 2, none⟩ = some (.int .i64 (at_ l i).2.2.1) ∧ w.cell? ⟨g, i * 5 + 3, none⟩ = some (.int .i64 (at_ l i).2.2.2.1) ∧ w.cell? ⟨g, i * 5 + 4, none⟩ = some (.int .i64 (at_ l i).2.2.2.2) := by
  have hi' : i < l.length := by rw [h.len]; exact hi
  exact ⟨h.hs.item i hi' 0 _ rfl, h.hs.item i hi' 1 _ rfl, h.hs.item i hi' 2 _ rfl, h.hs.item i hi' 3 _ rfl, h.hs.item i hi' 4 _ rfl⟩
theorem Mid.gl {w0 w : World} {B gh g cap bm n : Nat} {kind : Int} {l0 l : List It} (h : Mid w0 w B gh g cap bm n kind l0 l) : g < w.heap.size := Row.lt h.hs.row g rfl
set_option maxHeartbeats 8000000 in
set_option maxRecDepth 100000 in
theorem settle_at (w : World) (B gh g cap bm n : Nat) (kind : Int) (l : List It) (hn : l.length = n) (h : HS w B gh kind (.slice (some ⟨g, 0, none⟩) n cap) bm l) (i : Nat) (hi : i < n) (hl : n ≤ 100000) (hN : Near kind (at_ l) n i) :
    Calls Try.prog 18 #[.pointer (some ⟨gh, 0, none⟩), .int .i64 i] w fun r w' => r = .returned (.tuple #[]) ∧ ∃ l', Mid w w' B gh g cap bm n kind l l' ∧ Ordered kind (at_ l') n := by
  have HN := Side.mk hN
  have HM : Side (Mid w w B gh g cap bm n kind l l) := ⟨⟨h, List.Perm.refl _, Chg.refl _ _, hn⟩⟩
  clear hN h hn
  go_enter Try.func18, Try.ntmps18
  go_wp2_with fail
  go_loopw [1] (fun v1 wr => ∃ (j : Nat) (l1 : List It), v1 = .int .i64 (j : Int) ∧ j < n ∧ Side (Mid w wr B gh g cap bm n kind l l1) ∧ Side (Near kind (at_ l1) n j)) (fun v1 _ => (intOf v1).toNat)
  case atStart => exact ⟨i, l, rfl, hi, HM, HN⟩
  case round =>
    clear HM HN hi
    obtain ⟨j, l1, rfl, hj, HM, HN⟩ := hrel
    have hc0 := HM.out.hs.c0
    have hc1 := HM.out.hs.c1
    have hgl := HM.out.hs.lt
    have hgg := HM.out.gl
    have hjn : (j : Int) < n := by omega
    have hj0 : (0 : Int) ≤ j := by omega
    obtain ⟨p, hp⟩ : ∃ p, p = (j - 1) / 2 := ⟨_, rfl⟩
    obtain ⟨bb, hbb⟩ : ∃ bb, bb = (decide (0 < j) && lt kind (at_ l1 j) (at_ l1 p)) := ⟨_, rfl⟩
    have HPp := Side.mk hp
    have HBB := Side.mk hbb
    clear hp hbb
    go_upto_region 0 with (fail)
    go_cut [26] (fun v wc => v = .bool bb ∧ Side (Below wr.heap.size wr wc))
    case first =>
      by_cases h0 : 0 < j
      · have hz : (0 : Int) < j := by omega
        have hpn : p < n := by have := HPp.out; omega
        have E : ((j : Int) - 1) / 2 = (p : Int) := by have := HPp.out; omega
        have WJ : Side (IntKind.i64.wrap ((j : Int) - 1) = (j : Int) - 1) := ⟨Go.IntWalk.i64_in _ (by omega)⟩
        have WQ : Side (IntKind.i64.wrap (((j : Int) - 1).tdiv 2) = (p : Int)) := ⟨by rw [td (by omega), E]; exact Go.IntWalk.i64_in _ (by omega)⟩
        have hpi : (p : Int) < n := by omega
        obtain ⟨x0, x1, x2, x3, x4⟩ := HM.out.item j hj
        obtain ⟨y0, y1, y2, y3, y4⟩ := HM.out.item p hpn
        have HB2 : Side (lt kind (at_ l1 j) (at_ l1 p) = bb) := ⟨by rw [HBB.out, decide_eq_true h0, Bool.true_and]⟩
        generalize at_ l1 j = x at *
        generalize at_ l1 p = y at *
        have CL := fun w' (hc : w'.cell? ⟨gh, 0, none⟩ = some (.int .i64 kind)) hg => less_at w' gh kind x y hc hg
        rw [HB2.out] at CL
        clear hpn E
        refine start_ (n := 22) (S := fun w' => True) (ds := []) #[false, false, false, false, false, false, false, false, false, false, false, false, false, false, false, false, false, false, false, false, false, false] (by kernel_rfl) rfl rfl trivial (fun _ => ?_)
        refine inv_at (B := [0, 1, 3, 7, 7, 23, 55, 119, 7, 503, 1015, 7, 2055, 6151, 14343, 7, 32775, 98311, 260103, 522247, 1048575, 2097151]) [0, 1, 2, 3, 4, 5, 6, 7, 8, 9, 10, 11, 12, 13, 14, 15, 16, 17, 18, 19, 20, 21] (fun a0_ b a w' => a = putSel a0_ b [(0, 5, .int .i64 j), (1, 6, .bool true), (2, 7, .bool true), (3, 8, .pointer (some ⟨gh, 0, none⟩)), (4, 9, .pointer (some ⟨gh, 0, none⟩)), (5, 10, .pointer (some ⟨gh, 0, none⟩)), (6, 11, .pointer (some ⟨gh, 1, none⟩)), (7, 12, .slice (some ⟨g, 0, none⟩) n cap), (8, 13, .int .i64 j), (9, 14, .pointer (some ⟨g, j * 5, none⟩)), (10, 15, vl x), (11, 16, .pointer (some ⟨gh, 0, none⟩)), (12, 17, .pointer (some ⟨gh, 0, none⟩)), (13, 18, .pointer (some ⟨gh, 1, none⟩)), (14, 19, .slice (some ⟨g, 0, none⟩) n cap), (15, 20, .int .i64 j), (16, 21, .int .i64 ((j : Int) - 1)), (17, 22, .int .i64 p), (18, 23, .pointer (some ⟨g, p * 5, none⟩)), (19, 24, vl y), (20, 25, .bool bb), (21, 26, .bool bb)] ∧ Below wr.drew.heap.size wr.drew w') rfl (by kernel_rfl) (by kernel_rfl) (by kernel_rfl) ?_ ?_ ?_
        · exact ⟨by simp only [putSel, Bool.false_eq_true, if_false], Below.refl _ _⟩
        · refine steps_cons (by rintro b a w' ⟨ha, HI⟩ hb hon hoff; refine ⟨_, rfl, fun K hK => ?_⟩; have e1 := poff ha (t := 1) rfl rfl; exact value_ (v := .int .i64 j) (by rfl) rfl (by clear HI ha; go_simp) (hK.out _ _ ⟨upk ha 0 hb rfl rfl, HI⟩)) ?_
          refine steps_cons (by rintro b a w' ⟨ha, HI⟩ hb hon hoff; refine ⟨_, rfl, fun K hK => ?_⟩; have e5 := pon ha 0 (hon 0 rfl) rfl rfl rfl; exact value_ (v := .bool true) (by rfl) rfl (by clear HI ha; go_simp) (hK.out _ _ ⟨upk ha 1 hb rfl rfl, HI⟩)) ?_
          refine steps_cons (by rintro b a w' ⟨ha, HI⟩ hb hon hoff; refine ⟨_, rfl, fun K hK => ?_⟩; have e6 := pon ha 1 (hon 1 rfl) rfl rfl rfl; exact value_ (v := .bool true) (by rfl) rfl (by clear HI ha; go_simp) (hK.out _ _ ⟨upk ha 2 hb rfl rfl, HI⟩)) ?_
          refine steps_cons (by rintro b a w' ⟨ha, HI⟩ hb hon hoff; refine ⟨_, rfl, fun K hK => ?_⟩; have e0 := poff ha (t := 0) rfl rfl; have e7 := pon ha 2 (hon 2 rfl) rfl rfl rfl; exact value_ (v := .pointer (some ⟨gh, 0, none⟩)) (wanted_on (t := 7) (u := true) rfl rfl rfl e7) rfl (by clear HI ha; go_simp) (hK.out _ _ ⟨upk ha 3 hb rfl rfl, HI⟩)) ?_
          refine steps_cons (by rintro b a w' ⟨ha, HI⟩ hb hon hoff; refine ⟨_, rfl, fun K hK => ?_⟩; have e0 := poff ha (t := 0) rfl rfl; have e7 := pon ha 2 (hon 2 rfl) rfl rfl rfl; exact value_ (v := .pointer (some ⟨gh, 0, none⟩)) (wanted_on (t := 7) (u := true) rfl rfl rfl e7) rfl (by clear HI ha; go_simp) (hK.out _ _ ⟨upk ha 4 hb rfl rfl, HI⟩)) ?_
          refine steps_cons (by rintro b a w' ⟨ha, HI⟩ hb hon hoff; refine ⟨_, rfl, fun K hK => ?_⟩; have e9 := pon ha 4 (hon 4 rfl) rfl rfl rfl; have e7 := pon ha 2 (hon 2 rfl) rfl rfl rfl; exact value_ (v := .pointer (some ⟨gh, 0, none⟩)) (wanted_on (t := 7) (u := true) rfl rfl rfl e7) rfl (by clear HI ha; go_simp) (hK.out _ _ ⟨upk ha 5 hb rfl rfl, HI⟩)) ?_
          refine steps_cons (by rintro b a w' ⟨ha, HI⟩ hb hon hoff; refine ⟨_, rfl, fun K hK => ?_⟩; have e10 := pon ha 5 (hon 5 rfl) rfl rfl rfl; have e7 := pon ha 2 (hon 2 rfl) rfl rfl rfl; exact value_ (v := .pointer (some ⟨gh, 1, none⟩)) (wanted_on (t := 7) (u := true) rfl rfl rfl e7) rfl (by clear HI ha; go_simp) (hK.out _ _ ⟨upk ha 6 hb rfl rfl, HI⟩)) ?_
          refine steps_cons (by rintro b a w' ⟨ha, HI⟩ hb hon hoff; refine ⟨_, rfl, fun K hK => ?_⟩; have e11 := pon ha 6 (hon 6 rfl) rfl rfl rfl; have e7 := pon ha 2 (hon 2 rfl) rfl rfl rfl; have k0_ := bc HI hgl hc1; have kz_ := bz HI hgl; exact value_ (v := .slice (some ⟨g, 0, none⟩) n cap) (wanted_on (t := 7) (u := true) rfl rfl rfl e7) rfl (by clear HI ha; go_simp) (hK.out _ _ ⟨upk ha 7 hb rfl rfl, HI⟩)) ?_
          refine steps_cons (by rintro b a w' ⟨ha, HI⟩ hb hon hoff; refine ⟨_, rfl, fun K hK => ?_⟩; have e1 := poff ha (t := 1) rfl rfl; have e7 := pon ha 2 (hon 2 rfl) rfl rfl rfl; exact value_ (v := .int .i64 j) (wanted_on (t := 7) (u := true) rfl rfl rfl e7) rfl (by clear HI ha; go_simp) (hK.out _ _ ⟨upk ha 8 hb rfl rfl, HI⟩)) ?_
          refine steps_cons (by rintro b a w' ⟨ha, HI⟩ hb hon hoff; refine ⟨_, rfl, fun K hK => ?_⟩; have e12 := pon ha 7 (hon 7 rfl) rfl rfl rfl; have e13 := pon ha 8 (hon 8 rfl) rfl rfl rfl; have e7 := pon ha 2 (hon 2 rfl) rfl rfl rfl; exact value_ (v := .pointer (some ⟨g, j * 5, none⟩)) (wanted_on (t := 7) (u := true) rfl rfl rfl e7) rfl (by clear HI ha; go_simp) (hK.out _ _ ⟨upk ha 9 hb rfl rfl, HI⟩)) ?_
          refine steps_cons (by rintro b a w' ⟨ha, HI⟩ hb hon hoff; refine ⟨_, rfl, fun K hK => ?_⟩; have e14 := pon ha 9 (hon 9 rfl) rfl rfl rfl; have e7 := pon ha 2 (hon 2 rfl) rfl rfl rfl; have k0_ := bc HI hgg x0; have k1_ := bc HI hgg x1; have k2_ := bc HI hgg x2; have k3_ := bc HI hgg x3; have k4_ := bc HI hgg x4; have kz_ := bz HI hgg; exact value_ (v := vl x) (wanted_on (t := 7) (u := true) rfl rfl rfl e7) rfl (by clear HI ha; go_simp) (hK.out _ _ ⟨upk ha 10 hb rfl rfl, HI⟩)) ?_
          refine steps_cons (by rintro b a w' ⟨ha, HI⟩ hb hon hoff; refine ⟨_, rfl, fun K hK => ?_⟩; have e0 := poff ha (t := 0) rfl rfl; have e7 := pon ha 2 (hon 2 rfl) rfl rfl rfl; exact value_ (v := .pointer (some ⟨gh, 0, none⟩)) (wanted_on (t := 7) (u := true) rfl rfl rfl e7) rfl (by clear HI ha; go_simp) (hK.out _ _ ⟨upk ha 11 hb rfl rfl, HI⟩)) ?_
          refine steps_cons (by rintro b a w' ⟨ha, HI⟩ hb hon hoff; refine ⟨_, rfl, fun K hK => ?_⟩; have e16 := pon ha 11 (hon 11 rfl) rfl rfl rfl; have e7 := pon ha 2 (hon 2 rfl) rfl rfl rfl; exact value_ (v := .pointer (some ⟨gh, 0, none⟩)) (wanted_on (t := 7) (u := true) rfl rfl rfl e7) rfl (by clear HI ha; go_simp) (hK.out _ _ ⟨upk ha 12 hb rfl rfl, HI⟩)) ?_
          refine steps_cons (by rintro b a w' ⟨ha, HI⟩ hb hon hoff; refine ⟨_, rfl, fun K hK => ?_⟩; have e17 := pon ha 12 (hon 12 rfl) rfl rfl rfl; have e7 := pon ha 2 (hon 2 rfl) rfl rfl rfl; exact value_ (v := .pointer (some ⟨gh, 1, none⟩)) (wanted_on (t := 7) (u := true) rfl rfl rfl e7) rfl (by clear HI ha; go_simp) (hK.out _ _ ⟨upk ha 13 hb rfl rfl, HI⟩)) ?_
          refine steps_cons (by rintro b a w' ⟨ha, HI⟩ hb hon hoff; refine ⟨_, rfl, fun K hK => ?_⟩; have e18 := pon ha 13 (hon 13 rfl) rfl rfl rfl; have e7 := pon ha 2 (hon 2 rfl) rfl rfl rfl; have k0_ := bc HI hgl hc1; have kz_ := bz HI hgl; exact value_ (v := .slice (some ⟨g, 0, none⟩) n cap) (wanted_on (t := 7) (u := true) rfl rfl rfl e7) rfl (by clear HI ha; go_simp) (hK.out _ _ ⟨upk ha 14 hb rfl rfl, HI⟩)) ?_
          refine steps_cons (by rintro b a w' ⟨ha, HI⟩ hb hon hoff; refine ⟨_, rfl, fun K hK => ?_⟩; have e1 := poff ha (t := 1) rfl rfl; have e7 := pon ha 2 (hon 2 rfl) rfl rfl rfl; exact value_ (v := .int .i64 j) (wanted_on (t := 7) (u := true) rfl rfl rfl e7) rfl (by clear HI ha; go_simp) (hK.out _ _ ⟨upk ha 15 hb rfl rfl, HI⟩)) ?_
          refine steps_cons (by rintro b a w' ⟨ha, HI⟩ hb hon hoff; refine ⟨_, rfl, fun K hK => ?_⟩; have e20 := pon ha 15 (hon 15 rfl) rfl rfl rfl; have e7 := pon ha 2 (hon 2 rfl) rfl rfl rfl; exact value_ (v := .int .i64 ((j : Int) - 1)) (wanted_on (t := 7) (u := true) rfl rfl rfl e7) rfl (by clear HI ha; go_simp; exact WJ.out) (hK.out _ _ ⟨upk ha 16 hb rfl rfl, HI⟩)) ?_
          refine steps_cons (by rintro b a w' ⟨ha, HI⟩ hb hon hoff; refine ⟨_, rfl, fun K hK => ?_⟩; have e21 := pon ha 16 (hon 16 rfl) rfl rfl rfl; have e7 := pon ha 2 (hon 2 rfl) rfl rfl rfl; exact value_ (v := .int .i64 p) (wanted_on (t := 7) (u := true) rfl rfl rfl e7) rfl (by clear HI ha; go_simp; exact WQ.out) (hK.out _ _ ⟨upk ha 17 hb rfl rfl, HI⟩)) ?_
          refine steps_cons (by rintro b a w' ⟨ha, HI⟩ hb hon hoff; refine ⟨_, rfl, fun K hK => ?_⟩; have e19 := pon ha 14 (hon 14 rfl) rfl rfl rfl; have e22 := pon ha 17 (hon 17 rfl) rfl rfl rfl; have e7 := pon ha 2 (hon 2 rfl) rfl rfl rfl; exact value_ (v := .pointer (some ⟨g, p * 5, none⟩)) (wanted_on (t := 7) (u := true) rfl rfl rfl e7) rfl (by clear HI ha; go_simp) (hK.out _ _ ⟨upk ha 18 hb rfl rfl, HI⟩)) ?_
          refine steps_cons (by rintro b a w' ⟨ha, HI⟩ hb hon hoff; refine ⟨_, rfl, fun K hK => ?_⟩; have e23 := pon ha 18 (hon 18 rfl) rfl rfl rfl; have e7 := pon ha 2 (hon 2 rfl) rfl rfl rfl; have k0_ := bc HI hgg y0; have k1_ := bc HI hgg y1; have k2_ := bc HI hgg y2; have k3_ := bc HI hgg y3; have k4_ := bc HI hgg y4; have kz_ := bz HI hgg; exact value_ (v := vl y) (wanted_on (t := 7) (u := true) rfl rfl rfl e7) rfl (by clear HI ha; go_simp) (hK.out _ _ ⟨upk ha 19 hb rfl rfl, HI⟩)) ?_
          refine steps_cons (by rintro b a w' ⟨ha, HI⟩ hb hon hoff; refine ⟨_, rfl, fun K hK => ?_⟩; have e8 := pon ha 3 (hon 3 rfl) rfl rfl rfl; have e15 := pon ha 10 (hon 10 rfl) rfl rfl rfl; have e24 := pon ha 19 (hon 19 rfl) rfl rfl rfl; have e7 := pon ha 2 (hon 2 rfl) rfl rfl rfl; refine goes_ Try.func21 (by kernel_rfl) rfl #[.pointer (some ⟨gh, 0, none⟩), vl x, vl y] (wanted_on (t := 7) (u := true) rfl rfl rfl e7) rfl rfl (by simp [Act.eval, e8, e15, e24, e7]) ((CL _ (bc HI hgl hc0) (bz HI hgl)).mono ?_); rintro e_ w'' ⟨rfl, hbc⟩; exact ⟨_, rfl, hK.out _ _ ⟨upk ha 20 hb rfl rfl, below_then HI HI.size hbc⟩⟩) ?_
          refine steps_cons (by rintro b a w' ⟨ha, HI⟩ hb hon hoff; refine ⟨_, rfl, fun K hK => ?_⟩; have e7 := pon ha 2 (hon 2 rfl) rfl rfl rfl; have e25 := pon ha 20 (hon 20 rfl) rfl rfl rfl; exact value_ (v := .bool bb) (by rfl) rfl (by clear HI ha; go_simp) (hK.out _ _ ⟨upk ha 21 hb rfl rfl, HI⟩)) ?_
          exact steps_nil
        · rintro b a w' hall ⟨ha, HI⟩
          have hb0_ := hall 0 rfl; have hb1_ := hall 1 rfl; have hb2_ := hall 2 rfl; have hb3_ := hall 3 rfl; have hb4_ := hall 4 rfl; have hb5_ := hall 5 rfl; have hb6_ := hall 6 rfl; have hb7_ := hall 7 rfl
          have hb8_ := hall 8 rfl; have hb9_ := hall 9 rfl; have hb10_ := hall 10 rfl; have hb11_ := hall 11 rfl; have hb12_ := hall 12 rfl; have hb13_ := hall 13 rfl; have hb14_ := hall 14 rfl; have hb15_ := hall 15 rfl
          have hb16_ := hall 16 rfl; have hb17_ := hall 17 rfl; have hb18_ := hall 18 rfl; have hb19_ := hall 19 rfl; have hb20_ := hall 20 rfl; have hb21_ := hall 21 rfl
          subst ha
          simp only [putSel, hb0_, hb1_, hb2_, hb3_, hb4_, hb5_, hb6_, hb7_, hb8_, hb9_, hb10_, hb11_, hb12_, hb13_, hb14_, hb15_, hb16_, hb17_, hb18_, hb19_, hb20_, hb21_, if_true, Act.put, List.setIfInBounds_toArray, List.set_cons_zero, List.set_cons_succ]
          have hB := (below_then (below_drew (Below.refl _ wr)) (Nat.le_refl _) HI : Below wr.heap.size wr w')
          clear hall HI hb0_ hb1_ hb2_ hb3_ hb4_ hb5_ hb6_ hb7_ hb8_ hb9_ hb10_ hb11_ hb12_ hb13_ hb14_ hb15_ hb16_ hb17_ hb18_ hb19_ hb20_ hb21_
          refine ‹∀ (a' : Act) (w' : World), Met _ a' w' → _› _ _ ?_
          go_meet
          case rel => exact ⟨rfl, ⟨hB⟩⟩
      · obtain rfl : j = 0 := by omega
        have HB2 : Side (bb = false) := ⟨by rw [HBB.out]; rfl⟩
        obtain rfl := HB2.out
        refine start_ (n := 22) (S := fun w' => True) (ds := []) #[false, false, false, false, false, false, false, false, false, false, false, false, false, false, false, false, false, false, false, false, false, false] (by kernel_rfl) rfl rfl trivial (fun _ => ?_)
        refine inv_at (B := [0, 1, 3, 7, 7, 23, 55, 119, 7, 503, 1015, 7, 2055, 6151, 14343, 7, 32775, 98311, 260103, 522247, 1048575, 2097151]) [0, 1, 2, 3, 4, 5, 6, 7, 8, 9, 10, 11, 12, 13, 14, 15, 16, 17, 18, 19, 20, 21] (fun a0_ b a w' => a = putSel a0_ b [(0, 5, .int .i64 ((0 : Nat) : Int)), (1, 6, .bool false), (2, 7, .bool false), (3, 8, undef), (4, 9, undef), (5, 10, undef), (6, 11, undef), (7, 12, undef), (8, 13, undef), (9, 14, undef), (10, 15, undef), (11, 16, undef), (12, 17, undef), (13, 18, undef), (14, 19, undef), (15, 20, undef), (16, 21, undef), (17, 22, undef), (18, 23, undef), (19, 24, undef), (20, 25, undef), (21, 26, .bool false)] ∧ Below wr.drew.heap.size wr.drew w') rfl (by kernel_rfl) (by kernel_rfl) (by kernel_rfl) ?_ ?_ ?_
        · exact ⟨by simp only [putSel, Bool.false_eq_true, if_false], Below.refl _ _⟩
        · refine steps_cons (by rintro b a w' ⟨ha, HI⟩ hb hon hoff; refine ⟨_, rfl, fun K hK => ?_⟩; have e1 := poff ha (t := 1) rfl rfl; exact value_ (v := .int .i64 ((0 : Nat) : Int)) (by rfl) rfl (by clear HI ha; go_simp) (hK.out _ _ ⟨upk ha 0 hb rfl rfl, HI⟩)) ?_
          refine steps_cons (by rintro b a w' ⟨ha, HI⟩ hb hon hoff; refine ⟨_, rfl, fun K hK => ?_⟩; have e5 := pon ha 0 (hon 0 rfl) rfl rfl rfl; exact value_ (v := .bool false) (by rfl) rfl (by clear HI ha; go_simp) (hK.out _ _ ⟨upk ha 1 hb rfl rfl, HI⟩)) ?_
          refine steps_cons (by rintro b a w' ⟨ha, HI⟩ hb hon hoff; refine ⟨_, rfl, fun K hK => ?_⟩; have e6 := pon ha 1 (hon 1 rfl) rfl rfl rfl; exact value_ (v := .bool false) (by rfl) rfl (by clear HI ha; go_simp) (hK.out _ _ ⟨upk ha 2 hb rfl rfl, HI⟩)) ?_
          refine steps_cons (by rintro b a w' ⟨ha, HI⟩ hb hon hoff; refine ⟨_, rfl, fun K hK => ?_⟩; have e0 := poff ha (t := 0) rfl rfl; have e7 := pon ha 2 (hon 2 rfl) rfl rfl rfl; exact off_ (wanted_off (t := 7) (u := true) rfl rfl rfl e7) (hK.out _ _ ⟨upk ha 3 hb rfl rfl, HI⟩)) ?_
          refine steps_cons (by rintro b a w' ⟨ha, HI⟩ hb hon hoff; refine ⟨_, rfl, fun K hK => ?_⟩; have e0 := poff ha (t := 0) rfl rfl; have e7 := pon ha 2 (hon 2 rfl) rfl rfl rfl; exact off_ (wanted_off (t := 7) (u := true) rfl rfl rfl e7) (hK.out _ _ ⟨upk ha 4 hb rfl rfl, HI⟩)) ?_
          refine steps_cons (by rintro b a w' ⟨ha, HI⟩ hb hon hoff; refine ⟨_, rfl, fun K hK => ?_⟩; have e9 := pon ha 4 (hon 4 rfl) rfl rfl rfl; have e7 := pon ha 2 (hon 2 rfl) rfl rfl rfl; exact off_ (wanted_off (t := 7) (u := true) rfl rfl rfl e7) (hK.out _ _ ⟨upk ha 5 hb rfl rfl, HI⟩)) ?_
          refine steps_cons (by rintro b a w' ⟨ha, HI⟩ hb hon hoff; refine ⟨_, rfl, fun K hK => ?_⟩; have e10 := pon ha 5 (hon 5 rfl) rfl rfl rfl; have e7 := pon ha 2 (hon 2 rfl) rfl rfl rfl; exact off_ (wanted_off (t := 7) (u := true) rfl rfl rfl e7) (hK.out _ _ ⟨upk ha 6 hb rfl rfl, HI⟩)) ?_
          refine steps_cons (by rintro b a w' ⟨ha, HI⟩ hb hon hoff; refine ⟨_, rfl, fun K hK => ?_⟩; have e11 := pon ha 6 (hon 6 rfl) rfl rfl rfl; have e7 := pon ha 2 (hon 2 rfl) rfl rfl rfl; exact off_ (wanted_off (t := 7) (u := true) rfl rfl rfl e7) (hK.out _ _ ⟨upk ha 7 hb rfl rfl, HI⟩)) ?_
          refine steps_cons (by rintro b a w' ⟨ha, HI⟩ hb hon hoff; refine ⟨_, rfl, fun K hK => ?_⟩; have e1 := poff ha (t := 1) rfl rfl; have e7 := pon ha 2 (hon 2 rfl) rfl rfl rfl; exact off_ (wanted_off (t := 7) (u := true) rfl rfl rfl e7) (hK.out _ _ ⟨upk ha 8 hb rfl rfl, HI⟩)) ?_
          refine steps_cons (by rintro b a w' ⟨ha, HI⟩ hb hon hoff; refine ⟨_, rfl, fun K hK => ?_⟩; have e12 := pon ha 7 (hon 7 rfl) rfl rfl rfl; have e13 := pon ha 8 (hon 8 rfl) rfl rfl rfl; have e7 := pon ha 2 (hon 2 rfl) rfl rfl rfl; exact off_ (wanted_off (t := 7) (u := true) rfl rfl rfl e7) (hK.out _ _ ⟨upk ha 9 hb rfl rfl, HI⟩)) ?_
          refine steps_cons (by rintro b a w' ⟨ha, HI⟩ hb hon hoff; refine ⟨_, rfl, fun K hK => ?_⟩; have e14 := pon ha 9 (hon 9 rfl) rfl rfl rfl; have e7 := pon ha 2 (hon 2 rfl) rfl rfl rfl; exact off_ (wanted_off (t := 7) (u := true) rfl rfl rfl e7) (hK.out _ _ ⟨upk ha 10 hb rfl rfl, HI⟩)) ?_
          refine steps_cons (by rintro b a w' ⟨ha, HI⟩ hb hon hoff; refine ⟨_, rfl, fun K hK => ?_⟩; have e0 := poff ha (t := 0) rfl rfl; have e7 := pon ha 2 (hon 2 rfl) rfl rfl rfl; exact off_ (wanted_off (t := 7) (u := true) rfl rfl rfl e7) (hK.out _ _ ⟨upk ha 11 hb rfl rfl, HI⟩)) ?_
          refine steps_cons (by rintro b a w' ⟨ha, HI⟩ hb hon hoff; refine ⟨_, rfl, fun K hK => ?_⟩; have e16 := pon ha 11 (hon 11 rfl) rfl rfl rfl; have e7 := pon ha 2 (hon 2 rfl) rfl rfl rfl; exact off_ (wanted_off (t := 7) (u := true) rfl rfl rfl e7) (hK.out _ _ ⟨upk ha 12 hb rfl rfl, HI⟩)) ?_
          refine steps_cons (by rintro b a w' ⟨ha, HI⟩ hb hon hoff; refine ⟨_, rfl, fun K hK => ?_⟩; have e17 := pon ha 12 (hon 12 rfl) rfl rfl rfl; have e7 := pon ha 2 (hon 2 rfl) rfl rfl rfl; exact off_ (wanted_off (t := 7) (u := true) rfl rfl rfl e7) (hK.out _ _ ⟨upk ha 13 hb rfl rfl, HI⟩)) ?_
          refine steps_cons (by rintro b a w' ⟨ha, HI⟩ hb hon hoff; refine ⟨_, rfl, fun K hK => ?_⟩; have e18 := pon ha 13 (hon 13 rfl) rfl rfl rfl; have e7 := pon ha 2 (hon 2 rfl) rfl rfl rfl; exact off_ (wanted_off (t := 7) (u := true) rfl rfl rfl e7) (hK.out _ _ ⟨upk ha 14 hb rfl rfl, HI⟩)) ?_
          refine steps_cons (by rintro b a w' ⟨ha, HI⟩ hb hon hoff; refine ⟨_, rfl, fun K hK => ?_⟩; have e1 := poff ha (t := 1) rfl rfl; have e7 := pon ha 2 (hon 2 rfl) rfl rfl rfl; exact off_ (wanted_off (t := 7) (u := true) rfl rfl rfl e7) (hK.out _ _ ⟨upk ha 15 hb rfl rfl, HI⟩)) ?_
          refine steps_cons (by rintro b a w' ⟨ha, HI⟩ hb hon hoff; refine ⟨_, rfl, fun K hK => ?_⟩; have e20 := pon ha 15 (hon 15 rfl) rfl rfl rfl; have e7 := pon ha 2 (hon 2 rfl) rfl rfl rfl; exact off_ (wanted_off (t := 7) (u := true) rfl rfl rfl e7) (hK.out _ _ ⟨upk ha 16 hb rfl rfl, HI⟩)) ?_
          refine steps_cons (by rintro b a w' ⟨ha, HI⟩ hb hon hoff; refine ⟨_, rfl, fun K hK => ?_⟩; have e21 := pon ha 16 (hon 16 rfl) rfl rfl rfl; have e7 := pon ha 2 (hon 2 rfl) rfl rfl rfl; exact off_ (wanted_off (t := 7) (u := true) rfl rfl rfl e7) (hK.out _ _ ⟨upk ha 17 hb rfl rfl, HI⟩)) ?_
          refine steps_cons (by rintro b a w' ⟨ha, HI⟩ hb hon hoff; refine ⟨_, rfl, fun K hK => ?_⟩; have e19 := pon ha 14 (hon 14 rfl) rfl rfl rfl; have e22 := pon ha 17 (hon 17 rfl) rfl rfl rfl; have e7 := pon ha 2 (hon 2 rfl) rfl rfl rfl; exact off_ (wanted_off (t := 7) (u := true) rfl rfl rfl e7) (hK.out _ _ ⟨upk ha 18 hb rfl rfl, HI⟩)) ?_
          refine steps_cons (by rintro b a w' ⟨ha, HI⟩ hb hon hoff; refine ⟨_, rfl, fun K hK => ?_⟩; have e23 := pon ha 18 (hon 18 rfl) rfl rfl rfl; have e7 := pon ha 2 (hon 2 rfl) rfl rfl rfl; exact off_ (wanted_off (t := 7) (u := true) rfl rfl rfl e7) (hK.out _ _ ⟨upk ha 19 hb rfl rfl, HI⟩)) ?_
          refine steps_cons (by rintro b a w' ⟨ha, HI⟩ hb hon hoff; refine ⟨_, rfl, fun K hK => ?_⟩; have e8 := pon ha 3 (hon 3 rfl) rfl rfl rfl; have e15 := pon ha 10 (hon 10 rfl) rfl rfl rfl; have e24 := pon ha 19 (hon 19 rfl) rfl rfl rfl; have e7 := pon ha 2 (hon 2 rfl) rfl rfl rfl; exact off_ (wanted_off (t := 7) (u := true) rfl rfl rfl e7) (hK.out _ _ ⟨upk ha 20 hb rfl rfl, HI⟩)) ?_
          refine steps_cons (by rintro b a w' ⟨ha, HI⟩ hb hon hoff; refine ⟨_, rfl, fun K hK => ?_⟩; have e7 := pon ha 2 (hon 2 rfl) rfl rfl rfl; have e25 := pon ha 20 (hon 20 rfl) rfl rfl rfl; exact value_ (v := .bool false) (by rfl) rfl (by clear HI ha; go_simp) (hK.out _ _ ⟨upk ha 21 hb rfl rfl, HI⟩)) ?_
          exact steps_nil
        · rintro b a w' hall ⟨ha, HI⟩
          have hb0_ := hall 0 rfl; have hb1_ := hall 1 rfl; have hb2_ := hall 2 rfl; have hb3_ := hall 3 rfl; have hb4_ := hall 4 rfl; have hb5_ := hall 5 rfl; have hb6_ := hall 6 rfl; have hb7_ := hall 7 rfl
          have hb8_ := hall 8 rfl; have hb9_ := hall 9 rfl; have hb10_ := hall 10 rfl; have hb11_ := hall 11 rfl; have hb12_ := hall 12 rfl; have hb13_ := hall 13 rfl; have hb14_ := hall 14 rfl; have hb15_ := hall 15 rfl
          have hb16_ := hall 16 rfl; have hb17_ := hall 17 rfl; have hb18_ := hall 18 rfl; have hb19_ := hall 19 rfl; have hb20_ := hall 20 rfl; have hb21_ := hall 21 rfl
          subst ha
          simp only [putSel, hb0_, hb1_, hb2_, hb3_, hb4_, hb5_, hb6_, hb7_, hb8_, hb9_, hb10_, hb11_, hb12_, hb13_, hb14_, hb15_, hb16_, hb17_, hb18_, hb19_, hb20_, hb21_, if_true, Act.put, List.setIfInBounds_toArray, List.set_cons_zero, List.set_cons_succ]
          have hB := (below_then (below_drew (Below.refl _ wr)) (Nat.le_refl _) HI : Below wr.heap.size wr w')
          clear hall HI hb0_ hb1_ hb2_ hb3_ hb4_ hb5_ hb6_ hb7_ hb8_ hb9_ hb10_ hb11_ hb12_ hb13_ hb14_ hb15_ hb16_ hb17_ hb18_ hb19_ hb20_ hb21_
          refine ‹∀ (a' : Act) (w' : World), Met _ a' w' → _› _ _ ?_
          go_meet
          case rel => exact ⟨rfl, ⟨hB⟩⟩
    case rest =>
      obtain ⟨rfl, HB⟩ := hcut
      have HM2 := Side.mk (HM.out.below HB.out)
      clear HM HB hc0 hc1 hgl hgg
      cases bb
      case true =>
        have hs := HBB.out
        have hpn : p < n := by have := HPp.out; omega
        have h0 : 0 < j := by
          rcases Nat.lt_or_ge 0 j with h | h
          · exact h
          · rw [decide_eq_false (by omega)] at hs; cases hs
        have hl2 : lt kind (at_ l1 j) (at_ l1 p) = true := by rw [decide_eq_true h0, Bool.true_and] at hs; exact hs.symm
        have E : ((j : Int) - 1) / 2 = (p : Int) := by have := HPp.out; omega
        have hj1 : (1 : Int) ≤ j := by omega
        have hp0 : (0 : Int) ≤ p := by omega
        have HU := Side.mk (up_step HN.out h0 hj (by rw [← HPp.out]; exact hl2))
        have CS := Side.mk (swap_n wc B gh g cap bm n kind l1 HM2.out.len HM2.out.hs j p hj hpn hl)
        have HLT : Side (p < j) := ⟨by have := HPp.out; omega⟩
        have HPN := Side.mk hpn
        clear hs h0 hl2 hpn HBB
        go_step
        go_wp2_with fail
        refine CS.out.mono ?_
        rintro e w2 ⟨rfl, hs2, hc2⟩
        have HM3 := Side.mk (HM2.out.swap j p hj HPN.out hs2 hc2)
        have HN3 : Side (Near kind (at_ (sw l1 j p)) n p) := ⟨by
          rw [HM2.out.at_swap j p hj HPN.out]
          have := HU.out
          rw [← HPp.out] at this
          exact this⟩
        clear hs2 hc2 CS HU
        go_wp2
        go_roundw
        case rel => exact ⟨p, sw l1 j p, by first | rfl | rw [E], HPN.out, HM3, HN3⟩
        case measure => have := HLT.out; simp [intOf]; omega
      case false =>
        have HD : Side (Down kind (at_ l1) n j) := ⟨up_stop HN.out (fun h0 => by
          have := HBB.out
          rw [decide_eq_true h0, Bool.true_and, HPp.out] at this
          exact this.symm)⟩
        clear HN HBB HPp p
        go_step
        go_wp2_with fail
        have hl2 : (n : Int) ≤ 100000 := by omega
        go_loopw [1, 4] (fun v1 v4 wq => ∃ (i2 : Nat) (l2 : List It), v1 = .int .i64 (i2 : Int) ∧ i2 < n ∧ Side (Mid w wq B gh g cap bm n kind l l2) ∧ Side (Down kind (at_ l2) n i2)) (fun v1 _ _ => (n - intOf v1).toNat)
        case atStart => exact ⟨j, l1, rfl, hj, HM2, HD⟩
        case round =>
          clear HM2 HD hj hjn hj0
          obtain ⟨d, l2, rfl, hd, HM, HD⟩ := hrel
          obtain ⟨wq, hwq⟩ : ∃ wq : World, wq = wr := ⟨_, rfl⟩
          rw [← hwq] at HM ⊢
          clear hwq
          have hc0 := HM.out.hs.c0
          have hc1 := HM.out.hs.c1
          have hgl := HM.out.hs.lt
          have hgg := HM.out.gl
          have hdn : (d : Int) < n := by omega
          have hd0 : (0 : Int) ≤ d := by omega
          obtain ⟨k0, hk0⟩ : ∃ k0, k0 = 2 * d + 1 := ⟨_, rfl⟩
          obtain ⟨k1, hk1⟩ : ∃ k1, k1 = k0 + 1 := ⟨_, rfl⟩
          have K0 := Side.mk hk0
          have K1 := Side.mk hk1
          have E0 : 2 * (d : Int) + 1 = (k0 : Int) := by omega
          have hk0n : (0 : Int) ≤ k0 := by omega
          obtain ⟨bb, hbb⟩ : ∃ bb, bb = (decide (k1 < n) && lt kind (at_ l2 k1) (at_ l2 k0)) := ⟨_, rfl⟩
          obtain ⟨c, hc⟩ : ∃ c, c = if bb = true then k1 else k0 := ⟨_, rfl⟩
          have HBB := Side.mk hbb
          have HC := Side.mk hc
          clear hk0 hk1 hbb hc
          go_upto_region 4 with (fail)
          have WA : Side (IntKind.i64.wrap ((k0 : Int) + 1) = (k1 : Int)) := ⟨by rw [K1.out]; exact Go.IntWalk.i64_in _ (by have := K0.out; omega)⟩
          go_cut [65] (fun v wc => v = .bool bb ∧ Side (Below wq.heap.size wq wc))
          case first =>
            by_cases h1 : k1 < n
            · have h1i : (k1 : Int) < n := by omega
              have hk1p : (0 : Int) ≤ k1 := by omega
              have h0i : (k0 : Int) < n := by have := K1.out; omega
              have h0n : k0 < n := by omega
              obtain ⟨x0, x1, x2, x3, x4⟩ := HM.out.item k1 h1
              obtain ⟨y0, y1, y2, y3, y4⟩ := HM.out.item k0 h0n
              have HB2 : Side (lt kind (at_ l2 k1) (at_ l2 k0) = bb) := ⟨by rw [HBB.out, decide_eq_true h1, Bool.true_and]⟩
              generalize at_ l2 k1 = x at *
              generalize at_ l2 k0 = y at *
              have CL := fun w' (hc : w'.cell? ⟨gh, 0, none⟩ = some (.int .i64 kind)) hg => less_at w' gh kind x y hc hg
              rw [HB2.out] at CL
              clear h0n
              refine start_ (n := 27) (S := fun w' => True) (ds := []) #[false, false, false, false, false, false, false, false, false, false, false, false, false, false, false, false, false, false, false, false, false, false, false, false, false, false, false] (by kernel_rfl) rfl rfl trivial (fun _ => ?_)
              refine inv_at (B := [0, 1, 0, 4, 12, 28, 60, 127, 255, 511, 511, 1535, 3583, 7679, 511, 16895, 65023, 130559, 511, 262655, 786943, 1835519, 511, 8126975, 16515583, 33554431, 67108863]) [0, 1, 2, 3, 4, 5, 6, 7, 8, 9, 10, 11, 12, 13, 14, 15, 16, 17, 18, 19, 20, 21, 22, 23, 24, 25, 26] (fun a0_ b a w' => a = putSel a0_ b [(0, 39, .int .i64 k0), (1, 40, .int .i64 k1), (2, 41, .pointer (some ⟨gh, 0, none⟩)), (3, 42, .pointer (some ⟨gh, 0, none⟩)), (4, 43, .pointer (some ⟨gh, 1, none⟩)), (5, 44, .slice (some ⟨g, 0, none⟩) n cap), (6, 45, .int .i64 n), (7, 46, .bool true), (8, 47, .bool true), (9, 48, .pointer (some ⟨gh, 0, none⟩)), (10, 49, .pointer (some ⟨gh, 0, none⟩)), (11, 50, .pointer (some ⟨gh, 0, none⟩)), (12, 51, .pointer (some ⟨gh, 1, none⟩)), (13, 52, .slice (some ⟨g, 0, none⟩) n cap), (14, 53, .int .i64 k0), (15, 54, .int .i64 k1), (16, 55, .pointer (some ⟨g, k1 * 5, none⟩)), (17, 56, vl x), (18, 57, .pointer (some ⟨gh, 0, none⟩)), (19, 58, .pointer (some ⟨gh, 0, none⟩)), (20, 59, .pointer (some ⟨gh, 1, none⟩)), (21, 60, .slice (some ⟨g, 0, none⟩) n cap), (22, 61, .int .i64 k0), (23, 62, .pointer (some ⟨g, k0 * 5, none⟩)), (24, 63, vl y), (25, 64, .bool bb), (26, 65, .bool bb)] ∧ Below wq.drew.heap.size wq.drew w') rfl (by kernel_rfl) (by kernel_rfl) (by kernel_rfl) ?_ ?_ ?_
              · exact ⟨by simp only [putSel, Bool.false_eq_true, if_false], Below.refl _ _⟩
              · refine steps_cons (by rintro b a w' ⟨ha, HI⟩ hb hon hoff; refine ⟨_, rfl, fun K hK => ?_⟩; have e4 := poff ha (t := 4) rfl rfl; exact value_ (v := .int .i64 k0) (by rfl) rfl (by clear HI ha; go_simp) (hK.out _ _ ⟨upk ha 0 hb rfl rfl, HI⟩)) ?_
                refine steps_cons (by rintro b a w' ⟨ha, HI⟩ hb hon hoff; refine ⟨_, rfl, fun K hK => ?_⟩; have e39 := pon ha 0 (hon 0 rfl) rfl rfl rfl; exact value_ (v := .int .i64 k1) (by rfl) rfl (by clear HI ha; go_simp; exact WA.out) (hK.out _ _ ⟨upk ha 1 hb rfl rfl, HI⟩)) ?_
                refine steps_cons (by rintro b a w' ⟨ha, HI⟩ hb hon hoff; refine ⟨_, rfl, fun K hK => ?_⟩; have e0 := poff ha (t := 0) rfl rfl; exact value_ (v := .pointer (some ⟨gh, 0, none⟩)) (by rfl) rfl (by clear HI ha; go_simp) (hK.out _ _ ⟨upk ha 2 hb rfl rfl, HI⟩)) ?_
                refine steps_cons (by rintro b a w' ⟨ha, HI⟩ hb hon hoff; refine ⟨_, rfl, fun K hK => ?_⟩; have e41 := pon ha 2 (hon 2 rfl) rfl rfl rfl; exact value_ (v := .pointer (some ⟨gh, 0, none⟩)) (by rfl) rfl (by clear HI ha; go_simp) (hK.out _ _ ⟨upk ha 3 hb rfl rfl, HI⟩)) ?_
                refine steps_cons (by rintro b a w' ⟨ha, HI⟩ hb hon hoff; refine ⟨_, rfl, fun K hK => ?_⟩; have e42 := pon ha 3 (hon 3 rfl) rfl rfl rfl; exact value_ (v := .pointer (some ⟨gh, 1, none⟩)) (by rfl) rfl (by clear HI ha; go_simp) (hK.out _ _ ⟨upk ha 4 hb rfl rfl, HI⟩)) ?_
                refine steps_cons (by rintro b a w' ⟨ha, HI⟩ hb hon hoff; refine ⟨_, rfl, fun K hK => ?_⟩; have e43 := pon ha 4 (hon 4 rfl) rfl rfl rfl; have k0_ := bc HI hgl hc1; have kz_ := bz HI hgl; exact value_ (v := .slice (some ⟨g, 0, none⟩) n cap) (by rfl) rfl (by clear HI ha; go_simp) (hK.out _ _ ⟨upk ha 5 hb rfl rfl, HI⟩)) ?_
                refine steps_cons (by rintro b a w' ⟨ha, HI⟩ hb hon hoff; refine ⟨_, rfl, fun K hK => ?_⟩; have e44 := pon ha 5 (hon 5 rfl) rfl rfl rfl; exact value_ (v := .int .i64 n) (by rfl) rfl (by clear HI ha; go_simp) (hK.out _ _ ⟨upk ha 6 hb rfl rfl, HI⟩)) ?_
                refine steps_cons (by rintro b a w' ⟨ha, HI⟩ hb hon hoff; refine ⟨_, rfl, fun K hK => ?_⟩; have e40 := pon ha 1 (hon 1 rfl) rfl rfl rfl; have e45 := pon ha 6 (hon 6 rfl) rfl rfl rfl; exact value_ (v := .bool true) (by rfl) rfl (by clear HI ha; go_simp) (hK.out _ _ ⟨upk ha 7 hb rfl rfl, HI⟩)) ?_
                refine steps_cons (by rintro b a w' ⟨ha, HI⟩ hb hon hoff; refine ⟨_, rfl, fun K hK => ?_⟩; have e46 := pon ha 7 (hon 7 rfl) rfl rfl rfl; exact value_ (v := .bool true) (by rfl) rfl (by clear HI ha; go_simp) (hK.out _ _ ⟨upk ha 8 hb rfl rfl, HI⟩)) ?_
                refine steps_cons (by rintro b a w' ⟨ha, HI⟩ hb hon hoff; refine ⟨_, rfl, fun K hK => ?_⟩; have e0 := poff ha (t := 0) rfl rfl; have e47 := pon ha 8 (hon 8 rfl) rfl rfl rfl; exact value_ (v := .pointer (some ⟨gh, 0, none⟩)) (wanted_on (t := 47) (u := true) rfl rfl rfl e47) rfl (by clear HI ha; go_simp) (hK.out _ _ ⟨upk ha 9 hb rfl rfl, HI⟩)) ?_
                refine steps_cons (by rintro b a w' ⟨ha, HI⟩ hb hon hoff; refine ⟨_, rfl, fun K hK => ?_⟩; have e0 := poff ha (t := 0) rfl rfl; have e47 := pon ha 8 (hon 8 rfl) rfl rfl rfl; exact value_ (v := .pointer (some ⟨gh, 0, none⟩)) (wanted_on (t := 47) (u := true) rfl rfl rfl e47) rfl (by clear HI ha; go_simp) (hK.out _ _ ⟨upk ha 10 hb rfl rfl, HI⟩)) ?_
                refine steps_cons (by rintro b a w' ⟨ha, HI⟩ hb hon hoff; refine ⟨_, rfl, fun K hK => ?_⟩; have e49 := pon ha 10 (hon 10 rfl) rfl rfl rfl; have e47 := pon ha 8 (hon 8 rfl) rfl rfl rfl; exact value_ (v := .pointer (some ⟨gh, 0, none⟩)) (wanted_on (t := 47) (u := true) rfl rfl rfl e47) rfl (by clear HI ha; go_simp) (hK.out _ _ ⟨upk ha 11 hb rfl rfl, HI⟩)) ?_
                refine steps_cons (by rintro b a w' ⟨ha, HI⟩ hb hon hoff; refine ⟨_, rfl, fun K hK => ?_⟩; have e50 := pon ha 11 (hon 11 rfl) rfl rfl rfl; have e47 := pon ha 8 (hon 8 rfl) rfl rfl rfl; exact value_ (v := .pointer (some ⟨gh, 1, none⟩)) (wanted_on (t := 47) (u := true) rfl rfl rfl e47) rfl (by clear HI ha; go_simp) (hK.out _ _ ⟨upk ha 12 hb rfl rfl, HI⟩)) ?_
                refine steps_cons (by rintro b a w' ⟨ha, HI⟩ hb hon hoff; refine ⟨_, rfl, fun K hK => ?_⟩; have e51 := pon ha 12 (hon 12 rfl) rfl rfl rfl; have e47 := pon ha 8 (hon 8 rfl) rfl rfl rfl; have k0_ := bc HI hgl hc1; have kz_ := bz HI hgl; exact value_ (v := .slice (some ⟨g, 0, none⟩) n cap) (wanted_on (t := 47) (u := true) rfl rfl rfl e47) rfl (by clear HI ha; go_simp) (hK.out _ _ ⟨upk ha 13 hb rfl rfl, HI⟩)) ?_
                refine steps_cons (by rintro b a w' ⟨ha, HI⟩ hb hon hoff; refine ⟨_, rfl, fun K hK => ?_⟩; have e4 := poff ha (t := 4) rfl rfl; have e47 := pon ha 8 (hon 8 rfl) rfl rfl rfl; exact value_ (v := .int .i64 k0) (wanted_on (t := 47) (u := true) rfl rfl rfl e47) rfl (by clear HI ha; go_simp) (hK.out _ _ ⟨upk ha 14 hb rfl rfl, HI⟩)) ?_
                refine steps_cons (by rintro b a w' ⟨ha, HI⟩ hb hon hoff; refine ⟨_, rfl, fun K hK => ?_⟩; have e53 := pon ha 14 (hon 14 rfl) rfl rfl rfl; have e47 := pon ha 8 (hon 8 rfl) rfl rfl rfl; exact value_ (v := .int .i64 k1) (wanted_on (t := 47) (u := true) rfl rfl rfl e47) rfl (by clear HI ha; go_simp; exact WA.out) (hK.out _ _ ⟨upk ha 15 hb rfl rfl, HI⟩)) ?_
                refine steps_cons (by rintro b a w' ⟨ha, HI⟩ hb hon hoff; refine ⟨_, rfl, fun K hK => ?_⟩; have e52 := pon ha 13 (hon 13 rfl) rfl rfl rfl; have e54 := pon ha 15 (hon 15 rfl) rfl rfl rfl; have e47 := pon ha 8 (hon 8 rfl) rfl rfl rfl; exact value_ (v := .pointer (some ⟨g, k1 * 5, none⟩)) (wanted_on (t := 47) (u := true) rfl rfl rfl e47) rfl (by clear HI ha; go_simp) (hK.out _ _ ⟨upk ha 16 hb rfl rfl, HI⟩)) ?_
                refine steps_cons (by rintro b a w' ⟨ha, HI⟩ hb hon hoff; refine ⟨_, rfl, fun K hK => ?_⟩; have e55 := pon ha 16 (hon 16 rfl) rfl rfl rfl; have e47 := pon ha 8 (hon 8 rfl) rfl rfl rfl; have k0_ := bc HI hgg x0; have k1_ := bc HI hgg x1; have k2_ := bc HI hgg x2; have k3_ := bc HI hgg x3; have k4_ := bc HI hgg x4; have kz_ := bz HI hgg; exact value_ (v := vl x) (wanted_on (t := 47) (u := true) rfl rfl rfl e47) rfl (by clear HI ha; go_simp) (hK.out _ _ ⟨upk ha 17 hb rfl rfl, HI⟩)) ?_
                refine steps_cons (by rintro b a w' ⟨ha, HI⟩ hb hon hoff; refine ⟨_, rfl, fun K hK => ?_⟩; have e0 := poff ha (t := 0) rfl rfl; have e47 := pon ha 8 (hon 8 rfl) rfl rfl rfl; exact value_ (v := .pointer (some ⟨gh, 0, none⟩)) (wanted_on (t := 47) (u := true) rfl rfl rfl e47) rfl (by clear HI ha; go_simp) (hK.out _ _ ⟨upk ha 18 hb rfl rfl, HI⟩)) ?_
                refine steps_cons (by rintro b a w' ⟨ha, HI⟩ hb hon hoff; refine ⟨_, rfl, fun K hK => ?_⟩; have e57 := pon ha 18 (hon 18 rfl) rfl rfl rfl; have e47 := pon ha 8 (hon 8 rfl) rfl rfl rfl; exact value_ (v := .pointer (some ⟨gh, 0, none⟩)) (wanted_on (t := 47) (u := true) rfl rfl rfl e47) rfl (by clear HI ha; go_simp) (hK.out _ _ ⟨upk ha 19 hb rfl rfl, HI⟩)) ?_
                refine steps_cons (by rintro b a w' ⟨ha, HI⟩ hb hon hoff; refine ⟨_, rfl, fun K hK => ?_⟩; have e58 := pon ha 19 (hon 19 rfl) rfl rfl rfl; have e47 := pon ha 8 (hon 8 rfl) rfl rfl rfl; exact value_ (v := .pointer (some ⟨gh, 1, none⟩)) (wanted_on (t := 47) (u := true) rfl rfl rfl e47) rfl (by clear HI ha; go_simp) (hK.out _ _ ⟨upk ha 20 hb rfl rfl, HI⟩)) ?_
                refine steps_cons (by rintro b a w' ⟨ha, HI⟩ hb hon hoff; refine ⟨_, rfl, fun K hK => ?_⟩; have e59 := pon ha 20 (hon 20 rfl) rfl rfl rfl; have e47 := pon ha 8 (hon 8 rfl) rfl rfl rfl; have k0_ := bc HI hgl hc1; have kz_ := bz HI hgl; exact value_ (v := .slice (some ⟨g, 0, none⟩) n cap) (wanted_on (t := 47) (u := true) rfl rfl rfl e47) rfl (by clear HI ha; go_simp) (hK.out _ _ ⟨upk ha 21 hb rfl rfl, HI⟩)) ?_
                refine steps_cons (by rintro b a w' ⟨ha, HI⟩ hb hon hoff; refine ⟨_, rfl, fun K hK => ?_⟩; have e4 := poff ha (t := 4) rfl rfl; have e47 := pon ha 8 (hon 8 rfl) rfl rfl rfl; exact value_ (v := .int .i64 k0) (wanted_on (t := 47) (u := true) rfl rfl rfl e47) rfl (by clear HI ha; go_simp) (hK.out _ _ ⟨upk ha 22 hb rfl rfl, HI⟩)) ?_
                refine steps_cons (by rintro b a w' ⟨ha, HI⟩ hb hon hoff; refine ⟨_, rfl, fun K hK => ?_⟩; have e60 := pon ha 21 (hon 21 rfl) rfl rfl rfl; have e61 := pon ha 22 (hon 22 rfl) rfl rfl rfl; have e47 := pon ha 8 (hon 8 rfl) rfl rfl rfl; exact value_ (v := .pointer (some ⟨g, k0 * 5, none⟩)) (wanted_on (t := 47) (u := true) rfl rfl rfl e47) rfl (by clear HI ha; go_simp) (hK.out _ _ ⟨upk ha 23 hb rfl rfl, HI⟩)) ?_
                refine steps_cons (by rintro b a w' ⟨ha, HI⟩ hb hon hoff; refine ⟨_, rfl, fun K hK => ?_⟩; have e62 := pon ha 23 (hon 23 rfl) rfl rfl rfl; have e47 := pon ha 8 (hon 8 rfl) rfl rfl rfl; have k0_ := bc HI hgg y0; have k1_ := bc HI hgg y1; have k2_ := bc HI hgg y2; have k3_ := bc HI hgg y3; have k4_ := bc HI hgg y4; have kz_ := bz HI hgg; exact value_ (v := vl y) (wanted_on (t := 47) (u := true) rfl rfl rfl e47) rfl (by clear HI ha; go_simp) (hK.out _ _ ⟨upk ha 24 hb rfl rfl, HI⟩)) ?_
                refine steps_cons (by rintro b a w' ⟨ha, HI⟩ hb hon hoff; refine ⟨_, rfl, fun K hK => ?_⟩; have e48 := pon ha 9 (hon 9 rfl) rfl rfl rfl; have e56 := pon ha 17 (hon 17 rfl) rfl rfl rfl; have e63 := pon ha 24 (hon 24 rfl) rfl rfl rfl; have e47 := pon ha 8 (hon 8 rfl) rfl rfl rfl; refine goes_ Try.func21 (by kernel_rfl) rfl #[.pointer (some ⟨gh, 0, none⟩), vl x, vl y] (wanted_on (t := 47) (u := true) rfl rfl rfl e47) rfl rfl (by simp [Act.eval, e48, e56, e63, e47]) ((CL _ (bc HI hgl hc0) (bz HI hgl)).mono ?_); rintro e_ w'' ⟨rfl, hbc⟩; exact ⟨_, rfl, hK.out _ _ ⟨upk ha 25 hb rfl rfl, below_then HI HI.size hbc⟩⟩) ?_
                refine steps_cons (by rintro b a w' ⟨ha, HI⟩ hb hon hoff; refine ⟨_, rfl, fun K hK => ?_⟩; have e47 := pon ha 8 (hon 8 rfl) rfl rfl rfl; have e64 := pon ha 25 (hon 25 rfl) rfl rfl rfl; exact value_ (v := .bool bb) (by rfl) rfl (by clear HI ha; go_simp) (hK.out _ _ ⟨upk ha 26 hb rfl rfl, HI⟩)) ?_
                exact steps_nil
              · rintro b a w' hall ⟨ha, HI⟩
                have hb0_ := hall 0 rfl; have hb1_ := hall 1 rfl; have hb2_ := hall 2 rfl; have hb3_ := hall 3 rfl; have hb4_ := hall 4 rfl; have hb5_ := hall 5 rfl; have hb6_ := hall 6 rfl; have hb7_ := hall 7 rfl
                have hb8_ := hall 8 rfl; have hb9_ := hall 9 rfl; have hb10_ := hall 10 rfl; have hb11_ := hall 11 rfl; have hb12_ := hall 12 rfl; have hb13_ := hall 13 rfl; have hb14_ := hall 14 rfl; have hb15_ := hall 15 rfl
                have hb16_ := hall 16 rfl; have hb17_ := hall 17 rfl; have hb18_ := hall 18 rfl; have hb19_ := hall 19 rfl; have hb20_ := hall 20 rfl; have hb21_ := hall 21 rfl; have hb22_ := hall 22 rfl; have hb23_ := hall 23 rfl
                have hb24_ := hall 24 rfl; have hb25_ := hall 25 rfl; have hb26_ := hall 26 rfl
                subst ha
                simp only [putSel, hb0_, hb1_, hb2_, hb3_, hb4_, hb5_, hb6_, hb7_, hb8_, hb9_, hb10_, hb11_, hb12_, hb13_, hb14_, hb15_, hb16_, hb17_, hb18_, hb19_, hb20_, hb21_, hb22_, hb23_, hb24_, hb25_, hb26_, if_true, Act.put, List.setIfInBounds_toArray, List.set_cons_zero, List.set_cons_succ]
                have hB := (below_then (below_drew (Below.refl _ wq)) (Nat.le_refl _) HI : Below wq.heap.size wq w')
                clear hall HI hb0_ hb1_ hb2_ hb3_ hb4_ hb5_ hb6_ hb7_ hb8_ hb9_ hb10_ hb11_ hb12_ hb13_ hb14_ hb15_ hb16_ hb17_ hb18_ hb19_ hb20_ hb21_ hb22_ hb23_ hb24_ hb25_ hb26_
                refine ‹∀ (a' : Act) (w' : World), Met _ a' w' → _› _ _ ?_
                go_meet
                case rel => exact ⟨rfl, ⟨hB⟩⟩
            · have h1i : ¬ (k1 : Int) < n := by omega
              have HB2 : Side (bb = false) := ⟨by rw [HBB.out, decide_eq_false h1]; rfl⟩
              obtain rfl := HB2.out
              refine start_ (n := 27) (S := fun w' => True) (ds := []) #[false, false, false, false, false, false, false, false, false, false, false, false, false, false, false, false, false, false, false, false, false, false, false, false, false, false, false] (by kernel_rfl) rfl rfl trivial (fun _ => ?_)
              refine inv_at (B := [0, 1, 0, 4, 12, 28, 60, 127, 255, 511, 511, 1535, 3583, 7679, 511, 16895, 65023, 130559, 511, 262655, 786943, 1835519, 511, 8126975, 16515583, 33554431, 67108863]) [0, 1, 2, 3, 4, 5, 6, 7, 8, 9, 10, 11, 12, 13, 14, 15, 16, 17, 18, 19, 20, 21, 22, 23, 24, 25, 26] (fun a0_ b a w' => a = putSel a0_ b [(0, 39, .int .i64 k0), (1, 40, .int .i64 k1), (2, 41, .pointer (some ⟨gh, 0, none⟩)), (3, 42, .pointer (some ⟨gh, 0, none⟩)), (4, 43, .pointer (some ⟨gh, 1, none⟩)), (5, 44, .slice (some ⟨g, 0, none⟩) n cap), (6, 45, .int .i64 n), (7, 46, .bool false), (8, 47, .bool false), (9, 48, undef), (10, 49, undef), (11, 50, undef), (12, 51, undef), (13, 52, undef), (14, 53, undef), (15, 54, undef), (16, 55, undef), (17, 56, undef), (18, 57, undef), (19, 58, undef), (20, 59, undef), (21, 60, undef), (22, 61, undef), (23, 62, undef), (24, 63, undef), (25, 64, undef), (26, 65, .bool false)] ∧ Below wq.drew.heap.size wq.drew w') rfl (by kernel_rfl) (by kernel_rfl) (by kernel_rfl) ?_ ?_ ?_
              · exact ⟨by simp only [putSel, Bool.false_eq_true, if_false], Below.refl _ _⟩
              · refine steps_cons (by rintro b a w' ⟨ha, HI⟩ hb hon hoff; refine ⟨_, rfl, fun K hK => ?_⟩; have e4 := poff ha (t := 4) rfl rfl; exact value_ (v := .int .i64 k0) (by rfl) rfl (by clear HI ha; go_simp) (hK.out _ _ ⟨upk ha 0 hb rfl rfl, HI⟩)) ?_
                refine steps_cons (by rintro b a w' ⟨ha, HI⟩ hb hon hoff; refine ⟨_, rfl, fun K hK => ?_⟩; have e39 := pon ha 0 (hon 0 rfl) rfl rfl rfl; exact value_ (v := .int .i64 k1) (by rfl) rfl (by clear HI ha; go_simp; exact WA.out) (hK.out _ _ ⟨upk ha 1 hb rfl rfl, HI⟩)) ?_
                refine steps_cons (by rintro b a w' ⟨ha, HI⟩ hb hon hoff; refine ⟨_, rfl, fun K hK => ?_⟩; have e0 := poff ha (t := 0) rfl rfl; exact value_ (v := .pointer (some ⟨gh, 0, none⟩)) (by rfl) rfl (by clear HI ha; go_simp) (hK.out _ _ ⟨upk ha 2 hb rfl rfl, HI⟩)) ?_
                refine steps_cons (by rintro b a w' ⟨ha, HI⟩ hb hon hoff; refine ⟨_, rfl, fun K hK => ?_⟩; have e41 := pon ha 2 (hon 2 rfl) rfl rfl rfl; exact value_ (v := .pointer (some ⟨gh, 0, none⟩)) (by rfl) rfl (by clear HI ha; go_simp) (hK.out _ _ ⟨upk ha 3 hb rfl rfl, HI⟩)) ?_
                refine steps_cons (by rintro b a w' ⟨ha, HI⟩ hb hon hoff; refine ⟨_, rfl, fun K hK => ?_⟩; have e42 := pon ha 3 (hon 3 rfl) rfl rfl rfl; exact value_ (v := .pointer (some ⟨gh, 1, none⟩)) (by rfl) rfl (by clear HI ha; go_simp) (hK.out _ _ ⟨upk ha 4 hb rfl rfl, HI⟩)) ?_
                refine steps_cons (by rintro b a w' ⟨ha, HI⟩ hb hon hoff; refine ⟨_, rfl, fun K hK => ?_⟩; have e43 := pon ha 4 (hon 4 rfl) rfl rfl rfl; have k0_ := bc HI hgl hc1; have kz_ := bz HI hgl; exact value_ (v := .slice (some ⟨g, 0, none⟩) n cap) (by rfl) rfl (by clear HI ha; go_simp) (hK.out _ _ ⟨upk ha 5 hb rfl rfl, HI⟩)) ?_
                refine steps_cons (by rintro b a w' ⟨ha, HI⟩ hb hon hoff; refine ⟨_, rfl, fun K hK => ?_⟩; have e44 := pon ha 5 (hon 5 rfl) rfl rfl rfl; exact value_ (v := .int .i64 n) (by rfl) rfl (by clear HI ha; go_simp) (hK.out _ _ ⟨upk ha 6 hb rfl rfl, HI⟩)) ?_
                refine steps_cons (by rintro b a w' ⟨ha, HI⟩ hb hon hoff; refine ⟨_, rfl, fun K hK => ?_⟩; have e40 := pon ha 1 (hon 1 rfl) rfl rfl rfl; have e45 := pon ha 6 (hon 6 rfl) rfl rfl rfl; exact value_ (v := .bool false) (by rfl) rfl (by clear HI ha; go_simp) (hK.out _ _ ⟨upk ha 7 hb rfl rfl, HI⟩)) ?_
                refine steps_cons (by rintro b a w' ⟨ha, HI⟩ hb hon hoff; refine ⟨_, rfl, fun K hK => ?_⟩; have e46 := pon ha 7 (hon 7 rfl) rfl rfl rfl; exact value_ (v := .bool false) (by rfl) rfl (by clear HI ha; go_simp) (hK.out _ _ ⟨upk ha 8 hb rfl rfl, HI⟩)) ?_
                refine steps_cons (by rintro b a w' ⟨ha, HI⟩ hb hon hoff; refine ⟨_, rfl, fun K hK => ?_⟩; have e0 := poff ha (t := 0) rfl rfl; have e47 := pon ha 8 (hon 8 rfl) rfl rfl rfl; exact off_ (wanted_off (t := 47) (u := true) rfl rfl rfl e47) (hK.out _ _ ⟨upk ha 9 hb rfl rfl, HI⟩)) ?_
                refine steps_cons (by rintro b a w' ⟨ha, HI⟩ hb hon hoff; refine ⟨_, rfl, fun K hK => ?_⟩; have e0 := poff ha (t := 0) rfl rfl; have e47 := pon ha 8 (hon 8 rfl) rfl rfl rfl; exact off_ (wanted_off (t := 47) (u := true) rfl rfl rfl e47) (hK.out _ _ ⟨upk ha 10 hb rfl rfl, HI⟩)) ?_
                refine steps_cons (by rintro b a w' ⟨ha, HI⟩ hb hon hoff; refine ⟨_, rfl, fun K hK => ?_⟩; have e49 := pon ha 10 (hon 10 rfl) rfl rfl rfl; have e47 := pon ha 8 (hon 8 rfl) rfl rfl rfl; exact off_ (wanted_off (t := 47) (u := true) rfl rfl rfl e47) (hK.out _ _ ⟨upk ha 11 hb rfl rfl, HI⟩)) ?_
                refine steps_cons (by rintro b a w' ⟨ha, HI⟩ hb hon hoff; refine ⟨_, rfl, fun K hK => ?_⟩; have e50 := pon ha 11 (hon 11 rfl) rfl rfl rfl; have e47 := pon ha 8 (hon 8 rfl) rfl rfl rfl; exact off_ (wanted_off (t := 47) (u := true) rfl rfl rfl e47) (hK.out _ _ ⟨upk ha 12 hb rfl rfl, HI⟩)) ?_
                refine steps_cons (by rintro b a w' ⟨ha, HI⟩ hb hon hoff; refine ⟨_, rfl, fun K hK => ?_⟩; have e51 := pon ha 12 (hon 12 rfl) rfl rfl rfl; have e47 := pon ha 8 (hon 8 rfl) rfl rfl rfl; exact off_ (wanted_off (t := 47) (u := true) rfl rfl rfl e47) (hK.out _ _ ⟨upk ha 13 hb rfl rfl, HI⟩)) ?_
                refine steps_cons (by rintro b a w' ⟨ha, HI⟩ hb hon hoff; refine ⟨_, rfl, fun K hK => ?_⟩; have e4 := poff ha (t := 4) rfl rfl; have e47 := pon ha 8 (hon 8 rfl) rfl rfl rfl; exact off_ (wanted_off (t := 47) (u := true) rfl rfl rfl e47) (hK.out _ _ ⟨upk ha 14 hb rfl rfl, HI⟩)) ?_
                refine steps_cons (by rintro b a w' ⟨ha, HI⟩ hb hon hoff; refine ⟨_, rfl, fun K hK => ?_⟩; have e53 := pon ha 14 (hon 14 rfl) rfl rfl rfl; have e47 := pon ha 8 (hon 8 rfl) rfl rfl rfl; exact off_ (wanted_off (t := 47) (u := true) rfl rfl rfl e47) (hK.out _ _ ⟨upk ha 15 hb rfl rfl, HI⟩)) ?_
                refine steps_cons (by rintro b a w' ⟨ha, HI⟩ hb hon hoff; refine ⟨_, rfl, fun K hK => ?_⟩; have e52 := pon ha 13 (hon 13 rfl) rfl rfl rfl; have e54 := pon ha 15 (hon 15 rfl) rfl rfl rfl; have e47 := pon ha 8 (hon 8 rfl) rfl rfl rfl; exact off_ (wanted_off (t := 47) (u := true) rfl rfl rfl e47) (hK.out _ _ ⟨upk ha 16 hb rfl rfl, HI⟩)) ?_
                refine steps_cons (by rintro b a w' ⟨ha, HI⟩ hb hon hoff; refine ⟨_, rfl, fun K hK => ?_⟩; have e55 := pon ha 16 (hon 16 rfl) rfl rfl rfl; have e47 := pon ha 8 (hon 8 rfl) rfl rfl rfl; exact off_ (wanted_off (t := 47) (u := true) rfl rfl rfl e47) (hK.out _ _ ⟨upk ha 17 hb rfl rfl, HI⟩)) ?_
                refine steps_cons (by rintro b a w' ⟨ha, HI⟩ hb hon hoff; refine ⟨_, rfl, fun K hK => ?_⟩; have e0 := poff ha (t := 0) rfl rfl; have e47 := pon ha 8 (hon 8 rfl) rfl rfl rfl; exact off_ (wanted_off (t := 47) (u := true) rfl rfl rfl e47) (hK.out _ _ ⟨upk ha 18 hb rfl rfl, HI⟩)) ?_
                refine steps_cons (by rintro b a w' ⟨ha, HI⟩ hb hon hoff; refine ⟨_, rfl, fun K hK => ?_⟩; have e57 := pon ha 18 (hon 18 rfl) rfl rfl rfl; have e47 := pon ha 8 (hon 8 rfl) rfl rfl rfl; exact off_ (wanted_off (t := 47) (u := true) rfl rfl rfl e47) (hK.out _ _ ⟨upk ha 19 hb rfl rfl, HI⟩)) ?_
                refine steps_cons (by rintro b a w' ⟨ha, HI⟩ hb hon hoff; refine ⟨_, rfl, fun K hK => ?_⟩; have e58 := pon ha 19 (hon 19 rfl) rfl rfl rfl; have e47 := pon ha 8 (hon 8 rfl) rfl rfl rfl; exact off_ (wanted_off (t := 47) (u := true) rfl rfl rfl e47) (hK.out _ _ ⟨upk ha 20 hb rfl rfl, HI⟩)) ?_
                refine steps_cons (by rintro b a w' ⟨ha, HI⟩ hb hon hoff; refine ⟨_, rfl, fun K hK => ?_⟩; have e59 := pon ha 20 (hon 20 rfl) rfl rfl rfl; have e47 := pon ha 8 (hon 8 rfl) rfl rfl rfl; exact off_ (wanted_off (t := 47) (u := true) rfl rfl rfl e47) (hK.out _ _ ⟨upk ha 21 hb rfl rfl, HI⟩)) ?_
                refine steps_cons (by rintro b a w' ⟨ha, HI⟩ hb hon hoff; refine ⟨_, rfl, fun K hK => ?_⟩; have e4 := poff ha (t := 4) rfl rfl; have e47 := pon ha 8 (hon 8 rfl) rfl rfl rfl; exact off_ (wanted_off (t := 47) (u := true) rfl rfl rfl e47) (hK.out _ _ ⟨upk ha 22 hb rfl rfl, HI⟩)) ?_
                refine steps_cons (by rintro b a w' ⟨ha, HI⟩ hb hon hoff; refine ⟨_, rfl, fun K hK => ?_⟩; have e60 := pon ha 21 (hon 21 rfl) rfl rfl rfl; have e61 := pon ha 22 (hon 22 rfl) rfl rfl rfl; have e47 := pon ha 8 (hon 8 rfl) rfl rfl rfl; exact off_ (wanted_off (t := 47) (u := true) rfl rfl rfl e47) (hK.out _ _ ⟨upk ha 23 hb rfl rfl, HI⟩)) ?_
                refine steps_cons (by rintro b a w' ⟨ha, HI⟩ hb hon hoff; refine ⟨_, rfl, fun K hK => ?_⟩; have e62 := pon ha 23 (hon 23 rfl) rfl rfl rfl; have e47 := pon ha 8 (hon 8 rfl) rfl rfl rfl; exact off_ (wanted_off (t := 47) (u := true) rfl rfl rfl e47) (hK.out _ _ ⟨upk ha 24 hb rfl rfl, HI⟩)) ?_
                refine steps_cons (by rintro b a w' ⟨ha, HI⟩ hb hon hoff; refine ⟨_, rfl, fun K hK => ?_⟩; have e48 := pon ha 9 (hon 9 rfl) rfl rfl rfl; have e56 := pon ha 17 (hon 17 rfl) rfl rfl rfl; have e63 := pon ha 24 (hon 24 rfl) rfl rfl rfl; have e47 := pon ha 8 (hon 8 rfl) rfl rfl rfl; exact off_ (wanted_off (t := 47) (u := true) rfl rfl rfl e47) (hK.out _ _ ⟨upk ha 25 hb rfl rfl, HI⟩)) ?_
                refine steps_cons (by rintro b a w' ⟨ha, HI⟩ hb hon hoff; refine ⟨_, rfl, fun K hK => ?_⟩; have e47 := pon ha 8 (hon 8 rfl) rfl rfl rfl; have e64 := pon ha 25 (hon 25 rfl) rfl rfl rfl; exact value_ (v := .bool false) (by rfl) rfl (by clear HI ha; go_simp) (hK.out _ _ ⟨upk ha 26 hb rfl rfl, HI⟩)) ?_
                exact steps_nil
              · rintro b a w' hall ⟨ha, HI⟩
                have hb0_ := hall 0 rfl; have hb1_ := hall 1 rfl; have hb2_ := hall 2 rfl; have hb3_ := hall 3 rfl; have hb4_ := hall 4 rfl; have hb5_ := hall 5 rfl; have hb6_ := hall 6 rfl; have hb7_ := hall 7 rfl
                have hb8_ := hall 8 rfl; have hb9_ := hall 9 rfl; have hb10_ := hall 10 rfl; have hb11_ := hall 11 rfl; have hb12_ := hall 12 rfl; have hb13_ := hall 13 rfl; have hb14_ := hall 14 rfl; have hb15_ := hall 15 rfl
                have hb16_ := hall 16 rfl; have hb17_ := hall 17 rfl; have hb18_ := hall 18 rfl; have hb19_ := hall 19 rfl; have hb20_ := hall 20 rfl; have hb21_ := hall 21 rfl; have hb22_ := hall 22 rfl; have hb23_ := hall 23 rfl
                have hb24_ := hall 24 rfl; have hb25_ := hall 25 rfl; have hb26_ := hall 26 rfl
                subst ha
                simp only [putSel, hb0_, hb1_, hb2_, hb3_, hb4_, hb5_, hb6_, hb7_, hb8_, hb9_, hb10_, hb11_, hb12_, hb13_, hb14_, hb15_, hb16_, hb17_, hb18_, hb19_, hb20_, hb21_, hb22_, hb23_, hb24_, hb25_, hb26_, if_true, Act.put, List.setIfInBounds_toArray, List.set_cons_zero, List.set_cons_succ]
                have hB := (below_then (below_drew (Below.refl _ wq)) (Nat.le_refl _) HI : Below wq.heap.size wq w')
                clear hall HI hb0_ hb1_ hb2_ hb3_ hb4_ hb5_ hb6_ hb7_ hb8_ hb9_ hb10_ hb11_ hb12_ hb13_ hb14_ hb15_ hb16_ hb17_ hb18_ hb19_ hb20_ hb21_ hb22_ hb23_ hb24_ hb25_ hb26_
                refine ‹∀ (a' : Act) (w' : World), Met _ a' w' → _› _ _ ?_
                go_meet
                case rel => exact ⟨rfl, ⟨hB⟩⟩
          case rest =>
            obtain ⟨rfl, HB⟩ := hcut
            have HM2 := Side.mk (HM.out.below HB.out)
            clear HM HB hc0 hc1 hgl hgg
            go_step
            go_cut [4] (fun v we => v = .int .i64 (c : Int) ∧ we = wc)
            case first =>
              have hk1i : (k0 : Int) + 1 ≤ 9223372036854775807 := by have := K0.out; omega
              have EK : (k0 : Int) + 1 = (k1 : Int) := by rw [K1.out]; omega
              cases bb
              · have HC2 : Side (c = k0) := ⟨HC.out⟩
                obtain rfl := HC2.out
                go_wp2
                go_meet
                case rel => exact ⟨rfl, rfl⟩
              · have HC2 : Side (c = k1) := ⟨HC.out⟩
                obtain rfl := HC2.out
                go_wp2
                go_meet
                case rel => exact ⟨by first | rfl | rw [EK], rfl⟩
            case rest =>
              obtain ⟨rfl, rfl⟩ := hcut
              go_step
              have hc0 := HM2.out.hs.c0
              have hc1 := HM2.out.hs.c1
              have hgl := HM2.out.hs.lt
              have hgg := HM2.out.gl
              have hcc : c = k0 ∨ (c = k1 ∧ k1 < n) := by
                have h1 := HC.out
                have h2 := HBB.out
                cases bb
                · exact .inl h1
                · refine .inr ⟨h1, ?_⟩
                  rcases Nat.lt_or_ge k1 n with h | h
                  · exact h
                  · rw [decide_eq_false (by omega)] at h2; cases h2
              have hmin : ∀ q, 0 < q → q < n → (q - 1) / 2 = d → lt kind (at_ l2 q) (at_ l2 c) = false := by
                intro q hq hqn hqd
                have h1 := HC.out
                have h2 := HBB.out
                have h3 := K0.out
                have h4 := K1.out
                have hq2 : q = k0 ∨ q = k1 := by omega
                cases bb
                · obtain rfl : c = k0 := h1
                  rcases hq2 with rfl | rfl
                  · exact lt_self _ _
                  · rw [decide_eq_true hqn, Bool.true_and] at h2; exact h2.symm
                · obtain rfl : c = k1 := h1
                  rcases hq2 with rfl | rfl
                  · rcases hcc with h | ⟨_, h⟩
                    · omega
                    · rw [decide_eq_true h, Bool.true_and] at h2; exact lt_asymm h2.symm
                  · exact lt_self _ _
              have hcd : (c - 1) / 2 = d ∧ 0 < c ∧ d < c := by
                have h3 := K0.out
                have h4 := K1.out
                rcases hcc with h | ⟨h, _⟩ <;> omega
              have HMin := Side.mk hmin
              have HCD := Side.mk hcd
              have HCC := Side.mk hcc
              have hcp : (0 : Int) ≤ c := by omega
              clear hmin hcd hcc HC HBB E0 WA
              go_upto_region 6 with (fail)
              by_cases hcn : c < n
              · have hci : ¬ (n : Int) ≤ c := by omega
                have hci2 : (c : Int) < n := by omega
                obtain ⟨b2, hb2⟩ : ∃ b2, lt kind (at_ l2 c) (at_ l2 d) = b2 := ⟨_, rfl⟩
                have HB2 := Side.mk hb2
                obtain ⟨x0, x1, x2, x3, x4⟩ := HM2.out.item c hcn
                obtain ⟨y0, y1, y2, y3, y4⟩ := HM2.out.item d hd
                have CL := fun w' (hc : w'.cell? ⟨gh, 0, none⟩ = some (.int .i64 kind)) hg => less_at w' gh kind (at_ l2 c) (at_ l2 d) hc hg
                rw [hb2] at CL
                clear hb2
                generalize at_ l2 c = x at x0 x1 x2 x3 x4 CL
                generalize at_ l2 d = y at y0 y1 y2 y3 y4 CL
                refine start_ (n := 26) (S := fun w' => True) (ds := []) #[false, false, false, false, false, false, false, false, false, false, false, false, false, false, false, false, false, false, false, false, false, false, false, false, false, false] (by kernel_rfl) rfl rfl trivial (fun _ => ?_)
                refine inv_at (B := [0, 0, 2, 6, 14, 30, 63, 127, 255, 255, 767, 1791, 3839, 255, 16127, 32511, 255, 65791, 196863, 459007, 255, 2031871, 4129023, 8388607, 16777215, 33554431]) [0, 1, 2, 3, 4, 5, 6, 7, 8, 9, 10, 11, 12, 13, 14, 15, 16, 17, 18, 19, 20, 21, 22, 23, 24, 25] (fun a0_ b a w' => a = putSel a0_ b [(0, 68, .int .i64 c), (1, 69, .pointer (some ⟨gh, 0, none⟩)), (2, 70, .pointer (some ⟨gh, 0, none⟩)), (3, 71, .pointer (some ⟨gh, 1, none⟩)), (4, 72, .slice (some ⟨g, 0, none⟩) n cap), (5, 73, .int .i64 n), (6, 74, .bool false), (7, 75, .bool false), (8, 76, .pointer (some ⟨gh, 0, none⟩)), (9, 77, .pointer (some ⟨gh, 0, none⟩)), (10, 78, .pointer (some ⟨gh, 0, none⟩)), (11, 79, .pointer (some ⟨gh, 1, none⟩)), (12, 80, .slice (some ⟨g, 0, none⟩) n cap), (13, 81, .int .i64 c), (14, 82, .pointer (some ⟨g, c * 5, none⟩)), (15, 83, vl x), (16, 84, .pointer (some ⟨gh, 0, none⟩)), (17, 85, .pointer (some ⟨gh, 0, none⟩)), (18, 86, .pointer (some ⟨gh, 1, none⟩)), (19, 87, .slice (some ⟨g, 0, none⟩) n cap), (20, 88, .int .i64 d), (21, 89, .pointer (some ⟨g, d * 5, none⟩)), (22, 90, vl y), (23, 91, .bool b2), (24, 92, .bool (!b2)), (25, 93, .bool (!b2))] ∧ Below wc.drew.heap.size wc.drew w') rfl (by kernel_rfl) (by kernel_rfl) (by kernel_rfl) ?_ ?_ ?_
                · exact ⟨by simp only [putSel, Bool.false_eq_true, if_false], Below.refl _ _⟩
                · refine steps_cons (by rintro b a w' ⟨ha, HI⟩ hb hon hoff; refine ⟨_, rfl, fun K hK => ?_⟩; have e4 := poff ha (t := 4) rfl rfl; exact value_ (v := .int .i64 c) (by rfl) rfl (by clear HI ha; go_simp) (hK.out _ _ ⟨upk ha 0 hb rfl rfl, HI⟩)) ?_
                  refine steps_cons (by rintro b a w' ⟨ha, HI⟩ hb hon hoff; refine ⟨_, rfl, fun K hK => ?_⟩; have e0 := poff ha (t := 0) rfl rfl; exact value_ (v := .pointer (some ⟨gh, 0, none⟩)) (by rfl) rfl (by clear HI ha; go_simp) (hK.out _ _ ⟨upk ha 1 hb rfl rfl, HI⟩)) ?_
                  refine steps_cons (by rintro b a w' ⟨ha, HI⟩ hb hon hoff; refine ⟨_, rfl, fun K hK => ?_⟩; have e69 := pon ha 1 (hon 1 rfl) rfl rfl rfl; exact value_ (v := .pointer (some ⟨gh, 0, none⟩)) (by rfl) rfl (by clear HI ha; go_simp) (hK.out _ _ ⟨upk ha 2 hb rfl rfl, HI⟩)) ?_
                  refine steps_cons (by rintro b a w' ⟨ha, HI⟩ hb hon hoff; refine ⟨_, rfl, fun K hK => ?_⟩; have e70 := pon ha 2 (hon 2 rfl) rfl rfl rfl; exact value_ (v := .pointer (some ⟨gh, 1, none⟩)) (by rfl) rfl (by clear HI ha; go_simp) (hK.out _ _ ⟨upk ha 3 hb rfl rfl, HI⟩)) ?_
                  refine steps_cons (by rintro b a w' ⟨ha, HI⟩ hb hon hoff; refine ⟨_, rfl, fun K hK => ?_⟩; have e71 := pon ha 3 (hon 3 rfl) rfl rfl rfl; have k0_ := bc HI hgl hc1; have kz_ := bz HI hgl; exact value_ (v := .slice (some ⟨g, 0, none⟩) n cap) (by rfl) rfl (by clear HI ha; go_simp) (hK.out _ _ ⟨upk ha 4 hb rfl rfl, HI⟩)) ?_
                  refine steps_cons (by rintro b a w' ⟨ha, HI⟩ hb hon hoff; refine ⟨_, rfl, fun K hK => ?_⟩; have e72 := pon ha 4 (hon 4 rfl) rfl rfl rfl; exact value_ (v := .int .i64 n) (by rfl) rfl (by clear HI ha; go_simp) (hK.out _ _ ⟨upk ha 5 hb rfl rfl, HI⟩)) ?_
                  refine steps_cons (by rintro b a w' ⟨ha, HI⟩ hb hon hoff; refine ⟨_, rfl, fun K hK => ?_⟩; have e68 := pon ha 0 (hon 0 rfl) rfl rfl rfl; have e73 := pon ha 5 (hon 5 rfl) rfl rfl rfl; exact value_ (v := .bool false) (by rfl) rfl (by clear HI ha; go_simp) (hK.out _ _ ⟨upk ha 6 hb rfl rfl, HI⟩)) ?_
                  refine steps_cons (by rintro b a w' ⟨ha, HI⟩ hb hon hoff; refine ⟨_, rfl, fun K hK => ?_⟩; have e74 := pon ha 6 (hon 6 rfl) rfl rfl rfl; exact value_ (v := .bool false) (by rfl) rfl (by clear HI ha; go_simp) (hK.out _ _ ⟨upk ha 7 hb rfl rfl, HI⟩)) ?_
                  refine steps_cons (by rintro b a w' ⟨ha, HI⟩ hb hon hoff; refine ⟨_, rfl, fun K hK => ?_⟩; have e0 := poff ha (t := 0) rfl rfl; have e75 := pon ha 7 (hon 7 rfl) rfl rfl rfl; exact value_ (v := .pointer (some ⟨gh, 0, none⟩)) (wanted_on (t := 75) (u := false) rfl rfl rfl e75) rfl (by clear HI ha; go_simp) (hK.out _ _ ⟨upk ha 8 hb rfl rfl, HI⟩)) ?_
                  refine steps_cons (by rintro b a w' ⟨ha, HI⟩ hb hon hoff; refine ⟨_, rfl, fun K hK => ?_⟩; have e0 := poff ha (t := 0) rfl rfl; have e75 := pon ha 7 (hon 7 rfl) rfl rfl rfl; exact value_ (v := .pointer (some ⟨gh, 0, none⟩)) (wanted_on (t := 75) (u := false) rfl rfl rfl e75) rfl (by clear HI ha; go_simp) (hK.out _ _ ⟨upk ha 9 hb rfl rfl, HI⟩)) ?_
                  refine steps_cons (by rintro b a w' ⟨ha, HI⟩ hb hon hoff; refine ⟨_, rfl, fun K hK => ?_⟩; have e77 := pon ha 9 (hon 9 rfl) rfl rfl rfl; have e75 := pon ha 7 (hon 7 rfl) rfl rfl rfl; exact value_ (v := .pointer (some ⟨gh, 0, none⟩)) (wanted_on (t := 75) (u := false) rfl rfl rfl e75) rfl (by clear HI ha; go_simp) (hK.out _ _ ⟨upk ha 10 hb rfl rfl, HI⟩)) ?_
                  refine steps_cons (by rintro b a w' ⟨ha, HI⟩ hb hon hoff; refine ⟨_, rfl, fun K hK => ?_⟩; have e78 := pon ha 10 (hon 10 rfl) rfl rfl rfl; have e75 := pon ha 7 (hon 7 rfl) rfl rfl rfl; exact value_ (v := .pointer (some ⟨gh, 1, none⟩)) (wanted_on (t := 75) (u := false) rfl rfl rfl e75) rfl (by clear HI ha; go_simp) (hK.out _ _ ⟨upk ha 11 hb rfl rfl, HI⟩)) ?_
                  refine steps_cons (by rintro b a w' ⟨ha, HI⟩ hb hon hoff; refine ⟨_, rfl, fun K hK => ?_⟩; have e79 := pon ha 11 (hon 11 rfl) rfl rfl rfl; have e75 := pon ha 7 (hon 7 rfl) rfl rfl rfl; have k0_ := bc HI hgl hc1; have kz_ := bz HI hgl; exact value_ (v := .slice (some ⟨g, 0, none⟩) n cap) (wanted_on (t := 75) (u := false) rfl rfl rfl e75) rfl (by clear HI ha; go_simp) (hK.out _ _ ⟨upk ha 12 hb rfl rfl, HI⟩)) ?_
                  refine steps_cons (by rintro b a w' ⟨ha, HI⟩ hb hon hoff; refine ⟨_, rfl, fun K hK => ?_⟩; have e4 := poff ha (t := 4) rfl rfl; have e75 := pon ha 7 (hon 7 rfl) rfl rfl rfl; exact value_ (v := .int .i64 c) (wanted_on (t := 75) (u := false) rfl rfl rfl e75) rfl (by clear HI ha; go_simp) (hK.out _ _ ⟨upk ha 13 hb rfl rfl, HI⟩)) ?_
                  refine steps_cons (by rintro b a w' ⟨ha, HI⟩ hb hon hoff; refine ⟨_, rfl, fun K hK => ?_⟩; have e80 := pon ha 12 (hon 12 rfl) rfl rfl rfl; have e81 := pon ha 13 (hon 13 rfl) rfl rfl rfl; have e75 := pon ha 7 (hon 7 rfl) rfl rfl rfl; exact value_ (v := .pointer (some ⟨g, c * 5, none⟩)) (wanted_on (t := 75) (u := false) rfl rfl rfl e75) rfl (by clear HI ha; go_simp) (hK.out _ _ ⟨upk ha 14 hb rfl rfl, HI⟩)) ?_
                  refine steps_cons (by rintro b a w' ⟨ha, HI⟩ hb hon hoff; refine ⟨_, rfl, fun K hK => ?_⟩; have e82 := pon ha 14 (hon 14 rfl) rfl rfl rfl; have e75 := pon ha 7 (hon 7 rfl) rfl rfl rfl; have k0_ := bc HI hgg x0; have k1_ := bc HI hgg x1; have k2_ := bc HI hgg x2; have k3_ := bc HI hgg x3; have k4_ := bc HI hgg x4; have kz_ := bz HI hgg; exact value_ (v := vl x) (wanted_on (t := 75) (u := false) rfl rfl rfl e75) rfl (by clear HI ha; go_simp) (hK.out _ _ ⟨upk ha 15 hb rfl rfl, HI⟩)) ?_
                  refine steps_cons (by rintro b a w' ⟨ha, HI⟩ hb hon hoff; refine ⟨_, rfl, fun K hK => ?_⟩; have e0 := poff ha (t := 0) rfl rfl; have e75 := pon ha 7 (hon 7 rfl) rfl rfl rfl; exact value_ (v := .pointer (some ⟨gh, 0, none⟩)) (wanted_on (t := 75) (u := false) rfl rfl rfl e75) rfl (by clear HI ha; go_simp) (hK.out _ _ ⟨upk ha 16 hb rfl rfl, HI⟩)) ?_
                  refine steps_cons (by rintro b a w' ⟨ha, HI⟩ hb hon hoff; refine ⟨_, rfl, fun K hK => ?_⟩; have e84 := pon ha 16 (hon 16 rfl) rfl rfl rfl; have e75 := pon ha 7 (hon 7 rfl) rfl rfl rfl; exact value_ (v := .pointer (some ⟨gh, 0, none⟩)) (wanted_on (t := 75) (u := false) rfl rfl rfl e75) rfl (by clear HI ha; go_simp) (hK.out _ _ ⟨upk ha 17 hb rfl rfl, HI⟩)) ?_
                  refine steps_cons (by rintro b a w' ⟨ha, HI⟩ hb hon hoff; refine ⟨_, rfl, fun K hK => ?_⟩; have e85 := pon ha 17 (hon 17 rfl) rfl rfl rfl; have e75 := pon ha 7 (hon 7 rfl) rfl rfl rfl; exact value_ (v := .pointer (some ⟨gh, 1, none⟩)) (wanted_on (t := 75) (u := false) rfl rfl rfl e75) rfl (by clear HI ha; go_simp) (hK.out _ _ ⟨upk ha 18 hb rfl rfl, HI⟩)) ?_
                  refine steps_cons (by rintro b a w' ⟨ha, HI⟩ hb hon hoff; refine ⟨_, rfl, fun K hK => ?_⟩; have e86 := pon ha 18 (hon 18 rfl) rfl rfl rfl; have e75 := pon ha 7 (hon 7 rfl) rfl rfl rfl; have k0_ := bc HI hgl hc1; have kz_ := bz HI hgl; exact value_ (v := .slice (some ⟨g, 0, none⟩) n cap) (wanted_on (t := 75) (u := false) rfl rfl rfl e75) rfl (by clear HI ha; go_simp) (hK.out _ _ ⟨upk ha 19 hb rfl rfl, HI⟩)) ?_
                  refine steps_cons (by rintro b a w' ⟨ha, HI⟩ hb hon hoff; refine ⟨_, rfl, fun K hK => ?_⟩; have e1 := poff ha (t := 1) rfl rfl; have e75 := pon ha 7 (hon 7 rfl) rfl rfl rfl; exact value_ (v := .int .i64 d) (wanted_on (t := 75) (u := false) rfl rfl rfl e75) rfl (by clear HI ha; go_simp) (hK.out _ _ ⟨upk ha 20 hb rfl rfl, HI⟩)) ?_
                  refine steps_cons (by rintro b a w' ⟨ha, HI⟩ hb hon hoff; refine ⟨_, rfl, fun K hK => ?_⟩; have e87 := pon ha 19 (hon 19 rfl) rfl rfl rfl; have e88 := pon ha 20 (hon 20 rfl) rfl rfl rfl; have e75 := pon ha 7 (hon 7 rfl) rfl rfl rfl; exact value_ (v := .pointer (some ⟨g, d * 5, none⟩)) (wanted_on (t := 75) (u := false) rfl rfl rfl e75) rfl (by clear HI ha; go_simp) (hK.out _ _ ⟨upk ha 21 hb rfl rfl, HI⟩)) ?_
                  refine steps_cons (by rintro b a w' ⟨ha, HI⟩ hb hon hoff; refine ⟨_, rfl, fun K hK => ?_⟩; have e89 := pon ha 21 (hon 21 rfl) rfl rfl rfl; have e75 := pon ha 7 (hon 7 rfl) rfl rfl rfl; have k0_ := bc HI hgg y0; have k1_ := bc HI hgg y1; have k2_ := bc HI hgg y2; have k3_ := bc HI hgg y3; have k4_ := bc HI hgg y4; have kz_ := bz HI hgg; exact value_ (v := vl y) (wanted_on (t := 75) (u := false) rfl rfl rfl e75) rfl (by clear HI ha; go_simp) (hK.out _ _ ⟨upk ha 22 hb rfl rfl, HI⟩)) ?_
                  refine steps_cons (by rintro b a w' ⟨ha, HI⟩ hb hon hoff; refine ⟨_, rfl, fun K hK => ?_⟩; have e76 := pon ha 8 (hon 8 rfl) rfl rfl rfl; have e83 := pon ha 15 (hon 15 rfl) rfl rfl rfl; have e90 := pon ha 22 (hon 22 rfl) rfl rfl rfl; have e75 := pon ha 7 (hon 7 rfl) rfl rfl rfl; refine goes_ Try.func21 (by kernel_rfl) rfl #[.pointer (some ⟨gh, 0, none⟩), vl x, vl y] (wanted_on (t := 75) (u := false) rfl rfl rfl e75) rfl rfl (by simp [Act.eval, e76, e83, e90, e75]) ((CL _ (bc HI hgl hc0) (bz HI hgl)).mono ?_); rintro e_ w'' ⟨rfl, hbc⟩; exact ⟨_, rfl, hK.out _ _ ⟨upk ha 23 hb rfl rfl, below_then HI HI.size hbc⟩⟩) ?_
                  refine steps_cons (by rintro b a w' ⟨ha, HI⟩ hb hon hoff; refine ⟨_, rfl, fun K hK => ?_⟩; have e91 := pon ha 23 (hon 23 rfl) rfl rfl rfl; have e75 := pon ha 7 (hon 7 rfl) rfl rfl rfl; exact value_ (v := .bool (!b2)) (wanted_on (t := 75) (u := false) rfl rfl rfl e75) rfl (by clear HI ha; go_simp) (hK.out _ _ ⟨upk ha 24 hb rfl rfl, HI⟩)) ?_
                  refine steps_cons (by rintro b a w' ⟨ha, HI⟩ hb hon hoff; refine ⟨_, rfl, fun K hK => ?_⟩; have e75 := pon ha 7 (hon 7 rfl) rfl rfl rfl; have e92 := pon ha 24 (hon 24 rfl) rfl rfl rfl; exact value_ (v := .bool (!b2)) (by rfl) rfl (by clear HI ha; go_simp) (hK.out _ _ ⟨upk ha 25 hb rfl rfl, HI⟩)) ?_
                  exact steps_nil
                · rintro b a w' hall ⟨ha, HI⟩
                  have hb0_ := hall 0 rfl; have hb1_ := hall 1 rfl; have hb2_ := hall 2 rfl; have hb3_ := hall 3 rfl; have hb4_ := hall 4 rfl; have hb5_ := hall 5 rfl; have hb6_ := hall 6 rfl; have hb7_ := hall 7 rfl
                  have hb8_ := hall 8 rfl; have hb9_ := hall 9 rfl; have hb10_ := hall 10 rfl; have hb11_ := hall 11 rfl; have hb12_ := hall 12 rfl; have hb13_ := hall 13 rfl; have hb14_ := hall 14 rfl; have hb15_ := hall 15 rfl
                  have hb16_ := hall 16 rfl; have hb17_ := hall 17 rfl; have hb18_ := hall 18 rfl; have hb19_ := hall 19 rfl; have hb20_ := hall 20 rfl; have hb21_ := hall 21 rfl; have hb22_ := hall 22 rfl; have hb23_ := hall 23 rfl
                  have hb24_ := hall 24 rfl; have hb25_ := hall 25 rfl
                  subst ha
                  simp only [putSel, hb0_, hb1_, hb2_, hb3_, hb4_, hb5_, hb6_, hb7_, hb8_, hb9_, hb10_, hb11_, hb12_, hb13_, hb14_, hb15_, hb16_, hb17_, hb18_, hb19_, hb20_, hb21_, hb22_, hb23_, hb24_, hb25_, if_true, Act.put, List.setIfInBounds_toArray, List.set_cons_zero, List.set_cons_succ]
                  have HBw := Side.mk (below_then (below_drew (Below.refl _ wc)) (Nat.le_refl _) HI : Below wc.heap.size wc w')
                  clear hall HI hb0_ hb1_ hb2_ hb3_ hb4_ hb5_ hb6_ hb7_ hb8_ hb9_ hb10_ hb11_ hb12_ hb13_ hb14_ hb15_ hb16_ hb17_ hb18_ hb19_ hb20_ hb21_ hb22_ hb23_ hb24_ hb25_
                  refine ‹∀ (a : Act) (w : World), Code.wp Try.prog _ _ a w → _› _ _ ?_
                  have HM3 := Side.mk (HM2.out.below HBw.out)
                  clear HM2 HBw hc0 hc1 hgl hgg x0 x1 x2 x3 x4 y0 y1 y2 y3 y4 CL
                  cases b2
                  case false =>
                    have HO : Side (Ordered kind (at_ l2) n) := ⟨down_stop HD.out (fun q h1 h2 h3 => nlt_trans HB2.out (HMin.out q h1 h2 h3))⟩
                    go_wp2
                    exact bodyPost_ret (results_none rfl _ _ _) rfl ⟨rfl, l2, HM3.out, HO.out⟩
                  case true =>
                    have CS := Side.mk (swap_n w' B gh g cap bm n kind l2 HM3.out.len HM3.out.hs d c hd hcn hl)
                    go_wp2_with fail
                    refine CS.out.mono ?_
                    rintro e w2 ⟨rfl, hs2, hc2⟩
                    have HM4 := Side.mk (HM3.out.swap d c hd hcn hs2 hc2)
                    have HD4 : Side (Down kind (at_ (sw l2 d c)) n c) := ⟨by
                      rw [HM3.out.at_swap d c hd hcn]
                      exact down_step HD.out HCD.out.2.1 hcn HCD.out.1 HB2.out HMin.out⟩
                    clear hs2 hc2 CS
                    go_wp2
                    go_roundw
                    case rel => exact ⟨c, sw l2 d c, rfl, hcn, HM4, HD4⟩
                    case measure => have := HCD.out.2.2; simp [intOf]; omega
              · have hci : (n : Int) ≤ c := by omega
                have HO : Side (Ordered kind (at_ l2) n) := ⟨down_stop HD.out (fun q h1 h2 h3 => by
                  have h4 := K0.out
                  have h5 := K1.out
                  rcases HCC.out with h | ⟨h, h'⟩ <;> omega)⟩
                refine start_ (n := 26) (S := fun w' => True) (ds := []) #[false, false, false, false, false, false, false, false, false, false, false, false, false, false, false, false, false, false, false, false, false, false, false, false, false, false] (by kernel_rfl) rfl rfl trivial (fun _ => ?_)
                refine inv_at (B := [0, 0, 2, 6, 14, 30, 63, 127, 255, 255, 767, 1791, 3839, 255, 16127, 32511, 255, 65791, 196863, 459007, 255, 2031871, 4129023, 8388607, 16777215, 33554431]) [0, 1, 2, 3, 4, 5, 6, 7, 8, 9, 10, 11, 12, 13, 14, 15, 16, 17, 18, 19, 20, 21, 22, 23, 24, 25] (fun a0_ b a w' => a = putSel a0_ b [(0, 68, .int .i64 c), (1, 69, .pointer (some ⟨gh, 0, none⟩)), (2, 70, .pointer (some ⟨gh, 0, none⟩)), (3, 71, .pointer (some ⟨gh, 1, none⟩)), (4, 72, .slice (some ⟨g, 0, none⟩) n cap), (5, 73, .int .i64 n), (6, 74, .bool true), (7, 75, .bool true), (8, 76, undef), (9, 77, undef), (10, 78, undef), (11, 79, undef), (12, 80, undef), (13, 81, undef), (14, 82, undef), (15, 83, undef), (16, 84, undef), (17, 85, undef), (18, 86, undef), (19, 87, undef), (20, 88, undef), (21, 89, undef), (22, 90, undef), (23, 91, undef), (24, 92, undef), (25, 93, .bool true)] ∧ Below wc.drew.heap.size wc.drew w') rfl (by kernel_rfl) (by kernel_rfl) (by kernel_rfl) ?_ ?_ ?_
                · exact ⟨by simp only [putSel, Bool.false_eq_true, if_false], Below.refl _ _⟩
                · refine steps_cons (by rintro b a w' ⟨ha, HI⟩ hb hon hoff; refine ⟨_, rfl, fun K hK => ?_⟩; have e4 := poff ha (t := 4) rfl rfl; exact value_ (v := .int .i64 c) (by rfl) rfl (by clear HI ha; go_simp) (hK.out _ _ ⟨upk ha 0 hb rfl rfl, HI⟩)) ?_
                  refine steps_cons (by rintro b a w' ⟨ha, HI⟩ hb hon hoff; refine ⟨_, rfl, fun K hK => ?_⟩; have e0 := poff ha (t := 0) rfl rfl; exact value_ (v := .pointer (some ⟨gh, 0, none⟩)) (by rfl) rfl (by clear HI ha; go_simp) (hK.out _ _ ⟨upk ha 1 hb rfl rfl, HI⟩)) ?_
                  refine steps_cons (by rintro b a w' ⟨ha, HI⟩ hb hon hoff; refine ⟨_, rfl, fun K hK => ?_⟩; have e69 := pon ha 1 (hon 1 rfl) rfl rfl rfl; exact value_ (v := .pointer (some ⟨gh, 0, none⟩)) (by rfl) rfl (by clear HI ha; go_simp) (hK.out _ _ ⟨upk ha 2 hb rfl rfl, HI⟩)) ?_
                  refine steps_cons (by rintro b a w' ⟨ha, HI⟩ hb hon hoff; refine ⟨_, rfl, fun K hK => ?_⟩; have e70 := pon ha 2 (hon 2 rfl) rfl rfl rfl; exact value_ (v := .pointer (some ⟨gh, 1, none⟩)) (by rfl) rfl (by clear HI ha; go_simp) (hK.out _ _ ⟨upk ha 3 hb rfl rfl, HI⟩)) ?_
                  refine steps_cons (by rintro b a w' ⟨ha, HI⟩ hb hon hoff; refine ⟨_, rfl, fun K hK => ?_⟩; have e71 := pon ha 3 (hon 3 rfl) rfl rfl rfl; have k0_ := bc HI hgl hc1; have kz_ := bz HI hgl; exact value_ (v := .slice (some ⟨g, 0, none⟩) n cap) (by rfl) rfl (by clear HI ha; go_simp) (hK.out _ _ ⟨upk ha 4 hb rfl rfl, HI⟩)) ?_
                  refine steps_cons (by rintro b a w' ⟨ha, HI⟩ hb hon hoff; refine ⟨_, rfl, fun K hK => ?_⟩; have e72 := pon ha 4 (hon 4 rfl) rfl rfl rfl; exact value_ (v := .int .i64 n) (by rfl) rfl (by clear HI ha; go_simp) (hK.out _ _ ⟨upk ha 5 hb rfl rfl, HI⟩)) ?_
                  refine steps_cons (by rintro b a w' ⟨ha, HI⟩ hb hon hoff; refine ⟨_, rfl, fun K hK => ?_⟩; have e68 := pon ha 0 (hon 0 rfl) rfl rfl rfl; have e73 := pon ha 5 (hon 5 rfl) rfl rfl rfl; exact value_ (v := .bool true) (by rfl) rfl (by clear HI ha; go_simp) (hK.out _ _ ⟨upk ha 6 hb rfl rfl, HI⟩)) ?_
                  refine steps_cons (by rintro b a w' ⟨ha, HI⟩ hb hon hoff; refine ⟨_, rfl, fun K hK => ?_⟩; have e74 := pon ha 6 (hon 6 rfl) rfl rfl rfl; exact value_ (v := .bool true) (by rfl) rfl (by clear HI ha; go_simp) (hK.out _ _ ⟨upk ha 7 hb rfl rfl, HI⟩)) ?_
                  refine steps_cons (by rintro b a w' ⟨ha, HI⟩ hb hon hoff; refine ⟨_, rfl, fun K hK => ?_⟩; have e0 := poff ha (t := 0) rfl rfl; have e75 := pon ha 7 (hon 7 rfl) rfl rfl rfl; exact off_ (wanted_off (t := 75) (u := false) rfl rfl rfl e75) (hK.out _ _ ⟨upk ha 8 hb rfl rfl, HI⟩)) ?_
                  refine steps_cons (by rintro b a w' ⟨ha, HI⟩ hb hon hoff; refine ⟨_, rfl, fun K hK => ?_⟩; have e0 := poff ha (t := 0) rfl rfl; have e75 := pon ha 7 (hon 7 rfl) rfl rfl rfl; exact off_ (wanted_off (t := 75) (u := false) rfl rfl rfl e75) (hK.out _ _ ⟨upk ha 9 hb rfl rfl, HI⟩)) ?_
                  refine steps_cons (by rintro b a w' ⟨ha, HI⟩ hb hon hoff; refine ⟨_, rfl, fun K hK => ?_⟩; have e77 := pon ha 9 (hon 9 rfl) rfl rfl rfl; have e75 := pon ha 7 (hon 7 rfl) rfl rfl rfl; exact off_ (wanted_off (t := 75) (u := false) rfl rfl rfl e75) (hK.out _ _ ⟨upk ha 10 hb rfl rfl, HI⟩)) ?_
                  refine steps_cons (by rintro b a w' ⟨ha, HI⟩ hb hon hoff; refine ⟨_, rfl, fun K hK => ?_⟩; have e78 := pon ha 10 (hon 10 rfl) rfl rfl rfl; have e75 := pon ha 7 (hon 7 rfl) rfl rfl rfl; exact off_ (wanted_off (t := 75) (u := false) rfl rfl rfl e75) (hK.out _ _ ⟨upk ha 11 hb rfl rfl, HI⟩)) ?_
                  refine steps_cons (by rintro b a w' ⟨ha, HI⟩ hb hon hoff; refine ⟨_, rfl, fun K hK => ?_⟩; have e79 := pon ha 11 (hon 11 rfl) rfl rfl rfl; have e75 := pon ha 7 (hon 7 rfl) rfl rfl rfl; exact off_ (wanted_off (t := 75) (u := false) rfl rfl rfl e75) (hK.out _ _ ⟨upk ha 12 hb rfl rfl, HI⟩)) ?_
                  refine steps_cons (by rintro b a w' ⟨ha, HI⟩ hb hon hoff; refine ⟨_, rfl, fun K hK => ?_⟩; have e4 := poff ha (t := 4) rfl rfl; have e75 := pon ha 7 (hon 7 rfl) rfl rfl rfl; exact off_ (wanted_off (t := 75) (u := false) rfl rfl rfl e75) (hK.out _ _ ⟨upk ha 13 hb rfl rfl, HI⟩)) ?_
                  refine steps_cons (by rintro b a w' ⟨ha, HI⟩ hb hon hoff; refine ⟨_, rfl, fun K hK => ?_⟩; have e80 := pon ha 12 (hon 12 rfl) rfl rfl rfl; have e81 := pon ha 13 (hon 13 rfl) rfl rfl rfl; have e75 := pon ha 7 (hon 7 rfl) rfl rfl rfl; exact off_ (wanted_off (t := 75) (u := false) rfl rfl rfl e75) (hK.out _ _ ⟨upk ha 14 hb rfl rfl, HI⟩)) ?_
                  refine steps_cons (by rintro b a w' ⟨ha, HI⟩ hb hon hoff; refine ⟨_, rfl, fun K hK => ?_⟩; have e82 := pon ha 14 (hon 14 rfl) rfl rfl rfl; have e75 := pon ha 7 (hon 7 rfl) rfl rfl rfl; exact off_ (wanted_off (t := 75) (u := false) rfl rfl rfl e75) (hK.out _ _ ⟨upk ha 15 hb rfl rfl, HI⟩)) ?_
                  refine steps_cons (by rintro b a w' ⟨ha, HI⟩ hb hon hoff; refine ⟨_, rfl, fun K hK => ?_⟩; have e0 := poff ha (t := 0) rfl rfl; have e75 := pon ha 7 (hon 7 rfl) rfl rfl rfl; exact off_ (wanted_off (t := 75) (u := false) rfl rfl rfl e75) (hK.out _ _ ⟨upk ha 16 hb rfl rfl, HI⟩)) ?_
                  refine steps_cons (by rintro b a w' ⟨ha, HI⟩ hb hon hoff; refine ⟨_, rfl, fun K hK => ?_⟩; have e84 := pon ha 16 (hon 16 rfl) rfl rfl rfl; have e75 := pon ha 7 (hon 7 rfl) rfl rfl rfl; exact off_ (wanted_off (t := 75) (u := false) rfl rfl rfl e75) (hK.out _ _ ⟨upk ha 17 hb rfl rfl, HI⟩)) ?_
                  refine steps_cons (by rintro b a w' ⟨ha, HI⟩ hb hon hoff; refine ⟨_, rfl, fun K hK => ?_⟩; have e85 := pon ha 17 (hon 17 rfl) rfl rfl rfl; have e75 := pon ha 7 (hon 7 rfl) rfl rfl rfl; exact off_ (wanted_off (t := 75) (u := false) rfl rfl rfl e75) (hK.out _ _ ⟨upk ha 18 hb rfl rfl, HI⟩)) ?_
                  refine steps_cons (by rintro b a w' ⟨ha, HI⟩ hb hon hoff; refine ⟨_, rfl, fun K hK => ?_⟩; have e86 := pon ha 18 (hon 18 rfl) rfl rfl rfl; have e75 := pon ha 7 (hon 7 rfl) rfl rfl rfl; exact off_ (wanted_off (t := 75) (u := false) rfl rfl rfl e75) (hK.out _ _ ⟨upk ha 19 hb rfl rfl, HI⟩)) ?_
                  refine steps_cons (by rintro b a w' ⟨ha, HI⟩ hb hon hoff; refine ⟨_, rfl, fun K hK => ?_⟩; have e1 := poff ha (t := 1) rfl rfl; have e75 := pon ha 7 (hon 7 rfl) rfl rfl rfl; exact off_ (wanted_off (t := 75) (u := false) rfl rfl rfl e75) (hK.out _ _ ⟨upk ha 20 hb rfl rfl, HI⟩)) ?_
                  refine steps_cons (by rintro b a w' ⟨ha, HI⟩ hb hon hoff; refine ⟨_, rfl, fun K hK => ?_⟩; have e87 := pon ha 19 (hon 19 rfl) rfl rfl rfl; have e88 := pon ha 20 (hon 20 rfl) rfl rfl rfl; have e75 := pon ha 7 (hon 7 rfl) rfl rfl rfl; exact off_ (wanted_off (t := 75) (u := false) rfl rfl rfl e75) (hK.out _ _ ⟨upk ha 21 hb rfl rfl, HI⟩)) ?_
                  refine steps_cons (by rintro b a w' ⟨ha, HI⟩ hb hon hoff; refine ⟨_, rfl, fun K hK => ?_⟩; have e89 := pon ha 21 (hon 21 rfl) rfl rfl rfl; have e75 := pon ha 7 (hon 7 rfl) rfl rfl rfl; exact off_ (wanted_off (t := 75) (u := false) rfl rfl rfl e75) (hK.out _ _ ⟨upk ha 22 hb rfl rfl, HI⟩)) ?_
                  refine steps_cons (by rintro b a w' ⟨ha, HI⟩ hb hon hoff; refine ⟨_, rfl, fun K hK => ?_⟩; have e76 := pon ha 8 (hon 8 rfl) rfl rfl rfl; have e83 := pon ha 15 (hon 15 rfl) rfl rfl rfl; have e90 := pon ha 22 (hon 22 rfl) rfl rfl rfl; have e75 := pon ha 7 (hon 7 rfl) rfl rfl rfl; exact off_ (wanted_off (t := 75) (u := false) rfl rfl rfl e75) (hK.out _ _ ⟨upk ha 23 hb rfl rfl, HI⟩)) ?_
                  refine steps_cons (by rintro b a w' ⟨ha, HI⟩ hb hon hoff; refine ⟨_, rfl, fun K hK => ?_⟩; have e91 := pon ha 23 (hon 23 rfl) rfl rfl rfl; have e75 := pon ha 7 (hon 7 rfl) rfl rfl rfl; exact off_ (wanted_off (t := 75) (u := false) rfl rfl rfl e75) (hK.out _ _ ⟨upk ha 24 hb rfl rfl, HI⟩)) ?_
                  refine steps_cons (by rintro b a w' ⟨ha, HI⟩ hb hon hoff; refine ⟨_, rfl, fun K hK => ?_⟩; have e75 := pon ha 7 (hon 7 rfl) rfl rfl rfl; have e92 := pon ha 24 (hon 24 rfl) rfl rfl rfl; exact value_ (v := .bool true) (by rfl) rfl (by clear HI ha; go_simp) (hK.out _ _ ⟨upk ha 25 hb rfl rfl, HI⟩)) ?_
                  exact steps_nil
                · rintro b a w' hall ⟨ha, HI⟩
                  have hb0_ := hall 0 rfl; have hb1_ := hall 1 rfl; have hb2_ := hall 2 rfl; have hb3_ := hall 3 rfl; have hb4_ := hall 4 rfl; have hb5_ := hall 5 rfl; have hb6_ := hall 6 rfl; have hb7_ := hall 7 rfl
                  have hb8_ := hall 8 rfl; have hb9_ := hall 9 rfl; have hb10_ := hall 10 rfl; have hb11_ := hall 11 rfl; have hb12_ := hall 12 rfl; have hb13_ := hall 13 rfl; have hb14_ := hall 14 rfl; have hb15_ := hall 15 rfl
                  have hb16_ := hall 16 rfl; have hb17_ := hall 17 rfl; have hb18_ := hall 18 rfl; have hb19_ := hall 19 rfl; have hb20_ := hall 20 rfl; have hb21_ := hall 21 rfl; have hb22_ := hall 22 rfl; have hb23_ := hall 23 rfl
                  have hb24_ := hall 24 rfl; have hb25_ := hall 25 rfl
                  subst ha
                  simp only [putSel, hb0_, hb1_, hb2_, hb3_, hb4_, hb5_, hb6_, hb7_, hb8_, hb9_, hb10_, hb11_, hb12_, hb13_, hb14_, hb15_, hb16_, hb17_, hb18_, hb19_, hb20_, hb21_, hb22_, hb23_, hb24_, hb25_, if_true, Act.put, List.setIfInBounds_toArray, List.set_cons_zero, List.set_cons_succ]
                  have HBw := Side.mk (below_then (below_drew (Below.refl _ wc)) (Nat.le_refl _) HI : Below wc.heap.size wc w')
                  clear hall HI hb0_ hb1_ hb2_ hb3_ hb4_ hb5_ hb6_ hb7_ hb8_ hb9_ hb10_ hb11_ hb12_ hb13_ hb14_ hb15_ hb16_ hb17_ hb18_ hb19_ hb20_ hb21_ hb22_ hb23_ hb24_ hb25_
                  refine ‹∀ (a : Act) (w : World), Code.wp Try.prog _ _ a w → _› _ _ ?_
                  have HM3 := Side.mk (HM2.out.below HBw.out)
                  clear HM2 HBw hc0 hc1 hgl hgg
                  go_wp2
                  exact bodyPost_ret (results_none rfl _ _ _) rfl ⟨rfl, l2, HM3.out, HO.out⟩
end Go.Proofs.Ytiebpmbongmgkaa.HpF
