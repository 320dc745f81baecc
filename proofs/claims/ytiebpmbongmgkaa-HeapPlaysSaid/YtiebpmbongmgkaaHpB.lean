/- Package heap, second text: New, set. No condition. -/
import Derived.Test.YtiebpmbongmgkaaHpA
import Derived.Test.YtiebpmbongmgkaaKit4
import Derived.StillTailTactics
import Derived.Deep.RegionHeld3
import Derived.BigQuiet
set_option linter.unusedVariables false
set_option linter.unusedSimpArgs false
namespace Go.Proofs.Ytiebpmbongmgkaa.HpB
open Go.RowKit Go.Proofs.Ytiebpmbongmgkaa.Kit Go.Proofs.Ytiebpmbongmgkaa.Kit3 Go.Proofs.Ytiebpmbongmgkaa.Kit4 HpPlain Go.Maps Go.Proofs.Ytiebpmbongmgkaa.HpA
open Go.Proofs.YtiebpmbongmgkaaW.PrintLast
open Go.Proofs.YtiebpmbongmgkaaW.PrintWords (run_store_run)
theorem wf_nat (i : Nat) (h : i < 1000000000) : (Lit.int .i64 (i : Int)).wf = true := WalkArith.wf_i64 (by omega)
theorem wf_of {x : Int} (h1 : -9223372036854775808 ≤ x) (h2 : x < 9223372036854775808) : (Lit.int .i64 x).wf = true := WalkArith.wf_i64 (by omega)
set_option maxHeartbeats 4000000 in
set_option maxRecDepth 100000 in
theorem set_at (w : World) (B gh g cap bm n : Nat) (kind : Int) (l : List It) (D : DD) (h : Hp w B gh kind (.slice (some ⟨g, 0, none⟩) l.length cap) bm n l D) (hn : n < 1000000) (i : Nat) (hi : i < l.length) (hl : l.length ≤ 1000000) (x : It) (hx : (kv x.1).wf = true) :
    Calls Try.prog 17 #[.pointer (some ⟨gh, 0, none⟩), .int .i64 i, vl x] w fun r w' => r = .returned (.tuple #[]) ∧
      Hp w' B gh kind (.slice (some ⟨g, 0, none⟩) l.length cap) bm (n + 1) (l.set i x) (D.put (kv x.1) (.lit (.int .i64 i))) ∧ Chg w w' (Foot gh bm (.slice (some ⟨g, 0, none⟩) l.length cap)) := by
  obtain ⟨x0, x1, x2, x3, x4⟩ := x
  have hii : (i : Int) < l.length := by omega
  have hi0 : (0 : Int) ≤ i := by omega
  obtain ⟨o, ho⟩ : ∃ o : Obj, o = (.cells #[.int .i64 x0, .int .i64 x1, .int .i64 x2, .int .i64 x3, .int .i64 x4] 56) := ⟨_, rfl⟩
  have hb0 : Below w.heap.size w (w.alloc o) := (Below.refl _ w).alloc (Nat.le_refl _) _
  have HH := Side.mk (h.below hb0)
  have HC1 : Side (Chg w (w.alloc o) (Foot gh bm (.slice (some ⟨g, 0, none⟩) l.length cap))) := ⟨Chg.of_below hb0⟩
  have hc1 := HH.out.c1
  have hc2 := HH.out.c2
  have hgl := HH.out.lt
  have hbx : ∀ r v, (cl (x0, x1, x2, x3, x4))[r]? = some v → (w.alloc o).cell? ⟨w.heap.size, r, none⟩ = some v := fun r v hr => by
    rw [ho]
    exact (World.cell?_alloc_at _ _ _ _ rfl).trans (by simpa [cl] using hr)
  have b0 := hbx 0 _ rfl
  have b1 := hbx 1 _ rfl
  have b2 := hbx 2 _ rfl
  have b3 := hbx 3 _ rfl
  have b4 := hbx 4 _ rfl
  have hpb : w.heap.size < (w.alloc o).heap.size := by simp
  have hne : w.heap.size ≠ g := by have := Row.lt h.row g rfl; omega
  have HX := Side.mk hx
  have HO := Side.mk ho
  clear h hx hb0 hbx
  go_enter Try.func17, Try.ntmps17
  go_upto_region 1 with (fail)
  rw [← HO.out]
  clear HO
  generalize hpx : w.heap.size = p at *
  clear hpx
  generalize w.alloc o = W1 at *
  obtain ⟨cur, hcur, hsz, hcp⟩ : ∃ cur, W1.heap[g]? = some (.cells cur 56 (0, 0)) ∧ cur.size = cap * 5 ∧ l.length ≤ cap := by
    rcases HH.out.row.read with ⟨h0, _⟩ | ⟨g', cap', h0, _, _, h1, _, ⟨cur, h2, h3⟩, _⟩
    · simp at h0
    · simp at h0
      obtain ⟨rfl, rfl⟩ := h0
      exact ⟨cur, h2, h3, h1⟩
  have HS := Side.mk (run_store_run (P := Try.prog) (w := W1.drew) (g := g) (o := i * 5) 56 (vl (x0, x1, x2, x3, x4)) (cl (x0, x1, x2, x3, x4)) (cur := cur) (e := 56) hcur rfl (by kernel_rfl) (by rw [cl_len]; omega) (by intro q hq; exact flat_one [(x0, x1, x2, x3, x4)] q (by simpa [flat] using hq)))
  clear hcur hsz hcp
  refine start_ (n := 8) (S := fun w' => True) (ds := []) #[false, false, false, false, false, false, false, false] (by kernel_rfl) rfl rfl trivial (fun _ => ?_)
  refine inv_at (B := [0, 1, 3, 7, 0, 0, 31, 127]) [0, 1, 2, 3, 4, 5, 6, 7] (fun a0_ b a w' => a = putSel a0_ b [(0, 6, .pointer (some ⟨gh, 0, none⟩)), (1, 7, .pointer (some ⟨gh, 0, none⟩)), (2, 8, .pointer (some ⟨gh, 1, none⟩)), (3, 9, .slice (some ⟨g, 0, none⟩) l.length cap), (4, 10, .int .i64 i), (5, 11, vl (x0, x1, x2, x3, x4)), (6, 12, .pointer (some ⟨g, i * 5, none⟩))] ∧ One W1.drew (fun w' => w' = W1.drew.setCells g (i * 5) (cl (x0, x1, x2, x3, x4))) 7 b w') rfl (by kernel_rfl) (by kernel_rfl) (by kernel_rfl) ?_ ?_ ?_
  · exact ⟨by simp only [putSel, Bool.false_eq_true, if_false], One.start⟩
  · refine steps_cons (by rintro b a w' ⟨ha, HI⟩ hb hon hoff; refine ⟨_, rfl, fun K hK => ?_⟩; have e0 := poff ha (t := 0) rfl rfl; obtain rfl := HI.n (hoff 7 rfl); exact value_ (v := .pointer (some ⟨gh, 0, none⟩)) (by rfl) rfl (by clear HI ha; go_simp) (hK.out _ _ ⟨upk ha 0 hb rfl rfl, HI.low (by decide)⟩)) ?_
    refine steps_cons (by rintro b a w' ⟨ha, HI⟩ hb hon hoff; refine ⟨_, rfl, fun K hK => ?_⟩; have e6 := pon ha 0 (hon 0 rfl) rfl rfl rfl; obtain rfl := HI.n (hoff 7 rfl); exact value_ (v := .pointer (some ⟨gh, 0, none⟩)) (by rfl) rfl (by clear HI ha; go_simp) (hK.out _ _ ⟨upk ha 1 hb rfl rfl, HI.low (by decide)⟩)) ?_
    refine steps_cons (by rintro b a w' ⟨ha, HI⟩ hb hon hoff; refine ⟨_, rfl, fun K hK => ?_⟩; have e7 := pon ha 1 (hon 1 rfl) rfl rfl rfl; obtain rfl := HI.n (hoff 7 rfl); exact value_ (v := .pointer (some ⟨gh, 1, none⟩)) (by rfl) rfl (by clear HI ha; go_simp) (hK.out _ _ ⟨upk ha 2 hb rfl rfl, HI.low (by decide)⟩)) ?_
    refine steps_cons (by rintro b a w' ⟨ha, HI⟩ hb hon hoff; refine ⟨_, rfl, fun K hK => ?_⟩; have e8 := pon ha 2 (hon 2 rfl) rfl rfl rfl; obtain rfl := HI.n (hoff 7 rfl); exact value_ (v := .slice (some ⟨g, 0, none⟩) l.length cap) (by rfl) rfl (by clear HI ha; go_simp) (hK.out _ _ ⟨upk ha 3 hb rfl rfl, HI.low (by decide)⟩)) ?_
    refine steps_cons (by rintro b a w' ⟨ha, HI⟩ hb hon hoff; refine ⟨_, rfl, fun K hK => ?_⟩; have e1 := poff ha (t := 1) rfl rfl; obtain rfl := HI.n (hoff 7 rfl); exact value_ (v := .int .i64 i) (by rfl) rfl (by clear HI ha; go_simp) (hK.out _ _ ⟨upk ha 4 hb rfl rfl, HI.low (by decide)⟩)) ?_
    refine steps_cons (by rintro b a w' ⟨ha, HI⟩ hb hon hoff; refine ⟨_, rfl, fun K hK => ?_⟩; have e5 := poff ha (t := 5) rfl rfl; obtain rfl := HI.n (hoff 7 rfl); exact value_ (v := vl (x0, x1, x2, x3, x4)) (by rfl) rfl (by clear HI ha; go_simp) (hK.out _ _ ⟨upk ha 5 hb rfl rfl, HI.low (by decide)⟩)) ?_
    refine steps_cons (by rintro b a w' ⟨ha, HI⟩ hb hon hoff; refine ⟨_, rfl, fun K hK => ?_⟩; have e9 := pon ha 3 (hon 3 rfl) rfl rfl rfl; have e10 := pon ha 4 (hon 4 rfl) rfl rfl rfl; obtain rfl := HI.n (hoff 7 rfl); exact value_ (v := .pointer (some ⟨g, i * 5, none⟩)) (by rfl) rfl (by clear HI ha; go_simp) (hK.out _ _ ⟨upk ha 6 hb rfl rfl, HI.low (by decide)⟩)) ?_
    refine steps_cons (by rintro b a w' ⟨ha, HI⟩ hb hon hoff; refine ⟨_, rfl, fun K hK => ?_⟩; have e12 := pon ha 6 (hon 6 rfl) rfl rfl rfl; have e11 := pon ha 5 (hon 5 rfl) rfl rfl rfl; obtain rfl := HI.n hb; exact skip_ (by rfl) rfl (by unfold execOp; simp [Act.eval, e12, e11, HS.out]) (hK.out _ _ ⟨ups ha rfl, One.set rfl⟩)) ?_
    exact steps_nil
  · rintro b a w' hall ⟨ha, HI⟩
    have hb0_ := hall 0 rfl; have hb1_ := hall 1 rfl; have hb2_ := hall 2 rfl; have hb3_ := hall 3 rfl; have hb4_ := hall 4 rfl; have hb5_ := hall 5 rfl; have hb6_ := hall 6 rfl; have hb7_ := hall 7 rfl
    subst ha
    simp only [putSel, hb0_, hb1_, hb2_, hb3_, hb4_, hb5_, hb6_, if_true, Act.put, List.setIfInBounds_toArray, List.set_cons_zero, List.set_cons_succ]
    obtain rfl := HI.y hb7_
    clear hall HI hb0_ hb1_ hb2_ hb3_ hb4_ hb5_ hb6_ hb7_
    have hch : Chg W1 (W1.drew.setCells g (i * 5) (cl (x0, x1, x2, x3, x4))) (fun k => k = g) := by
      have := chg_cells W1.drew g (i * 5) (cl (x0, x1, x2, x3, x4))
      exact ⟨this.os, this.tape, this.output, this.size, this.block⟩
    have hnm := HH.out.nm
    have hng : gh ≠ g := fun e => hnm.2.1 (by rw [e]; rfl)
    have hnb : bm ≠ g := fun e => hnm.2.2 (by rw [e]; rfl)
    have HP2 : Side (Hp (W1.drew.setCells g (i * 5) (cl (x0, x1, x2, x3, x4))) B gh kind (.slice (some ⟨g, 0, none⟩) l.length cap) bm n (l.set i (x0, x1, x2, x3, x4)) D) :=
      ⟨⟨(hch.block gh hgl hng).trans HH.out.box, Row.write (w := W1.drew) HH.out.row i _ hi, map_chg HH.out.map hch hnb, HH.out.bh, HH.out.bb⟩⟩
    have HC2 : Side (Chg w (W1.drew.setCells g (i * 5) (cl (x0, x1, x2, x3, x4))) (Foot gh bm (.slice (some ⟨g, 0, none⟩) l.length cap))) := ⟨Chg.trans HC1.out hch (fun k _ hk => .inr (.inr (by rw [hk]; rfl)))⟩
    have hb2 : (W1.drew.setCells g (i * 5) (cl (x0, x1, x2, x3, x4))).heap[p]? = W1.heap[p]? := hch.block p hpb hne
    have b02 : (W1.drew.setCells g (i * 5) (cl (x0, x1, x2, x3, x4))).cell? ⟨p, 0, none⟩ = some (.int .i64 x0) := by
      rw [← b0]; unfold World.cell?; rw [hb2]
    clear b0 b1 b2 b3 b4 hc1 hc2 hch hnm hng hnb hb2 HH HC1 HS hpb hgl
    generalize W1.drew.setCells g (i * 5) (cl (x0, x1, x2, x3, x4)) = W2 at *
    have hc2 := HP2.out.c2
    have hkey : keyOf Try.prog 3 (.int .i64 x0) = some (kv x0) := keyOf_int_mk Try.underlying3 HX.out
    obtain ⟨w3, hrun, hown, hgr⟩ := (World.ownsMap.drew HP2.out.map).update keyed Try.underlying50 (by unfold maxLen; omega) hkey (plainElem_int Try.underlying3 (wf_nat i (by omega)))
    have HR := Side.mk hrun
    have HF : Side (Hp w3 B gh kind (.slice (some ⟨g, 0, none⟩) l.length cap) bm (n + 1) (l.set i (x0, x1, x2, x3, x4)) (D.put (kv x0) (.lit (.int .i64 i))) ∧ Chg w w3 (Foot gh bm (.slice (some ⟨g, 0, none⟩) l.length cap))) := ⟨by
      have hc : Chg W2 w3 (fun k => k = bm) := ⟨hgr.os, hgr.tape, hgr.output, hgr.size, fun k hk hn => hgr.block k hk (fun e => hn (Option.some.inj e))⟩
      have hnm := HP2.out.nm
      refine ⟨⟨(hc.block gh HP2.out.lt (fun e => hnm.1 e.symm)).trans HP2.out.box, Row.chg HP2.out.row hc (fun k hk e => hnm.2.2 (by rw [hk, e])), hown, HP2.out.bh, HP2.out.bb⟩, Chg.trans HC2.out hc (fun k _ hk => .inr (.inl hk))⟩⟩
    clear hkey hrun hown hgr HP2 HC2
    refine ‹∀ (a : Act) (w : World), Code.wp Try.prog _ _ a w → _› _ _ ?_
    refine start_ (n := 8) (S := fun w' => True) (ds := []) #[false, false, false, false, false, false, false, false] (by kernel_rfl) rfl rfl trivial (fun _ => ?_)
    refine inv_at (B := [0, 1, 3, 7, 0, 16, 0, 127]) [0, 1, 2, 3, 4, 5, 6, 7] (fun a0_ b a w' => a = putSel a0_ b [(0, 13, .pointer (some ⟨gh, 0, none⟩)), (1, 14, .pointer (some ⟨gh, 0, none⟩)), (2, 15, .pointer (some ⟨gh, 2, none⟩)), (3, 16, .map (some bm)), (4, 17, .pointer (some ⟨p, 0, none⟩)), (5, 18, .int .i64 x0), (6, 19, .int .i64 i)] ∧ One W2.drew (fun w' => w' = w3) 7 b w') rfl (by kernel_rfl) (by kernel_rfl) (by kernel_rfl) ?_ ?_ ?_
    · exact ⟨by simp only [putSel, Bool.false_eq_true, if_false], One.start⟩
    · refine steps_cons (by rintro b a w' ⟨ha, HI⟩ hb hon hoff; refine ⟨_, rfl, fun K hK => ?_⟩; have e0 := poff ha (t := 0) rfl rfl; obtain rfl := HI.n (hoff 7 rfl); exact value_ (v := .pointer (some ⟨gh, 0, none⟩)) (by rfl) rfl (by clear HI ha; go_simp) (hK.out _ _ ⟨upk ha 0 hb rfl rfl, HI.low (by decide)⟩)) ?_
      refine steps_cons (by rintro b a w' ⟨ha, HI⟩ hb hon hoff; refine ⟨_, rfl, fun K hK => ?_⟩; have e13 := pon ha 0 (hon 0 rfl) rfl rfl rfl; obtain rfl := HI.n (hoff 7 rfl); exact value_ (v := .pointer (some ⟨gh, 0, none⟩)) (by rfl) rfl (by clear HI ha; go_simp) (hK.out _ _ ⟨upk ha 1 hb rfl rfl, HI.low (by decide)⟩)) ?_
      refine steps_cons (by rintro b a w' ⟨ha, HI⟩ hb hon hoff; refine ⟨_, rfl, fun K hK => ?_⟩; have e14 := pon ha 1 (hon 1 rfl) rfl rfl rfl; obtain rfl := HI.n (hoff 7 rfl); exact value_ (v := .pointer (some ⟨gh, 2, none⟩)) (by rfl) rfl (by clear HI ha; go_simp) (hK.out _ _ ⟨upk ha 2 hb rfl rfl, HI.low (by decide)⟩)) ?_
      refine steps_cons (by rintro b a w' ⟨ha, HI⟩ hb hon hoff; refine ⟨_, rfl, fun K hK => ?_⟩; have e15 := pon ha 2 (hon 2 rfl) rfl rfl rfl; obtain rfl := HI.n (hoff 7 rfl); exact value_ (v := .map (some bm)) (by rfl) rfl (by clear HI ha; go_simp) (hK.out _ _ ⟨upk ha 3 hb rfl rfl, HI.low (by decide)⟩)) ?_
      refine steps_cons (by rintro b a w' ⟨ha, HI⟩ hb hon hoff; refine ⟨_, rfl, fun K hK => ?_⟩; have e5 := poff ha (t := 5) rfl rfl; obtain rfl := HI.n (hoff 7 rfl); exact value_ (v := .pointer (some ⟨p, 0, none⟩)) (by rfl) rfl (by clear HI ha; go_simp) (hK.out _ _ ⟨upk ha 4 hb rfl rfl, HI.low (by decide)⟩)) ?_
      refine steps_cons (by rintro b a w' ⟨ha, HI⟩ hb hon hoff; refine ⟨_, rfl, fun K hK => ?_⟩; have e17 := pon ha 4 (hon 4 rfl) rfl rfl rfl; obtain rfl := HI.n (hoff 7 rfl); exact value_ (v := .int .i64 x0) (by rfl) rfl (by clear HI ha; go_simp) (hK.out _ _ ⟨upk ha 5 hb rfl rfl, HI.low (by decide)⟩)) ?_
      refine steps_cons (by rintro b a w' ⟨ha, HI⟩ hb hon hoff; refine ⟨_, rfl, fun K hK => ?_⟩; have e1 := poff ha (t := 1) rfl rfl; obtain rfl := HI.n (hoff 7 rfl); exact value_ (v := .int .i64 i) (by rfl) rfl (by clear HI ha; go_simp) (hK.out _ _ ⟨upk ha 6 hb rfl rfl, HI.low (by decide)⟩)) ?_
      refine steps_cons (by rintro b a w' ⟨ha, HI⟩ hb hon hoff; refine ⟨_, rfl, fun K hK => ?_⟩; have e16 := pon ha 3 (hon 3 rfl) rfl rfl rfl; have e18 := pon ha 5 (hon 5 rfl) rfl rfl rfl; have e19 := pon ha 6 (hon 6 rfl) rfl rfl rfl; obtain rfl := HI.n hb; exact skip_ (by rfl) rfl (by unfold execOp; simp [Act.eval, e16, e18, e19, HR.out, Result.andThen]) (hK.out _ _ ⟨ups ha rfl, One.set rfl⟩)) ?_
      exact steps_nil
    · rintro b a w' hall ⟨ha, HI⟩
      have hb0_ := hall 0 rfl; have hb1_ := hall 1 rfl; have hb2_ := hall 2 rfl; have hb3_ := hall 3 rfl; have hb4_ := hall 4 rfl; have hb5_ := hall 5 rfl; have hb6_ := hall 6 rfl; have hb7_ := hall 7 rfl
      subst ha
      simp only [putSel, hb0_, hb1_, hb2_, hb3_, hb4_, hb5_, hb6_, if_true, Act.put, List.setIfInBounds_toArray, List.set_cons_zero, List.set_cons_succ]
      obtain rfl := HI.y hb7_
      clear hall HI hb0_ hb1_ hb2_ hb3_ hb4_ hb5_ hb6_ hb7_
      exact bodyPost_end (results_none rfl _ _ _) rfl ⟨rfl, HF.out⟩
end Go.Proofs.Ytiebpmbongmgkaa.HpB
