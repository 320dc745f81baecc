/- Package heap, ninth text: New, Len, Top. No condition. -/
import Derived.Test.YtiebpmbongmgkaaHpH
set_option linter.unusedVariables false
set_option linter.unusedSimpArgs false
namespace Go.Proofs.Ytiebpmbongmgkaa.HpI
open Go.RowKit Go.Proofs.Ytiebpmbongmgkaa.Kit Go.Proofs.Ytiebpmbongmgkaa.Kit3 Go.Proofs.Ytiebpmbongmgkaa.Kit4 HpPlain Go.Maps Go.Proofs.Ytiebpmbongmgkaa.HpA Go.Proofs.Ytiebpmbongmgkaa.HpB Go.Proofs.Ytiebpmbongmgkaa.HpC Go.Proofs.Ytiebpmbongmgkaa.HpD Go.Proofs.Ytiebpmbongmgkaa.HpE Go.Proofs.Ytiebpmbongmgkaa.HpF Go.Proofs.Ytiebpmbongmgkaa.HpG Go.Proofs.Ytiebpmbongmgkaa.HpH
open Go.Proofs.YtiebpmbongmgkaaW.PrintLast
open Go.Proofs.YtiebpmbongmgkaaW.PrintWords (run_store_run setCells_row)
set_option maxHeartbeats 4000000 in
set_option maxRecDepth 100000 in
theorem New_at (w : World) (kind : Int) : Calls Try.prog 9 #[.int .i64 kind] w fun r w' => r = .returned (.pointer (some ⟨w.heap.size + 1, 0, none⟩)) ∧ w' = (w.alloc (.map #[] 0)).alloc (.cells #[.int .i64 kind, .slice none 0 0, .map (some w.heap.size)] 53) := by
  have hmm := @run_makeMap Try.prog
  go_enter Try.func9, Try.ntmps9
  go_wp2
  go_ret
  exact ⟨rfl, rfl⟩
theorem idx_nil : Idx [] (.map [] : DD) := ⟨tidy_empty, fun s _ => rfl, fun i hi => absurd hi (by simp), rfl⟩
theorem new_hs {w0 w : World} (hb : Below w0.heap.size w0 w) (kind : Int) : HS ((w.alloc (.map #[] 0)).alloc (.cells #[.int .i64 kind, .slice none 0 0, .map (some w.heap.size)] 53)) w0.heap.size (w.heap.size + 1) kind (.slice none 0 0) w.heap.size [] := by
  refine ⟨⟨.map [], ⟨?_, Row.nil _ _, ?_, ?_, hb.size⟩, idx_nil⟩, by simp [slots], by simp⟩
  · have := heap_alloc_new (w.alloc (.map #[] 0)) (.cells #[.int .i64 kind, .slice none 0 0, .map (some w.heap.size)] 53)
    simpa using this
  · exact (World.ownsMap_made w Try.prog 3 (plainElem Try.prog 3)).alloc _
  · have := hb.size; omega
set_option maxHeartbeats 4000000 in
set_option maxRecDepth 100000 in
theorem Len_at (w : World) (B gh bm : Nat) (kind : Int) (v : Value) (l : List It) (h : HS w B gh kind v bm l) :
    Calls Try.prog 13 #[.pointer (some ⟨gh, 0, none⟩)] w fun r w' => r = .returned (.int .i64 l.length) ∧ w = w' := by
  obtain ⟨A, c, rfl⟩ := Row.shape h.row
  have hc1 := h.c1
  have hgl := h.lt
  generalize l.length = n at *
  clear h
  go_enter Try.func13, Try.ntmps13
  go_wp2
  go_ret
  exact ⟨rfl, rfl⟩
set_option maxHeartbeats 4000000 in
set_option maxRecDepth 100000 in
theorem Top_none (w : World) (B gh bm : Nat) (kind : Int) (A : Option Addr) (c : Nat) (h : HS w B gh kind (.slice A 0 c) bm []) :
    Calls Try.prog 12 #[.pointer (some ⟨gh, 0, none⟩)] w fun r w' => r = .returned (.tuple #[.int .i64 0, rv z, .bool false]) ∧ Below w.heap.size w w' := by
  have hc1 : (w.alloc (.cells #[.int .i64 0, .int .i64 0, .int .i64 0, .int .i64 0] 32)).cell? ⟨gh, 1, none⟩ = some (.slice A 0 c) := (h.below ((Below.refl _ w).alloc (Nat.le_refl _) _)).c1
  have hgl := h.lt
  have hng : w.heap.size ≠ gh := by omega
  clear h
  go_enter Try.func12, Try.ntmps12
  go_wp2
  exact bodyPost_ret (v := .tuple #[.int .i64 0, rv z, .bool false]) (by simp [results, Try.results12, go_sem, HpPlain.z]) rfl ⟨rfl, by (repeat (with_reducible first | exact Below.refl _ _ | apply below_drewN | apply below_drew | apply below_alloc | refine Below.setCell ?_ ?_ _)) <;> simp⟩
set_option maxHeartbeats 4000000 in
set_option maxRecDepth 100000 in
theorem Top_some (w : World) (B gh g cap bm n : Nat) (kind : Int) (l : List It) (hn : l.length = n) (h0 : 0 < n) (hl : n ≤ 1000000) (h : HS w B gh kind (.slice (some ⟨g, 0, none⟩) n cap) bm l) (x : It) (hx : at_ l 0 = x) :
    Calls Try.prog 12 #[.pointer (some ⟨gh, 0, none⟩)] w fun r w' => r = .returned (.tuple #[.int .i64 x.1, rv x, .bool true]) ∧ Below w.heap.size w w' := by
  have hgl := h.lt
  have hgg : g < w.heap.size := Row.lt h.row g rfl
  have hc := h.c1
  have hit := fun r v hr => HS.item h 0 (by rw [hn]; exact h0) r v hr
  rw [hx] at hit
  obtain ⟨x0, x1, x2, x3, x4⟩ := x
  have u0 : w.cell? ⟨g, 0, none⟩ = some (.int .i64 x0) := hit 0 _ rfl
  have u1 : w.cell? ⟨g, 1, none⟩ = some (.int .i64 x1) := hit 1 _ rfl
  have u2 : w.cell? ⟨g, 2, none⟩ = some (.int .i64 x2) := hit 2 _ rfl
  have u3 : w.cell? ⟨g, 3, none⟩ = some (.int .i64 x3) := hit 3 _ rfl
  have u4 : w.cell? ⟨g, 4, none⟩ = some (.int .i64 x4) := hit 4 _ rfl
  have hc1 : (w.alloc (.cells #[.int .i64 0, .int .i64 0, .int .i64 0, .int .i64 0] 32)).cell? ⟨gh, 1, none⟩ = some (.slice (some ⟨g, 0, none⟩) n cap) := (h.below ((Below.refl _ w).alloc (Nat.le_refl _) _)).c1
  have hni : ¬ (n : Int) = 0 := by omega
  have hnp : (0 : Int) < n := by omega
  have hnb : ((n : Int) == 0) = false := by simpa using hni
  clear h hit hx hn
  go_enter Try.func12, Try.ntmps12
  go_upto_region 3 with (fail)
  clear hc1
  obtain ⟨W1, hW⟩ : ∃ W1, W1 = w.alloc (.cells #[.int .i64 0, .int .i64 0, .int .i64 0, .int .i64 0] 32) := ⟨_, rfl⟩
  have hb1 : Below w.heap.size w W1 := by rw [hW]; exact (Below.refl _ w).alloc (Nat.le_refl _) _
  have hbox : W1.heap[w.heap.size]? = some (.cells #[.int .i64 0, .int .i64 0, .int .i64 0, .int .i64 0] 32 (0, 0)) := by rw [hW]; exact heap_alloc_new w _
  rw [← hW]
  clear hW
  obtain ⟨p, hp⟩ : ∃ p, p = w.heap.size := ⟨_, rfl⟩
  rw [← hp] at hbox ⊢
  have HB1 : Side (Below w.heap.size w W1.drew) := ⟨below_drew hb1⟩
  have HS := Side.mk (run_store_run (P := Try.prog) (w := W1.drew) (g := p) (o := 0) 32 (rv (x0, x1, x2, x3, x4)) [.int .i64 x1, .int .i64 x2, .int .i64 x3, .int .i64 x4] (cur := #[.int .i64 0, .int .i64 0, .int .i64 0, .int .i64 0]) (e := 32) hbox rfl (by kernel_rfl) (by simp) (by intro q hq; simp at hq; rcases hq with rfl | rfl | rfl | rfl <;> rfl))
  obtain ⟨W2, hW2⟩ : ∃ W2, W2 = W1.drew.setCells p 0 [.int .i64 x1, .int .i64 x2, .int .i64 x3, .int .i64 x4] := ⟨_, rfl⟩
  have hst : W2.heap[p]? = some (.cells #[.int .i64 x1, .int .i64 x2, .int .i64 x3, .int .i64 x4] 32 (0, 0)) := by
    obtain ⟨cur', g1, g2, g3⟩ := setCells_row (e := 32) [.int .i64 x1, .int .i64 x2, .int .i64 x3, .int .i64 x4] 0 W1.drew _ hbox (by simp)
    rw [hW2, g1]
    have : cur' = #[.int .i64 x1, .int .i64 x2, .int .i64 x3, .int .i64 x4] := by apply Array.ext'; rw [g3]; rfl
    rw [this]
  have HB2 : Side (∀ w', w' = W2 → Below w.heap.size w w') := ⟨by
    rintro w' rfl
    have hc := chg_cells W1.drew p 0 [.int .i64 x1, .int .i64 x2, .int .i64 x3, .int .i64 x4]
    rw [← hW2] at hc
    refine ⟨hc.os.trans hb1.os, hc.tape.trans hb1.tape, hc.output.trans hb1.output, Nat.le_trans hb1.size hc.size, fun k hk => (hc.block k (Nat.lt_of_lt_of_le hk hb1.size) (by omega)).trans (hb1.block k hk)⟩⟩
  have v0 := cell_of_row W2 p 0 _ _ (0, 0) hst
  have v1 := cell_of_row W2 p 1 _ _ (0, 0) hst
  have v2 := cell_of_row W2 p 2 _ _ (0, 0) hst
  have v3 := cell_of_row W2 p 3 _ _ (0, 0) hst
  have HW2 := Side.mk hW2
  have HV := Side.mk (And.intro v0 (And.intro v1 (And.intro v2 v3)))
  clear hp hb1 hbox hst hW2 v0 v1 v2 v3
  refine start_ (n := 17) (S := fun w' => True) (ds := []) #[false, false, false, false, false, false, false, false, false, false, false, false, false, false, false, false, false] (by kernel_rfl) rfl rfl trivial (fun _ => ?_)
  refine inv_at (B := [0, 1, 3, 7, 15, 31, 63, 0, 128, 384, 896, 1920, 3968, 8064, 127, 32767, 65535]) [0, 1, 2, 3, 4, 5, 6, 7, 8, 9, 10, 11, 12, 13, 14, 15, 16] (fun a0_ b a w' => a = putSel a0_ b [(0, 16, .pointer (some ⟨gh, 0, none⟩)), (1, 17, .pointer (some ⟨gh, 0, none⟩)), (2, 18, .pointer (some ⟨gh, 1, none⟩)), (3, 19, .slice (some ⟨g, 0, none⟩) n cap), (4, 20, .pointer (some ⟨g, 0, none⟩)), (5, 21, .pointer (some ⟨g, 0, none⟩)), (6, 22, .int .i64 x0), (7, 23, .pointer (some ⟨gh, 0, none⟩)), (8, 24, .pointer (some ⟨gh, 0, none⟩)), (9, 25, .pointer (some ⟨gh, 1, none⟩)), (10, 26, .slice (some ⟨g, 0, none⟩) n cap), (11, 27, .pointer (some ⟨g, 0, none⟩)), (12, 28, .pointer (some ⟨g, 1, none⟩)), (13, 29, rv (x0, x1, x2, x3, x4)), (14, 2, .int .i64 x0), (16, 4, .bool true)] ∧ One W1.drew (fun w' => w' = W2) 15 b w') rfl (by kernel_rfl) (by kernel_rfl) (by kernel_rfl) ?_ ?_ ?_
  · exact ⟨by simp only [putSel, Bool.false_eq_true, if_false], One.start⟩
  · refine steps_cons (by rintro b a w' ⟨ha, HI⟩ hb hon hoff; refine ⟨_, rfl, fun K hK => ?_⟩; have e0 := poff ha (t := 0) rfl rfl; exact value_ (v := .pointer (some ⟨gh, 0, none⟩)) (by rfl) rfl (by clear HI ha; go_simp) (hK.out _ _ ⟨upk ha 0 hb rfl rfl, HI.low (by decide)⟩)) ?_
    refine steps_cons (by rintro b a w' ⟨ha, HI⟩ hb hon hoff; refine ⟨_, rfl, fun K hK => ?_⟩; have e16 := pon ha 0 (hon 0 rfl) rfl rfl rfl; exact value_ (v := .pointer (some ⟨gh, 0, none⟩)) (by rfl) rfl (by clear HI ha; go_simp) (hK.out _ _ ⟨upk ha 1 hb rfl rfl, HI.low (by decide)⟩)) ?_
    refine steps_cons (by rintro b a w' ⟨ha, HI⟩ hb hon hoff; refine ⟨_, rfl, fun K hK => ?_⟩; have e17 := pon ha 1 (hon 1 rfl) rfl rfl rfl; exact value_ (v := .pointer (some ⟨gh, 1, none⟩)) (by rfl) rfl (by clear HI ha; go_simp) (hK.out _ _ ⟨upk ha 2 hb rfl rfl, HI.low (by decide)⟩)) ?_
    refine steps_cons (by rintro b a w' ⟨ha, HI⟩ hb hon hoff; refine ⟨_, rfl, fun K hK => ?_⟩; have e18 := pon ha 2 (hon 2 rfl) rfl rfl rfl; have k0_ := bc (HI.below HB1.out HB2.out) hgl hc; have kz_ := bz (HI.below HB1.out HB2.out) hgl; exact value_ (v := .slice (some ⟨g, 0, none⟩) n cap) (by rfl) rfl (by clear HI ha; go_simp) (hK.out _ _ ⟨upk ha 3 hb rfl rfl, HI.low (by decide)⟩)) ?_
    refine steps_cons (by rintro b a w' ⟨ha, HI⟩ hb hon hoff; refine ⟨_, rfl, fun K hK => ?_⟩; have e19 := pon ha 3 (hon 3 rfl) rfl rfl rfl; exact value_ (v := .pointer (some ⟨g, 0, none⟩)) (by rfl) rfl (by clear HI ha; go_simp) (hK.out _ _ ⟨upk ha 4 hb rfl rfl, HI.low (by decide)⟩)) ?_
    refine steps_cons (by rintro b a w' ⟨ha, HI⟩ hb hon hoff; refine ⟨_, rfl, fun K hK => ?_⟩; have e20 := pon ha 4 (hon 4 rfl) rfl rfl rfl; exact value_ (v := .pointer (some ⟨g, 0, none⟩)) (by rfl) rfl (by clear HI ha; go_simp) (hK.out _ _ ⟨upk ha 5 hb rfl rfl, HI.low (by decide)⟩)) ?_
    refine steps_cons (by rintro b a w' ⟨ha, HI⟩ hb hon hoff; refine ⟨_, rfl, fun K hK => ?_⟩; have e21 := pon ha 5 (hon 5 rfl) rfl rfl rfl; have k0_ := bc (HI.below HB1.out HB2.out) hgg u0; have kz_ := bz (HI.below HB1.out HB2.out) hgg; exact value_ (v := .int .i64 x0) (by rfl) rfl (by clear HI ha; go_simp) (hK.out _ _ ⟨upk ha 6 hb rfl rfl, HI.low (by decide)⟩)) ?_
    refine steps_cons (by rintro b a w' ⟨ha, HI⟩ hb hon hoff; refine ⟨_, rfl, fun K hK => ?_⟩; have e0 := poff ha (t := 0) rfl rfl; exact value_ (v := .pointer (some ⟨gh, 0, none⟩)) (by rfl) rfl (by clear HI ha; go_simp) (hK.out _ _ ⟨upk ha 7 hb rfl rfl, HI.low (by decide)⟩)) ?_
    refine steps_cons (by rintro b a w' ⟨ha, HI⟩ hb hon hoff; refine ⟨_, rfl, fun K hK => ?_⟩; have e23 := pon ha 7 (hon 7 rfl) rfl rfl rfl; exact value_ (v := .pointer (some ⟨gh, 0, none⟩)) (by rfl) rfl (by clear HI ha; go_simp) (hK.out _ _ ⟨upk ha 8 hb rfl rfl, HI.low (by decide)⟩)) ?_
    refine steps_cons (by rintro b a w' ⟨ha, HI⟩ hb hon hoff; refine ⟨_, rfl, fun K hK => ?_⟩; have e24 := pon ha 8 (hon 8 rfl) rfl rfl rfl; exact value_ (v := .pointer (some ⟨gh, 1, none⟩)) (by rfl) rfl (by clear HI ha; go_simp) (hK.out _ _ ⟨upk ha 9 hb rfl rfl, HI.low (by decide)⟩)) ?_
    refine steps_cons (by rintro b a w' ⟨ha, HI⟩ hb hon hoff; refine ⟨_, rfl, fun K hK => ?_⟩; have e25 := pon ha 9 (hon 9 rfl) rfl rfl rfl; have k0_ := bc (HI.below HB1.out HB2.out) hgl hc; have kz_ := bz (HI.below HB1.out HB2.out) hgl; exact value_ (v := .slice (some ⟨g, 0, none⟩) n cap) (by rfl) rfl (by clear HI ha; go_simp) (hK.out _ _ ⟨upk ha 10 hb rfl rfl, HI.low (by decide)⟩)) ?_
    refine steps_cons (by rintro b a w' ⟨ha, HI⟩ hb hon hoff; refine ⟨_, rfl, fun K hK => ?_⟩; have e26 := pon ha 10 (hon 10 rfl) rfl rfl rfl; exact value_ (v := .pointer (some ⟨g, 0, none⟩)) (by rfl) rfl (by clear HI ha; go_simp) (hK.out _ _ ⟨upk ha 11 hb rfl rfl, HI.low (by decide)⟩)) ?_
    refine steps_cons (by rintro b a w' ⟨ha, HI⟩ hb hon hoff; refine ⟨_, rfl, fun K hK => ?_⟩; have e27 := pon ha 11 (hon 11 rfl) rfl rfl rfl; exact value_ (v := .pointer (some ⟨g, 1, none⟩)) (by rfl) rfl (by clear HI ha; go_simp) (hK.out _ _ ⟨upk ha 12 hb rfl rfl, HI.low (by decide)⟩)) ?_
    refine steps_cons (by rintro b a w' ⟨ha, HI⟩ hb hon hoff; refine ⟨_, rfl, fun K hK => ?_⟩; have e28 := pon ha 12 (hon 12 rfl) rfl rfl rfl; have k0_ := bc (HI.below HB1.out HB2.out) hgg u1; have k1_ := bc (HI.below HB1.out HB2.out) hgg u2; have k2_ := bc (HI.below HB1.out HB2.out) hgg u3; have k3_ := bc (HI.below HB1.out HB2.out) hgg u4; have kz_ := bz (HI.below HB1.out HB2.out) hgg; exact value_ (v := rv (x0, x1, x2, x3, x4)) (by rfl) rfl (by clear HI ha; go_simp) (hK.out _ _ ⟨upk ha 13 hb rfl rfl, HI.low (by decide)⟩)) ?_
    refine steps_cons (by rintro b a w' ⟨ha, HI⟩ hb hon hoff; refine ⟨_, rfl, fun K hK => ?_⟩; have e22 := pon ha 6 (hon 6 rfl) rfl rfl rfl; exact value_ (v := .int .i64 x0) (by rfl) rfl (by clear HI ha; go_simp) (hK.out _ _ ⟨upk ha 14 hb rfl rfl, HI.low (by decide)⟩)) ?_
    refine steps_cons (by rintro b a w' ⟨ha, HI⟩ hb hon hoff; refine ⟨_, rfl, fun K hK => ?_⟩; have e3 := poff ha (t := 3) rfl rfl; have e29 := pon ha 13 (hon 13 rfl) rfl rfl rfl; obtain rfl := HI.n hb; exact skip_ (by rfl) rfl (by unfold execOp; simp [Act.eval, e3, e29, HS.out]) (hK.out _ _ ⟨ups ha rfl, One.set HW2.out.symm⟩)) ?_
    refine steps_cons (by rintro b a w' ⟨ha, HI⟩ hb hon hoff; refine ⟨_, rfl, fun K hK => ?_⟩; exact value_ (v := .bool true) (by rfl) rfl (by clear HI ha; go_simp) (hK.out _ _ ⟨upk ha 15 hb rfl rfl, HI.low (by decide)⟩)) ?_
    exact steps_nil
  · rintro b a w' hall ⟨ha, HI⟩
    have hb0_ := hall 0 rfl; have hb1_ := hall 1 rfl; have hb2_ := hall 2 rfl; have hb3_ := hall 3 rfl; have hb4_ := hall 4 rfl; have hb5_ := hall 5 rfl; have hb6_ := hall 6 rfl; have hb7_ := hall 7 rfl
    have hb8_ := hall 8 rfl; have hb9_ := hall 9 rfl; have hb10_ := hall 10 rfl; have hb11_ := hall 11 rfl; have hb12_ := hall 12 rfl; have hb13_ := hall 13 rfl; have hb14_ := hall 14 rfl; have hb15_ := hall 15 rfl
    have hb16_ := hall 16 rfl
    subst ha
    simp only [putSel, hb0_, hb1_, hb2_, hb3_, hb4_, hb5_, hb6_, hb7_, hb8_, hb9_, hb10_, hb11_, hb12_, hb13_, hb14_, hb16_, if_true, Act.put, List.setIfInBounds_toArray, List.set_cons_zero, List.set_cons_succ]
    obtain rfl := HI.y hb15_
    clear hall HI hb0_ hb1_ hb2_ hb3_ hb4_ hb5_ hb6_ hb7_ hb8_ hb9_ hb10_ hb11_ hb12_ hb13_ hb14_ hb15_ hb16_
    refine ‹∀ (a : Act) (w : World), Code.wp Try.prog _ _ a w → _› _ _ ?_
    obtain ⟨v0, v1, v2, v3⟩ := HV.out
    go_wp2
    exact bodyPost_ret (v := .tuple #[.int .i64 x0, rv (x0, x1, x2, x3, x4), .bool true]) (by simp [results, Try.results12, go_sem, v0, v1, v2, v3]) rfl ⟨rfl, HB2.out _ rfl⟩
theorem Top_at (w : World) (B gh bm : Nat) (kind : Int) (v : Value) (l : List It) (hl : l.length ≤ 1000000) (h : HS w B gh kind v bm l) :
    Calls Try.prog 12 #[.pointer (some ⟨gh, 0, none⟩)] w fun r w' => r = .returned (.tuple #[.int .i64 (at_ l 0).1, rv (at_ l 0), .bool (decide (0 < l.length))]) ∧ Below w.heap.size w w' := by
  rcases h.row.read with ⟨rfl, rfl⟩ | ⟨g, cap, rfl, _⟩
  · exact Top_none w B gh bm kind none 0 h
  · by_cases h0 : 0 < l.length
    · rw [decide_eq_true h0]
      exact Top_some w B gh g cap bm _ kind l rfl h0 hl h _ rfl
    · obtain rfl : l = [] := List.eq_nil_of_length_eq_zero (by omega)
      exact Top_none w B gh bm kind _ cap h
end Go.Proofs.Ytiebpmbongmgkaa.HpI
