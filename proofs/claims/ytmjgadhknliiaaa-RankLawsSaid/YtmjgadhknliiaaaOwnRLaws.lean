/- The law evenhandedlaw4.RankLaws: of two that are unlike one goes first, and not the other one; going first carries over: a walk of the law's own code. No condition. -/
import Derived.Test.YtmjgadhknliiaaaR3
import Derived.Deep.CutBlock
set_option linter.unusedVariables false
set_option linter.unusedSimpArgs false
namespace Go.Proofs.Ytmjgadhknliiaaa.OwnRLaws
open Go.RowKit Go.Proofs.Ytmjgadhknliiaaa.Kit Go.Proofs.Ytmjgadhknliiaaa.R3
open Go.Proofs.YtmjgadhknliiaaaW.PrintLast
open Go.Proofs.YtmjgadhknliiaaaW.PrintWords (run_store_run)
def Six (w wc : World) (g0 g1 g2 : Nat) (p : Nat → Nat → Int) : Prop := At wc w.heap.size (p 0) ∧ At wc (w.heap.size + 1) (p 1) ∧ At wc (w.heap.size + 1 + 1) (p 2) ∧ At wc g0 (p 0) ∧ At wc g1 (p 1) ∧ At wc g2 (p 2) ∧ Below w.heap.size w wc
theorem Six.keep {w wc w' : World} {g0 g1 g2 : Nat} {p : Nat → Nat → Int} (h : Six w wc g0 g1 g2 p) (hb : Below wc.heap.size wc w') : Six w w' g0 g1 g2 p := by
  obtain ⟨h0, h1, h2, h3, h4, h5, h6⟩ := h
  exact ⟨h0.below hb, h1.below hb, h2.below hb, h3.below hb, h4.below hb, h5.below hb, below_then h6 h6.size hb⟩
set_option maxHeartbeats 16000000 in
set_option maxRecDepth 100000 in
theorem core (p : Nat → Nat → Int) (lxy lyx lyz lxz inv ne : Bool) (w : World)
    (AW : ∀ w, Side (Calls Try.prog 8 #[] w fun r w' => r = .returned (.bool true) ∧ Below w.heap.size w w'))
    (MA : ∀ a b c d w, Side (Calls Try.prog 11 #[.agg #[.int .i64 a, .int .i64 b, .int .i64 c, .int .i64 d]] w fun r w' => r = .returned (.agg #[.int .i64 a, .int .i64 b, .int .i64 c, .int .i64 d]) ∧ Below w.heap.size w w'))
    (XY : ∀ w, Side (Calls Try.prog 10 #[.agg #[.int .i64 (p 0 0), .int .i64 (p 0 1), .int .i64 (p 0 2), .int .i64 (p 0 3)], .agg #[.int .i64 (p 1 0), .int .i64 (p 1 1), .int .i64 (p 1 2), .int .i64 (p 1 3)]] w fun r w' => r = .returned (.bool lxy) ∧ Below w.heap.size w w'))
    (YX : ∀ w, Side (Calls Try.prog 10 #[.agg #[.int .i64 (p 1 0), .int .i64 (p 1 1), .int .i64 (p 1 2), .int .i64 (p 1 3)], .agg #[.int .i64 (p 0 0), .int .i64 (p 0 1), .int .i64 (p 0 2), .int .i64 (p 0 3)]] w fun r w' => r = .returned (.bool lyx) ∧ Below w.heap.size w w'))
    (YZ : ∀ w, Side (Calls Try.prog 10 #[.agg #[.int .i64 (p 1 0), .int .i64 (p 1 1), .int .i64 (p 1 2), .int .i64 (p 1 3)], .agg #[.int .i64 (p 2 0), .int .i64 (p 2 1), .int .i64 (p 2 2), .int .i64 (p 2 3)]] w fun r w' => r = .returned (.bool lyz) ∧ Below w.heap.size w w'))
    (XZ : ∀ w, Side (Calls Try.prog 10 #[.agg #[.int .i64 (p 0 0), .int .i64 (p 0 1), .int .i64 (p 0 2), .int .i64 (p 0 3)], .agg #[.int .i64 (p 2 0), .int .i64 (p 2 1), .int .i64 (p 2 2), .int .i64 (p 2 3)]] w fun r w' => r = .returned (.bool lxz) ∧ Below w.heap.size w w'))
    (XX : ∀ w, Side (Calls Try.prog 10 #[.agg #[.int .i64 (p 0 0), .int .i64 (p 0 1), .int .i64 (p 0 2), .int .i64 (p 0 3)], .agg #[.int .i64 (p 0 0), .int .i64 (p 0 1), .int .i64 (p 0 2), .int .i64 (p 0 3)]] w fun r w' => r = .returned (.bool false) ∧ Below w.heap.size w w'))
    (H1 : lxy = true → lyx = false) (H3 : inv = false → ne = true → lxy = false → lyx = true) (H4 : inv = false → lxy = true → lyz = true → lxz = true) (hne : (p 0 3 != p 1 3) = ne)
    (hI : ((((p 0 1 != 0) && (p 0 1 != 1)) || ((p 1 1 != 0) && (p 1 1 != 1))) || ((p 2 1 != 0) && (p 2 1 != 1))) = inv) :
    Calls Try.prog 4 #[.agg #[.int .i64 (p 0 0), .int .i64 (p 0 1), .int .i64 (p 0 2), .int .i64 (p 0 3)], .agg #[.int .i64 (p 1 0), .int .i64 (p 1 1), .int .i64 (p 1 2), .int .i64 (p 1 3)], .agg #[.int .i64 (p 2 0), .int .i64 (p 2 1), .int .i64 (p 2 2), .int .i64 (p 2 3)]] w fun r w' => r = .returned (.bool true) ∧ Below w.heap.size w w' := by
  have P := Side.mk (And.intro H1 (And.intro H3 (And.intro H4 (And.intro hne hI))))
  clear H1 H3 H4 hne hI
  go_enter Try.func4, Try.ntmps4
  go_wp2_with fail
  refine (AW _).out.mono ?_
  rintro e w1 ⟨rfl, h1⟩
  obtain ⟨hc1, hf1⟩ := bcell h1
  have z1 := h1.size
  simp at z1
  have k00 : w1.cell? ⟨w.heap.size, 0, none⟩ = some (.int .i64 (p 0 0)) := (hc1 _ _ (by first | (simp; done) | (simp; omega))).trans (by go_simp)
  have k01 : w1.cell? ⟨w.heap.size, 1, none⟩ = some (.int .i64 (p 0 1)) := (hc1 _ _ (by first | (simp; done) | (simp; omega))).trans (by go_simp)
  have k02 : w1.cell? ⟨w.heap.size, 2, none⟩ = some (.int .i64 (p 0 2)) := (hc1 _ _ (by first | (simp; done) | (simp; omega))).trans (by go_simp)
  have k03 : w1.cell? ⟨w.heap.size, 3, none⟩ = some (.int .i64 (p 0 3)) := (hc1 _ _ (by first | (simp; done) | (simp; omega))).trans (by go_simp)
  have k10 : w1.cell? ⟨w.heap.size + 1, 0, none⟩ = some (.int .i64 (p 1 0)) := (hc1 _ _ (by first | (simp; done) | (simp; omega))).trans (by go_simp)
  have k11 : w1.cell? ⟨w.heap.size + 1, 1, none⟩ = some (.int .i64 (p 1 1)) := (hc1 _ _ (by first | (simp; done) | (simp; omega))).trans (by go_simp)
  have k12 : w1.cell? ⟨w.heap.size + 1, 2, none⟩ = some (.int .i64 (p 1 2)) := (hc1 _ _ (by first | (simp; done) | (simp; omega))).trans (by go_simp)
  have k13 : w1.cell? ⟨w.heap.size + 1, 3, none⟩ = some (.int .i64 (p 1 3)) := (hc1 _ _ (by first | (simp; done) | (simp; omega))).trans (by go_simp)
  have k20 : w1.cell? ⟨w.heap.size + 1 + 1, 0, none⟩ = some (.int .i64 (p 2 0)) := (hc1 _ _ (by first | (simp; done) | (simp; omega))).trans (by go_simp)
  have k21 : w1.cell? ⟨w.heap.size + 1 + 1, 1, none⟩ = some (.int .i64 (p 2 1)) := (hc1 _ _ (by first | (simp; done) | (simp; omega))).trans (by go_simp)
  have k22 : w1.cell? ⟨w.heap.size + 1 + 1, 2, none⟩ = some (.int .i64 (p 2 2)) := (hc1 _ _ (by first | (simp; done) | (simp; omega))).trans (by go_simp)
  have k23 : w1.cell? ⟨w.heap.size + 1 + 1, 3, none⟩ = some (.int .i64 (p 2 3)) := (hc1 _ _ (by first | (simp; done) | (simp; omega))).trans (by go_simp)
  have y3 : w.heap.size + 1 + 1 < w1.heap.size := by omega
  have g1 : Below w.heap.size w w1 := by
    refine below_then ?_ ?_ h1
    · (repeat (with_reducible first | exact Below.refl _ _ | apply below_drewN | apply below_drew | apply below_alloc))
    · simp; omega
  have PA : Side (∀ i, i < 3 → At w1 (w.heap.size + i) (p i)) := ⟨by
    intro i hi
    rcases (by omega : i = 0 ∨ i = 1 ∨ i = 2) with rfl | rfl | rfl
    · exact ⟨k00, k01, k02, k03, by omega⟩
    · exact ⟨k10, k11, k12, k13, by omega⟩
    · exact ⟨k20, k21, k22, k23, by omega⟩⟩
  clear hc1 hf1 h1 z1
  go_upto_region 3 with (fail)
  go_cut [7, 8, 9] (fun v7 v8 v9 wc => ∃ g0 g1 g2 : Nat, v7 = .pointer (some ⟨g0, 0, none⟩) ∧ v8 = .pointer (some ⟨g1, 0, none⟩) ∧ v9 = .pointer (some ⟨g2, 0, none⟩) ∧ Six w wc g0 g1 g2 p)
  case first =>
    clear k00 k01 k02 k03 k10 k11 k12 k13 k20 k21 k22 k23
    refine start_ (n := 12) (S := fun w' => True) (ds := []) #[false, false, false, false, false, false, false, false, false, false, false, false] (by kernel_rfl) rfl rfl trivial (fun _ => ?_)
    refine inv_at (B := [0, 1, 0, 4, 0, 16, 0, 0, 0, 67, 140, 304]) [0, 1, 2, 3, 4, 5, 6, 7, 8, 9, 10, 11] (fun a0_ b a w' => ∃ g : Nat → Nat, a = putSel a0_ b [(0, 12, .agg #[.int .i64 (p 0 0), .int .i64 (p 0 1), .int .i64 (p 0 2), .int .i64 (p 0 3)]), (1, 13, .agg #[.int .i64 (p 0 0), .int .i64 (p 0 1), .int .i64 (p 0 2), .int .i64 (p 0 3)]), (2, 14, .agg #[.int .i64 (p 1 0), .int .i64 (p 1 1), .int .i64 (p 1 2), .int .i64 (p 1 3)]), (3, 15, .agg #[.int .i64 (p 1 0), .int .i64 (p 1 1), .int .i64 (p 1 2), .int .i64 (p 1 3)]), (4, 16, .agg #[.int .i64 (p 2 0), .int .i64 (p 2 1), .int .i64 (p 2 2), .int .i64 (p 2 3)]), (5, 17, .agg #[.int .i64 (p 2 0), .int .i64 (p 2 1), .int .i64 (p 2 2), .int .i64 (p 2 3)]), (6, 7, .pointer (some ⟨g 0, 0, none⟩)), (7, 8, .pointer (some ⟨g 1, 0, none⟩)), (8, 9, .pointer (some ⟨g 2, 0, none⟩))] ∧ R3 w 26 p g b w') rfl (by kernel_rfl) (by kernel_rfl) (by kernel_rfl) ?_ ?_ ?_
    · exact ⟨fun _ => 0, by simp only [putSel, Bool.false_eq_true, if_false], R3.begin (below_drew g1) (fun i hi => PA.out i hi)⟩
    · clear PA
      refine steps_cons ?_ ?_
      · rintro b a w' ⟨g, ha, HR⟩ hb_ hon hoff
        refine ⟨_, rfl, fun K hK => ?_⟩
        have e3 : a.tmps[3]? = some (.pointer (some ⟨w.heap.size, 0, none⟩)) := by rw [ha]; exact (putSel_off rfl).trans rfl
        have k0 : w'.cell? ⟨w.heap.size, 0, none⟩ = some (.int .i64 (p 0 0)) := (HR.params 0 (by omega)).1
        have k1 : w'.cell? ⟨w.heap.size, 1, none⟩ = some (.int .i64 (p 0 1)) := (HR.params 0 (by omega)).2.1
        have k2 : w'.cell? ⟨w.heap.size, 2, none⟩ = some (.int .i64 (p 0 2)) := (HR.params 0 (by omega)).2.2.1
        have k3 : w'.cell? ⟨w.heap.size, 3, none⟩ = some (.int .i64 (p 0 3)) := (HR.params 0 (by omega)).2.2.2.1
        refine value_ (w1 := w') (v := .agg #[.int .i64 (p 0 0), .int .i64 (p 0 1), .int .i64 (p 0 2), .int .i64 (p 0 3)]) (by rfl) rfl ?_ ?_
        · clear HR ha
          go_simp
        · refine hK.out _ _ ⟨g, ?_, HR.call (Below.refl _ _) (fun k hk => up_ne (by omega))⟩
          rw [ha]; exact putSel_upk 0 hb_ rfl rfl rfl
      refine steps_cons ?_ ?_
      · rintro b a w' ⟨g, ha, HR⟩ hb_ hon hoff
        refine ⟨_, rfl, fun K hK => ?_⟩
        have e12 : a.tmps[12]? = some (.agg #[.int .i64 (p 0 0), .int .i64 (p 0 1), .int .i64 (p 0 2), .int .i64 (p 0 3)]) := by rw [ha]; exact putSel_on (e := (0, 12, .agg #[.int .i64 (p 0 0), .int .i64 (p 0 1), .int .i64 (p 0 2), .int .i64 (p 0 3)])) 0 rfl rfl (hon 0 (by kernel_rfl)) rfl
        refine goes_ Try.func11 (by kernel_rfl) rfl #[.agg #[.int .i64 (p 0 0), .int .i64 (p 0 1), .int .i64 (p 0 2), .int .i64 (p 0 3)]] (by rfl) rfl rfl (by simp [Act.eval, e12]) ?_
        refine (MA _ _ _ _ _).out.mono ?_
        rintro e w'' ⟨rfl, hbc⟩
        refine ⟨_, rfl, hK.out _ _ ⟨g, ?_, HR.call hbc (fun k hk => up_ne (by omega))⟩⟩
        rw [ha]; exact putSel_upk 1 hb_ rfl rfl rfl
      refine steps_cons ?_ ?_
      · rintro b a w' ⟨g, ha, HR⟩ hb_ hon hoff
        refine ⟨_, rfl, fun K hK => ?_⟩
        have e4 : a.tmps[4]? = some (.pointer (some ⟨w.heap.size + 1, 0, none⟩)) := by rw [ha]; exact (putSel_off rfl).trans rfl
        have k0 : w'.cell? ⟨w.heap.size + 1, 0, none⟩ = some (.int .i64 (p 1 0)) := (HR.params 1 (by omega)).1
        have k1 : w'.cell? ⟨w.heap.size + 1, 1, none⟩ = some (.int .i64 (p 1 1)) := (HR.params 1 (by omega)).2.1
        have k2 : w'.cell? ⟨w.heap.size + 1, 2, none⟩ = some (.int .i64 (p 1 2)) := (HR.params 1 (by omega)).2.2.1
        have k3 : w'.cell? ⟨w.heap.size + 1, 3, none⟩ = some (.int .i64 (p 1 3)) := (HR.params 1 (by omega)).2.2.2.1
        refine value_ (w1 := w') (v := .agg #[.int .i64 (p 1 0), .int .i64 (p 1 1), .int .i64 (p 1 2), .int .i64 (p 1 3)]) (by rfl) rfl ?_ ?_
        · clear HR ha
          go_simp
        · refine hK.out _ _ ⟨g, ?_, HR.call (Below.refl _ _) (fun k hk => up_ne (by omega))⟩
          rw [ha]; exact putSel_upk 2 hb_ rfl rfl rfl
      refine steps_cons ?_ ?_
      · rintro b a w' ⟨g, ha, HR⟩ hb_ hon hoff
        refine ⟨_, rfl, fun K hK => ?_⟩
        have e14 : a.tmps[14]? = some (.agg #[.int .i64 (p 1 0), .int .i64 (p 1 1), .int .i64 (p 1 2), .int .i64 (p 1 3)]) := by rw [ha]; exact putSel_on (e := (2, 14, .agg #[.int .i64 (p 1 0), .int .i64 (p 1 1), .int .i64 (p 1 2), .int .i64 (p 1 3)])) 2 rfl rfl (hon 2 (by kernel_rfl)) rfl
        refine goes_ Try.func11 (by kernel_rfl) rfl #[.agg #[.int .i64 (p 1 0), .int .i64 (p 1 1), .int .i64 (p 1 2), .int .i64 (p 1 3)]] (by rfl) rfl rfl (by simp [Act.eval, e14]) ?_
        refine (MA _ _ _ _ _).out.mono ?_
        rintro e w'' ⟨rfl, hbc⟩
        refine ⟨_, rfl, hK.out _ _ ⟨g, ?_, HR.call hbc (fun k hk => up_ne (by omega))⟩⟩
        rw [ha]; exact putSel_upk 3 hb_ rfl rfl rfl
      refine steps_cons ?_ ?_
      · rintro b a w' ⟨g, ha, HR⟩ hb_ hon hoff
        refine ⟨_, rfl, fun K hK => ?_⟩
        have e5 : a.tmps[5]? = some (.pointer (some ⟨w.heap.size + 1 + 1, 0, none⟩)) := by rw [ha]; exact (putSel_off rfl).trans rfl
        have k0 : w'.cell? ⟨w.heap.size + 1 + 1, 0, none⟩ = some (.int .i64 (p 2 0)) := (HR.params 2 (by omega)).1
        have k1 : w'.cell? ⟨w.heap.size + 1 + 1, 1, none⟩ = some (.int .i64 (p 2 1)) := (HR.params 2 (by omega)).2.1
        have k2 : w'.cell? ⟨w.heap.size + 1 + 1, 2, none⟩ = some (.int .i64 (p 2 2)) := (HR.params 2 (by omega)).2.2.1
        have k3 : w'.cell? ⟨w.heap.size + 1 + 1, 3, none⟩ = some (.int .i64 (p 2 3)) := (HR.params 2 (by omega)).2.2.2.1
        refine value_ (w1 := w') (v := .agg #[.int .i64 (p 2 0), .int .i64 (p 2 1), .int .i64 (p 2 2), .int .i64 (p 2 3)]) (by rfl) rfl ?_ ?_
        · clear HR ha
          go_simp
        · refine hK.out _ _ ⟨g, ?_, HR.call (Below.refl _ _) (fun k hk => up_ne (by omega))⟩
          rw [ha]; exact putSel_upk 4 hb_ rfl rfl rfl
      refine steps_cons ?_ ?_
      · rintro b a w' ⟨g, ha, HR⟩ hb_ hon hoff
        refine ⟨_, rfl, fun K hK => ?_⟩
        have e16 : a.tmps[16]? = some (.agg #[.int .i64 (p 2 0), .int .i64 (p 2 1), .int .i64 (p 2 2), .int .i64 (p 2 3)]) := by rw [ha]; exact putSel_on (e := (4, 16, .agg #[.int .i64 (p 2 0), .int .i64 (p 2 1), .int .i64 (p 2 2), .int .i64 (p 2 3)])) 4 rfl rfl (hon 4 (by kernel_rfl)) rfl
        refine goes_ Try.func11 (by kernel_rfl) rfl #[.agg #[.int .i64 (p 2 0), .int .i64 (p 2 1), .int .i64 (p 2 2), .int .i64 (p 2 3)]] (by rfl) rfl rfl (by simp [Act.eval, e16]) ?_
        refine (MA _ _ _ _ _).out.mono ?_
        rintro e w'' ⟨rfl, hbc⟩
        refine ⟨_, rfl, hK.out _ _ ⟨g, ?_, HR.call hbc (fun k hk => up_ne (by omega))⟩⟩
        rw [ha]; exact putSel_upk 5 hb_ rfl rfl rfl
      refine steps_cons ?_ ?_
      · rintro b a w' ⟨g, ha, HR⟩ hb_ hon hoff
        refine ⟨_, rfl, fun K hK => ?_⟩
        refine value_ (w1 := w'.alloc (.cells #[.int .i64 0, .int .i64 0, .int .i64 0, .int .i64 0] 26)) (v := .pointer (some ⟨w'.heap.size, 0, none⟩)) (by rfl) rfl ?_ ?_
        · clear HR ha
          go_simp
        · refine hK.out _ _ ⟨fun j => if j = 0 then w'.heap.size else g j, ?_, HR.made 0 (by omega) (hoff 9 (by kernel_rfl)) _ rfl⟩
          rw [ha]; exact putSel_upk 6 hb_ rfl rfl rfl
      refine steps_cons ?_ ?_
      · rintro b a w' ⟨g, ha, HR⟩ hb_ hon hoff
        refine ⟨_, rfl, fun K hK => ?_⟩
        refine value_ (w1 := w'.alloc (.cells #[.int .i64 0, .int .i64 0, .int .i64 0, .int .i64 0] 26)) (v := .pointer (some ⟨w'.heap.size, 0, none⟩)) (by rfl) rfl ?_ ?_
        · clear HR ha
          go_simp
        · refine hK.out _ _ ⟨fun j => if j = 1 then w'.heap.size else g j, ?_, HR.made 1 (by omega) (hoff 10 (by kernel_rfl)) _ rfl⟩
          rw [ha]; exact putSel_upk 7 hb_ rfl rfl rfl
      refine steps_cons ?_ ?_
      · rintro b a w' ⟨g, ha, HR⟩ hb_ hon hoff
        refine ⟨_, rfl, fun K hK => ?_⟩
        refine value_ (w1 := w'.alloc (.cells #[.int .i64 0, .int .i64 0, .int .i64 0, .int .i64 0] 26)) (v := .pointer (some ⟨w'.heap.size, 0, none⟩)) (by rfl) rfl ?_ ?_
        · clear HR ha
          go_simp
        · refine hK.out _ _ ⟨fun j => if j = 2 then w'.heap.size else g j, ?_, HR.made 2 (by omega) (hoff 11 (by kernel_rfl)) _ rfl⟩
          rw [ha]; exact putSel_upk 8 hb_ rfl rfl rfl
      refine steps_cons ?_ ?_
      · rintro b a w' ⟨g, ha, HR⟩ hb_ hon hoff
        refine ⟨_, rfl, fun K hK => ?_⟩
        have e7 : a.tmps[7]? = some (.pointer (some ⟨g 0, 0, none⟩)) := by rw [ha]; exact putSel_on (e := (6, 7, .pointer (some ⟨g 0, 0, none⟩))) 6 rfl rfl (hon 6 (by kernel_rfl)) rfl
        have e13 : a.tmps[13]? = some (.agg #[.int .i64 (p 0 0), .int .i64 (p 0 1), .int .i64 (p 0 2), .int .i64 (p 0 3)]) := by rw [ha]; exact putSel_on (e := (1, 13, .agg #[.int .i64 (p 0 0), .int .i64 (p 0 1), .int .i64 (p 0 2), .int .i64 (p 0 3)])) 1 rfl rfl (hon 1 (by kernel_rfl)) rfl
        obtain ⟨hm, cs, hc, hs⟩ := HR.own 0 (by omega) (hon 6 (by kernel_rfl))
        have hst := run_store_run (P := Try.prog) (o := 0) 26 (.agg #[.int .i64 (p 0 0), .int .i64 (p 0 1), .int .i64 (p 0 2), .int .i64 (p 0 3)]) (four (p 0)) hc rfl (by kernel_rfl) (by rw [hs]; simp [four]) (by simp [four, Value.oneCell'])
        refine skip_ (w1 := w'.setCells (g 0) 0 (four (p 0))) (by rfl) rfl ?_ ?_
        · unfold execOp
          simp [Act.eval, e7, e13, hst]
        · refine hK.out _ _ ⟨g, ?_, HR.put 0 (by omega) (hon 6 (by kernel_rfl))⟩
          rw [ha]; exact (putSel_same rfl).symm
      refine steps_cons ?_ ?_
      · rintro b a w' ⟨g, ha, HR⟩ hb_ hon hoff
        refine ⟨_, rfl, fun K hK => ?_⟩
        have e8 : a.tmps[8]? = some (.pointer (some ⟨g 1, 0, none⟩)) := by rw [ha]; exact putSel_on (e := (7, 8, .pointer (some ⟨g 1, 0, none⟩))) 7 rfl rfl (hon 7 (by kernel_rfl)) rfl
        have e15 : a.tmps[15]? = some (.agg #[.int .i64 (p 1 0), .int .i64 (p 1 1), .int .i64 (p 1 2), .int .i64 (p 1 3)]) := by rw [ha]; exact putSel_on (e := (3, 15, .agg #[.int .i64 (p 1 0), .int .i64 (p 1 1), .int .i64 (p 1 2), .int .i64 (p 1 3)])) 3 rfl rfl (hon 3 (by kernel_rfl)) rfl
        obtain ⟨hm, cs, hc, hs⟩ := HR.own 1 (by omega) (hon 7 (by kernel_rfl))
        have hst := run_store_run (P := Try.prog) (o := 0) 26 (.agg #[.int .i64 (p 1 0), .int .i64 (p 1 1), .int .i64 (p 1 2), .int .i64 (p 1 3)]) (four (p 1)) hc rfl (by kernel_rfl) (by rw [hs]; simp [four]) (by simp [four, Value.oneCell'])
        refine skip_ (w1 := w'.setCells (g 1) 0 (four (p 1))) (by rfl) rfl ?_ ?_
        · unfold execOp
          simp [Act.eval, e8, e15, hst]
        · refine hK.out _ _ ⟨g, ?_, HR.put 1 (by omega) (hon 7 (by kernel_rfl))⟩
          rw [ha]; exact (putSel_same rfl).symm
      refine steps_cons ?_ ?_
      · rintro b a w' ⟨g, ha, HR⟩ hb_ hon hoff
        refine ⟨_, rfl, fun K hK => ?_⟩
        have e9 : a.tmps[9]? = some (.pointer (some ⟨g 2, 0, none⟩)) := by rw [ha]; exact putSel_on (e := (8, 9, .pointer (some ⟨g 2, 0, none⟩))) 8 rfl rfl (hon 8 (by kernel_rfl)) rfl
        have e17 : a.tmps[17]? = some (.agg #[.int .i64 (p 2 0), .int .i64 (p 2 1), .int .i64 (p 2 2), .int .i64 (p 2 3)]) := by rw [ha]; exact putSel_on (e := (5, 17, .agg #[.int .i64 (p 2 0), .int .i64 (p 2 1), .int .i64 (p 2 2), .int .i64 (p 2 3)])) 5 rfl rfl (hon 5 (by kernel_rfl)) rfl
        obtain ⟨hm, cs, hc, hs⟩ := HR.own 2 (by omega) (hon 8 (by kernel_rfl))
        have hst := run_store_run (P := Try.prog) (o := 0) 26 (.agg #[.int .i64 (p 2 0), .int .i64 (p 2 1), .int .i64 (p 2 2), .int .i64 (p 2 3)]) (four (p 2)) hc rfl (by kernel_rfl) (by rw [hs]; simp [four]) (by simp [four, Value.oneCell'])
        refine skip_ (w1 := w'.setCells (g 2) 0 (four (p 2))) (by rfl) rfl ?_ ?_
        · unfold execOp
          simp [Act.eval, e9, e17, hst]
        · refine hK.out _ _ ⟨g, ?_, HR.put 2 (by omega) (hon 8 (by kernel_rfl))⟩
          rw [ha]; exact (putSel_same rfl).symm
      exact steps_nil
    · rintro b a w' hall ⟨g, ha, HR⟩
      have hb0_ := hall 0 (by kernel_rfl)
      have hb1_ := hall 1 (by kernel_rfl)
      have hb2_ := hall 2 (by kernel_rfl)
      have hb3_ := hall 3 (by kernel_rfl)
      have hb4_ := hall 4 (by kernel_rfl)
      have hb5_ := hall 5 (by kernel_rfl)
      have hb6_ := hall 6 (by kernel_rfl)
      have hb7_ := hall 7 (by kernel_rfl)
      have hb8_ := hall 8 (by kernel_rfl)
      have hb9_ := hall 9 (by kernel_rfl)
      have hb10_ := hall 10 (by kernel_rfl)
      have hb11_ := hall 11 (by kernel_rfl)
      subst ha
      simp only [putSel, hb0_, hb1_, hb2_, hb3_, hb4_, hb5_, hb6_, hb7_, hb8_, hb9_, hb10_, hb11_, if_true, Act.put, List.setIfInBounds_toArray, List.set_cons_zero, List.set_cons_succ]
      have SX : Side (Six w w' (g 0) (g 1) (g 2) p) := ⟨HR.params 0 (by omega), HR.params 1 (by omega), HR.params 2 (by omega), HR.val 0 (by omega) hb9_, HR.val 1 (by omega) hb10_, HR.val 2 (by omega) hb11_, HR.below⟩
      clear HR hall hb0_ hb1_ hb2_ hb3_ hb4_ hb5_ hb6_ hb7_ hb8_ hb9_ hb10_ hb11_
      refine ‹∀ (a' : Act) (w' : World), Met _ a' w' → _› _ _ ?_
      go_meet
      case rel => exact ⟨_, _, _, rfl, rfl, rfl, SX.out⟩
  case rest =>
    obtain ⟨g0, g1, g2, rfl, rfl, rfl, six⟩ := hcut
    have S := Side.mk six
    clear six
    go_upto_region 4 with (fail)
    go_cut [30] (fun v wc => v = .bool false ∧ Side (Six w wc g0 g1 g2 p))
    case first =>
      cases lxy
      · skip
        have h := S.out
        have f30 : wc.cell? ⟨g0, 0, none⟩ = some (.int .i64 (p 0 0)) := h.2.2.2.1.1
        have f31 : wc.cell? ⟨g0, 1, none⟩ = some (.int .i64 (p 0 1)) := h.2.2.2.1.2.1
        have f32 : wc.cell? ⟨g0, 2, none⟩ = some (.int .i64 (p 0 2)) := h.2.2.2.1.2.2.1
        have f33 : wc.cell? ⟨g0, 3, none⟩ = some (.int .i64 (p 0 3)) := h.2.2.2.1.2.2.2.1
        have f40 : wc.cell? ⟨g1, 0, none⟩ = some (.int .i64 (p 1 0)) := h.2.2.2.2.1.1
        have f41 : wc.cell? ⟨g1, 1, none⟩ = some (.int .i64 (p 1 1)) := h.2.2.2.2.1.2.1
        have f42 : wc.cell? ⟨g1, 2, none⟩ = some (.int .i64 (p 1 2)) := h.2.2.2.2.1.2.2.1
        have f43 : wc.cell? ⟨g1, 3, none⟩ = some (.int .i64 (p 1 3)) := h.2.2.2.2.1.2.2.2.1
        clear h
        go_wp2_with fail
        refine (XY _).out.mono ?_
        rintro e v0 ⟨rfl, hb⟩
        clear f30 f31 f32 f33 f40 f41 f42 f43
        have S0_ := Side.mk (S.out.keep hb)
        clear hb
        have h := S0_.out
        have f30 : v0.cell? ⟨g0, 0, none⟩ = some (.int .i64 (p 0 0)) := h.2.2.2.1.1
        have f31 : v0.cell? ⟨g0, 1, none⟩ = some (.int .i64 (p 0 1)) := h.2.2.2.1.2.1
        have f32 : v0.cell? ⟨g0, 2, none⟩ = some (.int .i64 (p 0 2)) := h.2.2.2.1.2.2.1
        have f33 : v0.cell? ⟨g0, 3, none⟩ = some (.int .i64 (p 0 3)) := h.2.2.2.1.2.2.2.1
        clear h
        go_wp2_with fail
        refine (XX _).out.mono ?_
        rintro e v1 ⟨rfl, hb⟩
        clear f30 f31 f32 f33
        have S1_ := Side.mk (S0_.out.keep hb)
        clear hb
        go_wp2
        go_meet
        case rel => exact ⟨rfl, S1_⟩
      · obtain rfl := P.out.1 rfl
        have h := S.out
        have f30 : wc.cell? ⟨g0, 0, none⟩ = some (.int .i64 (p 0 0)) := h.2.2.2.1.1
        have f31 : wc.cell? ⟨g0, 1, none⟩ = some (.int .i64 (p 0 1)) := h.2.2.2.1.2.1
        have f32 : wc.cell? ⟨g0, 2, none⟩ = some (.int .i64 (p 0 2)) := h.2.2.2.1.2.2.1
        have f33 : wc.cell? ⟨g0, 3, none⟩ = some (.int .i64 (p 0 3)) := h.2.2.2.1.2.2.2.1
        have f40 : wc.cell? ⟨g1, 0, none⟩ = some (.int .i64 (p 1 0)) := h.2.2.2.2.1.1
        have f41 : wc.cell? ⟨g1, 1, none⟩ = some (.int .i64 (p 1 1)) := h.2.2.2.2.1.2.1
        have f42 : wc.cell? ⟨g1, 2, none⟩ = some (.int .i64 (p 1 2)) := h.2.2.2.2.1.2.2.1
        have f43 : wc.cell? ⟨g1, 3, none⟩ = some (.int .i64 (p 1 3)) := h.2.2.2.2.1.2.2.2.1
        clear h
        go_wp2_with fail
        refine (XY _).out.mono ?_
        rintro e v0 ⟨rfl, hb⟩
        clear f30 f31 f32 f33 f40 f41 f42 f43
        have S0_ := Side.mk (S.out.keep hb)
        clear hb
        have h := S0_.out
        have f40 : v0.cell? ⟨g1, 0, none⟩ = some (.int .i64 (p 1 0)) := h.2.2.2.2.1.1
        have f41 : v0.cell? ⟨g1, 1, none⟩ = some (.int .i64 (p 1 1)) := h.2.2.2.2.1.2.1
        have f42 : v0.cell? ⟨g1, 2, none⟩ = some (.int .i64 (p 1 2)) := h.2.2.2.2.1.2.2.1
        have f43 : v0.cell? ⟨g1, 3, none⟩ = some (.int .i64 (p 1 3)) := h.2.2.2.2.1.2.2.2.1
        have f30 : v0.cell? ⟨g0, 0, none⟩ = some (.int .i64 (p 0 0)) := h.2.2.2.1.1
        have f31 : v0.cell? ⟨g0, 1, none⟩ = some (.int .i64 (p 0 1)) := h.2.2.2.1.2.1
        have f32 : v0.cell? ⟨g0, 2, none⟩ = some (.int .i64 (p 0 2)) := h.2.2.2.1.2.2.1
        have f33 : v0.cell? ⟨g0, 3, none⟩ = some (.int .i64 (p 0 3)) := h.2.2.2.1.2.2.2.1
        clear h
        go_wp2_with fail
        refine (YX _).out.mono ?_
        rintro e v1 ⟨rfl, hb⟩
        clear f40 f41 f42 f43 f30 f31 f32 f33
        have S1_ := Side.mk (S0_.out.keep hb)
        clear hb
        have h := S1_.out
        have f30 : v1.cell? ⟨g0, 0, none⟩ = some (.int .i64 (p 0 0)) := h.2.2.2.1.1
        have f31 : v1.cell? ⟨g0, 1, none⟩ = some (.int .i64 (p 0 1)) := h.2.2.2.1.2.1
        have f32 : v1.cell? ⟨g0, 2, none⟩ = some (.int .i64 (p 0 2)) := h.2.2.2.1.2.2.1
        have f33 : v1.cell? ⟨g0, 3, none⟩ = some (.int .i64 (p 0 3)) := h.2.2.2.1.2.2.2.1
        clear h
        go_wp2_with fail
        refine (XX _).out.mono ?_
        rintro e v2 ⟨rfl, hb⟩
        clear f30 f31 f32 f33
        have S2_ := Side.mk (S1_.out.keep hb)
        clear hb
        go_wp2
        go_meet
        case rel => exact ⟨rfl, S2_⟩
    case rest =>
      clear S
      obtain ⟨rfl, S⟩ := hcut
      go_upto_region 6 with (fail)
      go_cut [58] (fun v wc => v = .bool inv ∧ Side (Six w wc g0 g1 g2 p))
      case first =>
        have hI := P.out.2.2.2.2
        have h := S.out
        have f00 : wc.cell? ⟨w.heap.size, 0, none⟩ = some (.int .i64 (p 0 0)) := h.1.1
        have f01 : wc.cell? ⟨w.heap.size, 1, none⟩ = some (.int .i64 (p 0 1)) := h.1.2.1
        have f02 : wc.cell? ⟨w.heap.size, 2, none⟩ = some (.int .i64 (p 0 2)) := h.1.2.2.1
        have f03 : wc.cell? ⟨w.heap.size, 3, none⟩ = some (.int .i64 (p 0 3)) := h.1.2.2.2.1
        have f10 : wc.cell? ⟨w.heap.size + 1, 0, none⟩ = some (.int .i64 (p 1 0)) := h.2.1.1
        have f11 : wc.cell? ⟨w.heap.size + 1, 1, none⟩ = some (.int .i64 (p 1 1)) := h.2.1.2.1
        have f12 : wc.cell? ⟨w.heap.size + 1, 2, none⟩ = some (.int .i64 (p 1 2)) := h.2.1.2.2.1
        have f13 : wc.cell? ⟨w.heap.size + 1, 3, none⟩ = some (.int .i64 (p 1 3)) := h.2.1.2.2.2.1
        have f20 : wc.cell? ⟨w.heap.size + 1 + 1, 0, none⟩ = some (.int .i64 (p 2 0)) := h.2.2.1.1
        have f21 : wc.cell? ⟨w.heap.size + 1 + 1, 1, none⟩ = some (.int .i64 (p 2 1)) := h.2.2.1.2.1
        have f22 : wc.cell? ⟨w.heap.size + 1 + 1, 2, none⟩ = some (.int .i64 (p 2 2)) := h.2.2.1.2.2.1
        have f23 : wc.cell? ⟨w.heap.size + 1 + 1, 3, none⟩ = some (.int .i64 (p 2 3)) := h.2.2.1.2.2.2.1
        clear h
        rcases Bool.eq_false_or_eq_true (p 0 1 != 0) with a0 | a0 <;> rcases Bool.eq_false_or_eq_true (p 0 1 != 1) with a1 | a1 <;> rcases Bool.eq_false_or_eq_true (p 1 1 != 0) with b0 | b0 <;> rcases Bool.eq_false_or_eq_true (p 1 1 != 1) with b1 | b1 <;> rcases Bool.eq_false_or_eq_true (p 2 1 != 0) with c0 | c0
        all_goals
          simp only [a0, a1, b0, b1, c0, Bool.true_and, Bool.false_and, Bool.and_true, Bool.and_false, Bool.true_or, Bool.false_or, Bool.or_true, Bool.or_false] at hI
          have HI := Side.mk hI
          clear hI
          go_wp2
          go_meet
          case rel => exact ⟨by rw [← HI.out] <;> first | done | rfl | simp [*], S⟩
      case rest =>
        clear S
        obtain ⟨rfl, S⟩ := hcut
        cases inv
        · skip
          go_upto_region 8 with (fail)
          go_cut [75] (fun v wc => v = .bool false ∧ Side (Six w wc g0 g1 g2 p))
          case first =>
            have hne := P.out.2.2.2.1
            cases ne
            · skip
              have h := S.out
              have f00 : wc.cell? ⟨w.heap.size, 0, none⟩ = some (.int .i64 (p 0 0)) := h.1.1
              have f01 : wc.cell? ⟨w.heap.size, 1, none⟩ = some (.int .i64 (p 0 1)) := h.1.2.1
              have f02 : wc.cell? ⟨w.heap.size, 2, none⟩ = some (.int .i64 (p 0 2)) := h.1.2.2.1
              have f03 : wc.cell? ⟨w.heap.size, 3, none⟩ = some (.int .i64 (p 0 3)) := h.1.2.2.2.1
              have f10 : wc.cell? ⟨w.heap.size + 1, 0, none⟩ = some (.int .i64 (p 1 0)) := h.2.1.1
              have f11 : wc.cell? ⟨w.heap.size + 1, 1, none⟩ = some (.int .i64 (p 1 1)) := h.2.1.2.1
              have f12 : wc.cell? ⟨w.heap.size + 1, 2, none⟩ = some (.int .i64 (p 1 2)) := h.2.1.2.2.1
              have f13 : wc.cell? ⟨w.heap.size + 1, 3, none⟩ = some (.int .i64 (p 1 3)) := h.2.1.2.2.2.1
              clear h
              go_wp2
              go_meet
              case rel => exact ⟨rfl, S⟩
            · cases lxy
              · obtain rfl := P.out.2.1 rfl rfl rfl
                have h := S.out
                have f00 : wc.cell? ⟨w.heap.size, 0, none⟩ = some (.int .i64 (p 0 0)) := h.1.1
                have f01 : wc.cell? ⟨w.heap.size, 1, none⟩ = some (.int .i64 (p 0 1)) := h.1.2.1
                have f02 : wc.cell? ⟨w.heap.size, 2, none⟩ = some (.int .i64 (p 0 2)) := h.1.2.2.1
                have f03 : wc.cell? ⟨w.heap.size, 3, none⟩ = some (.int .i64 (p 0 3)) := h.1.2.2.2.1
                have f10 : wc.cell? ⟨w.heap.size + 1, 0, none⟩ = some (.int .i64 (p 1 0)) := h.2.1.1
                have f11 : wc.cell? ⟨w.heap.size + 1, 1, none⟩ = some (.int .i64 (p 1 1)) := h.2.1.2.1
                have f12 : wc.cell? ⟨w.heap.size + 1, 2, none⟩ = some (.int .i64 (p 1 2)) := h.2.1.2.2.1
                have f13 : wc.cell? ⟨w.heap.size + 1, 3, none⟩ = some (.int .i64 (p 1 3)) := h.2.1.2.2.2.1
                clear h
                have h := S.out
                have f30 : wc.cell? ⟨g0, 0, none⟩ = some (.int .i64 (p 0 0)) := h.2.2.2.1.1
                have f31 : wc.cell? ⟨g0, 1, none⟩ = some (.int .i64 (p 0 1)) := h.2.2.2.1.2.1
                have f32 : wc.cell? ⟨g0, 2, none⟩ = some (.int .i64 (p 0 2)) := h.2.2.2.1.2.2.1
                have f33 : wc.cell? ⟨g0, 3, none⟩ = some (.int .i64 (p 0 3)) := h.2.2.2.1.2.2.2.1
                have f40 : wc.cell? ⟨g1, 0, none⟩ = some (.int .i64 (p 1 0)) := h.2.2.2.2.1.1
                have f41 : wc.cell? ⟨g1, 1, none⟩ = some (.int .i64 (p 1 1)) := h.2.2.2.2.1.2.1
                have f42 : wc.cell? ⟨g1, 2, none⟩ = some (.int .i64 (p 1 2)) := h.2.2.2.2.1.2.2.1
                have f43 : wc.cell? ⟨g1, 3, none⟩ = some (.int .i64 (p 1 3)) := h.2.2.2.2.1.2.2.2.1
                clear h
                go_wp2_with fail
                refine (XY _).out.mono ?_
                rintro e v0 ⟨rfl, hb⟩
                (try clear f00 f01 f02 f03 f10 f11 f12 f13)
                clear f30 f31 f32 f33 f40 f41 f42 f43
                have S0_ := Side.mk (S.out.keep hb)
                clear hb
                have h := S0_.out
                have f40 : v0.cell? ⟨g1, 0, none⟩ = some (.int .i64 (p 1 0)) := h.2.2.2.2.1.1
                have f41 : v0.cell? ⟨g1, 1, none⟩ = some (.int .i64 (p 1 1)) := h.2.2.2.2.1.2.1
                have f42 : v0.cell? ⟨g1, 2, none⟩ = some (.int .i64 (p 1 2)) := h.2.2.2.2.1.2.2.1
                have f43 : v0.cell? ⟨g1, 3, none⟩ = some (.int .i64 (p 1 3)) := h.2.2.2.2.1.2.2.2.1
                have f30 : v0.cell? ⟨g0, 0, none⟩ = some (.int .i64 (p 0 0)) := h.2.2.2.1.1
                have f31 : v0.cell? ⟨g0, 1, none⟩ = some (.int .i64 (p 0 1)) := h.2.2.2.1.2.1
                have f32 : v0.cell? ⟨g0, 2, none⟩ = some (.int .i64 (p 0 2)) := h.2.2.2.1.2.2.1
                have f33 : v0.cell? ⟨g0, 3, none⟩ = some (.int .i64 (p 0 3)) := h.2.2.2.1.2.2.2.1
                clear h
                go_wp2_with fail
                refine (YX _).out.mono ?_
                rintro e v1 ⟨rfl, hb⟩
                clear f40 f41 f42 f43 f30 f31 f32 f33
                have S1_ := Side.mk (S0_.out.keep hb)
                clear hb
                go_wp2
                go_meet
                case rel => exact ⟨rfl, S1_⟩
              · skip
                have h := S.out
                have f00 : wc.cell? ⟨w.heap.size, 0, none⟩ = some (.int .i64 (p 0 0)) := h.1.1
                have f01 : wc.cell? ⟨w.heap.size, 1, none⟩ = some (.int .i64 (p 0 1)) := h.1.2.1
                have f02 : wc.cell? ⟨w.heap.size, 2, none⟩ = some (.int .i64 (p 0 2)) := h.1.2.2.1
                have f03 : wc.cell? ⟨w.heap.size, 3, none⟩ = some (.int .i64 (p 0 3)) := h.1.2.2.2.1
                have f10 : wc.cell? ⟨w.heap.size + 1, 0, none⟩ = some (.int .i64 (p 1 0)) := h.2.1.1
                have f11 : wc.cell? ⟨w.heap.size + 1, 1, none⟩ = some (.int .i64 (p 1 1)) := h.2.1.2.1
                have f12 : wc.cell? ⟨w.heap.size + 1, 2, none⟩ = some (.int .i64 (p 1 2)) := h.2.1.2.2.1
                have f13 : wc.cell? ⟨w.heap.size + 1, 3, none⟩ = some (.int .i64 (p 1 3)) := h.2.1.2.2.2.1
                clear h
                have h := S.out
                have f30 : wc.cell? ⟨g0, 0, none⟩ = some (.int .i64 (p 0 0)) := h.2.2.2.1.1
                have f31 : wc.cell? ⟨g0, 1, none⟩ = some (.int .i64 (p 0 1)) := h.2.2.2.1.2.1
                have f32 : wc.cell? ⟨g0, 2, none⟩ = some (.int .i64 (p 0 2)) := h.2.2.2.1.2.2.1
                have f33 : wc.cell? ⟨g0, 3, none⟩ = some (.int .i64 (p 0 3)) := h.2.2.2.1.2.2.2.1
                have f40 : wc.cell? ⟨g1, 0, none⟩ = some (.int .i64 (p 1 0)) := h.2.2.2.2.1.1
                have f41 : wc.cell? ⟨g1, 1, none⟩ = some (.int .i64 (p 1 1)) := h.2.2.2.2.1.2.1
                have f42 : wc.cell? ⟨g1, 2, none⟩ = some (.int .i64 (p 1 2)) := h.2.2.2.2.1.2.2.1
                have f43 : wc.cell? ⟨g1, 3, none⟩ = some (.int .i64 (p 1 3)) := h.2.2.2.2.1.2.2.2.1
                clear h
                go_wp2_with fail
                refine (XY _).out.mono ?_
                rintro e v0 ⟨rfl, hb⟩
                (try clear f00 f01 f02 f03 f10 f11 f12 f13)
                clear f30 f31 f32 f33 f40 f41 f42 f43
                have S0_ := Side.mk (S.out.keep hb)
                clear hb
                go_wp2
                go_meet
                case rel => exact ⟨rfl, S0_⟩
          case rest =>
            clear S
            obtain ⟨rfl, S⟩ := hcut
            cases lxy
            · have h := S.out
              have f30 : wc.cell? ⟨g0, 0, none⟩ = some (.int .i64 (p 0 0)) := h.2.2.2.1.1
              have f31 : wc.cell? ⟨g0, 1, none⟩ = some (.int .i64 (p 0 1)) := h.2.2.2.1.2.1
              have f32 : wc.cell? ⟨g0, 2, none⟩ = some (.int .i64 (p 0 2)) := h.2.2.2.1.2.2.1
              have f33 : wc.cell? ⟨g0, 3, none⟩ = some (.int .i64 (p 0 3)) := h.2.2.2.1.2.2.2.1
              have f40 : wc.cell? ⟨g1, 0, none⟩ = some (.int .i64 (p 1 0)) := h.2.2.2.2.1.1
              have f41 : wc.cell? ⟨g1, 1, none⟩ = some (.int .i64 (p 1 1)) := h.2.2.2.2.1.2.1
              have f42 : wc.cell? ⟨g1, 2, none⟩ = some (.int .i64 (p 1 2)) := h.2.2.2.2.1.2.2.1
              have f43 : wc.cell? ⟨g1, 3, none⟩ = some (.int .i64 (p 1 3)) := h.2.2.2.2.1.2.2.2.1
              clear h
              go_wp2_with fail
              refine (XY _).out.mono ?_
              rintro e v0 ⟨rfl, hb⟩
              clear f30 f31 f32 f33 f40 f41 f42 f43
              have S0_ := Side.mk (S.out.keep hb)
              clear hb
              go_wp2
              go_ret
              exact ⟨rfl, S0_.out.2.2.2.2.2.2⟩
            · cases lyz
              · skip
                have h := S.out
                have f30 : wc.cell? ⟨g0, 0, none⟩ = some (.int .i64 (p 0 0)) := h.2.2.2.1.1
                have f31 : wc.cell? ⟨g0, 1, none⟩ = some (.int .i64 (p 0 1)) := h.2.2.2.1.2.1
                have f32 : wc.cell? ⟨g0, 2, none⟩ = some (.int .i64 (p 0 2)) := h.2.2.2.1.2.2.1
                have f33 : wc.cell? ⟨g0, 3, none⟩ = some (.int .i64 (p 0 3)) := h.2.2.2.1.2.2.2.1
                have f40 : wc.cell? ⟨g1, 0, none⟩ = some (.int .i64 (p 1 0)) := h.2.2.2.2.1.1
                have f41 : wc.cell? ⟨g1, 1, none⟩ = some (.int .i64 (p 1 1)) := h.2.2.2.2.1.2.1
                have f42 : wc.cell? ⟨g1, 2, none⟩ = some (.int .i64 (p 1 2)) := h.2.2.2.2.1.2.2.1
                have f43 : wc.cell? ⟨g1, 3, none⟩ = some (.int .i64 (p 1 3)) := h.2.2.2.2.1.2.2.2.1
                clear h
                go_wp2_with fail
                refine (XY _).out.mono ?_
                rintro e v0 ⟨rfl, hb⟩
                clear f30 f31 f32 f33 f40 f41 f42 f43
                have S0_ := Side.mk (S.out.keep hb)
                clear hb
                have h := S0_.out
                have f40 : v0.cell? ⟨g1, 0, none⟩ = some (.int .i64 (p 1 0)) := h.2.2.2.2.1.1
                have f41 : v0.cell? ⟨g1, 1, none⟩ = some (.int .i64 (p 1 1)) := h.2.2.2.2.1.2.1
                have f42 : v0.cell? ⟨g1, 2, none⟩ = some (.int .i64 (p 1 2)) := h.2.2.2.2.1.2.2.1
                have f43 : v0.cell? ⟨g1, 3, none⟩ = some (.int .i64 (p 1 3)) := h.2.2.2.2.1.2.2.2.1
                have f50 : v0.cell? ⟨g2, 0, none⟩ = some (.int .i64 (p 2 0)) := h.2.2.2.2.2.1.1
                have f51 : v0.cell? ⟨g2, 1, none⟩ = some (.int .i64 (p 2 1)) := h.2.2.2.2.2.1.2.1
                have f52 : v0.cell? ⟨g2, 2, none⟩ = some (.int .i64 (p 2 2)) := h.2.2.2.2.2.1.2.2.1
                have f53 : v0.cell? ⟨g2, 3, none⟩ = some (.int .i64 (p 2 3)) := h.2.2.2.2.2.1.2.2.2.1
                clear h
                go_wp2_with fail
                refine (YZ _).out.mono ?_
                rintro e v1 ⟨rfl, hb⟩
                clear f40 f41 f42 f43 f50 f51 f52 f53
                have S1_ := Side.mk (S0_.out.keep hb)
                clear hb
                go_wp2
                go_ret
                exact ⟨rfl, S1_.out.2.2.2.2.2.2⟩
              · obtain rfl := P.out.2.2.1 rfl rfl rfl
                have h := S.out
                have f30 : wc.cell? ⟨g0, 0, none⟩ = some (.int .i64 (p 0 0)) := h.2.2.2.1.1
                have f31 : wc.cell? ⟨g0, 1, none⟩ = some (.int .i64 (p 0 1)) := h.2.2.2.1.2.1
                have f32 : wc.cell? ⟨g0, 2, none⟩ = some (.int .i64 (p 0 2)) := h.2.2.2.1.2.2.1
                have f33 : wc.cell? ⟨g0, 3, none⟩ = some (.int .i64 (p 0 3)) := h.2.2.2.1.2.2.2.1
                have f40 : wc.cell? ⟨g1, 0, none⟩ = some (.int .i64 (p 1 0)) := h.2.2.2.2.1.1
                have f41 : wc.cell? ⟨g1, 1, none⟩ = some (.int .i64 (p 1 1)) := h.2.2.2.2.1.2.1
                have f42 : wc.cell? ⟨g1, 2, none⟩ = some (.int .i64 (p 1 2)) := h.2.2.2.2.1.2.2.1
                have f43 : wc.cell? ⟨g1, 3, none⟩ = some (.int .i64 (p 1 3)) := h.2.2.2.2.1.2.2.2.1
                clear h
                go_wp2_with fail
                refine (XY _).out.mono ?_
                rintro e v0 ⟨rfl, hb⟩
                clear f30 f31 f32 f33 f40 f41 f42 f43
                have S0_ := Side.mk (S.out.keep hb)
                clear hb
                have h := S0_.out
                have f40 : v0.cell? ⟨g1, 0, none⟩ = some (.int .i64 (p 1 0)) := h.2.2.2.2.1.1
                have f41 : v0.cell? ⟨g1, 1, none⟩ = some (.int .i64 (p 1 1)) := h.2.2.2.2.1.2.1
                have f42 : v0.cell? ⟨g1, 2, none⟩ = some (.int .i64 (p 1 2)) := h.2.2.2.2.1.2.2.1
                have f43 : v0.cell? ⟨g1, 3, none⟩ = some (.int .i64 (p 1 3)) := h.2.2.2.2.1.2.2.2.1
                have f50 : v0.cell? ⟨g2, 0, none⟩ = some (.int .i64 (p 2 0)) := h.2.2.2.2.2.1.1
                have f51 : v0.cell? ⟨g2, 1, none⟩ = some (.int .i64 (p 2 1)) := h.2.2.2.2.2.1.2.1
                have f52 : v0.cell? ⟨g2, 2, none⟩ = some (.int .i64 (p 2 2)) := h.2.2.2.2.2.1.2.2.1
                have f53 : v0.cell? ⟨g2, 3, none⟩ = some (.int .i64 (p 2 3)) := h.2.2.2.2.2.1.2.2.2.1
                clear h
                go_wp2_with fail
                refine (YZ _).out.mono ?_
                rintro e v1 ⟨rfl, hb⟩
                clear f40 f41 f42 f43 f50 f51 f52 f53
                have S1_ := Side.mk (S0_.out.keep hb)
                clear hb
                have h := S1_.out
                have f30 : v1.cell? ⟨g0, 0, none⟩ = some (.int .i64 (p 0 0)) := h.2.2.2.1.1
                have f31 : v1.cell? ⟨g0, 1, none⟩ = some (.int .i64 (p 0 1)) := h.2.2.2.1.2.1
                have f32 : v1.cell? ⟨g0, 2, none⟩ = some (.int .i64 (p 0 2)) := h.2.2.2.1.2.2.1
                have f33 : v1.cell? ⟨g0, 3, none⟩ = some (.int .i64 (p 0 3)) := h.2.2.2.1.2.2.2.1
                have f50 : v1.cell? ⟨g2, 0, none⟩ = some (.int .i64 (p 2 0)) := h.2.2.2.2.2.1.1
                have f51 : v1.cell? ⟨g2, 1, none⟩ = some (.int .i64 (p 2 1)) := h.2.2.2.2.2.1.2.1
                have f52 : v1.cell? ⟨g2, 2, none⟩ = some (.int .i64 (p 2 2)) := h.2.2.2.2.2.1.2.2.1
                have f53 : v1.cell? ⟨g2, 3, none⟩ = some (.int .i64 (p 2 3)) := h.2.2.2.2.2.1.2.2.2.1
                clear h
                go_wp2_with fail
                refine (XZ _).out.mono ?_
                rintro e v2 ⟨rfl, hb⟩
                clear f30 f31 f32 f33 f50 f51 f52 f53
                have S2_ := Side.mk (S1_.out.keep hb)
                clear hb
                go_wp2
                go_ret
                exact ⟨rfl, S2_.out.2.2.2.2.2.2⟩
        · go_wp2
          go_ret
          exact ⟨rfl, S.out.2.2.2.2.2.2⟩
end Go.Proofs.Ytmjgadhknliiaaa.OwnRLaws
