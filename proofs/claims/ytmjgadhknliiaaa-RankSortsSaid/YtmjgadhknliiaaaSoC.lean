/- slices.rotateCmpFunc over ranks. No condition. -/
import Derived.Test.YtmjgadhknliiaaaSoB
set_option linter.unusedVariables false
set_option linter.unusedSimpArgs false
namespace Go.Proofs.Ytmjgadhknliiaaa.SoC
open Go.RowKit Go.Proofs.Ytmjgadhknliiaaa.Kit Go.Proofs.Ytmjgadhknliiaaa.Kit3 Go.Proofs.Ytmjgadhknliiaaa.Kit4 Go.Proofs.Ytmjgadhknliiaaa.Kit5 Go.Proofs.Ytmjgadhknliiaaa.Rank Go.Proofs.Ytmjgadhknliiaaa.SoA Go.Proofs.Ytmjgadhknliiaaa.SoB SoPlain
open Go.Proofs.YtmjgadhknliiaaaW.PrintLast
set_option maxHeartbeats 8000000 in
set_option maxRecDepth 100000 in
theorem rotate_at (w : World) (B g n cap : Nat) (xs0 : List R) (f : Value) (h : M w B g n cap xs0) (la lm lb : Nat) (h1 : la < lm) (h2 : lm < lb) (hb : lb ≤ n) :
    Calls Try.prog 33 #[.slice (some ⟨g, 0, none⟩) n cap, .int .i64 la, .int .i64 lm, .int .i64 lb, f] w fun r w' => r = .returned (.tuple #[]) ∧ ∃ ys, M w' B g n cap ys ∧ Chg w w' (fun k => k = g) ∧ ∀ p, at_ ys p = at_ xs0 (rot la lm lb p) := by
  have HM0 := Side.mk h
  have hn := h.small
  clear h
  have e1 : (lm : Int) - la = ((lm - la : Nat) : Int) := by omega
  have e2 : (lb : Int) - lm = ((lb - lm : Nat) : Int) := by omega
  obtain ⟨i0, hi0⟩ : ∃ i0, i0 = lm - la := ⟨_, rfl⟩
  obtain ⟨j0, hj0⟩ : ∃ j0, j0 = lb - lm := ⟨_, rfl⟩
  have hp1 : 0 < i0 := by omega
  have hp2 : 0 < j0 := by omega
  have hR : Side (∀ p, at_ xs0 (rot (lm - i0) lm (lm + j0) p) = at_ xs0 (rot la lm lb p)) := ⟨fun p => by rw [hi0, hj0, show lm - (lm - la) = la by omega, show lm + (lb - lm) = lb by omega]⟩
  have hil : i0 ≤ lm := by omega
  have hjl : lm + j0 ≤ n := by omega
  rw [← hi0] at e1
  rw [← hj0] at e2
  clear hi0 hj0
  go_enter Try.func33, Try.ntmps33
  go_wp2_with fail
  clear e1 e2
  go_loopw [10, 11] (fun v10 v11 wr => ∃ (i j : Nat) (xs : List R), v10 = .int .i64 (i : Int) ∧ v11 = .int .i64 (j : Int) ∧ 0 < i ∧ 0 < j ∧ i ≤ lm ∧ lm + j ≤ n ∧ Side (M wr B g n cap xs) ∧ Side (Chg w wr (fun k => k = g)) ∧ Side (∀ p, at_ xs (rot (lm - i) lm (lm + j) p) = at_ xs0 (rot la lm lb p))) (fun v10 v11 _ => (intOf v10 + intOf v11).toNat)
  case atStart => exact ⟨i0, j0, xs0, rfl, rfl, hp1, hp2, hil, hjl, HM0, ⟨Chg.refl _ _⟩, hR⟩
  case round =>
    clear HM0 hR hp1 hp2 hil hjl
    obtain ⟨i, j, xs, rfl, rfl, hi, hj, hil, hjl, HM, HC, HS⟩ := hrel
    obtain ⟨wz, hwz⟩ : ∃ wz : World, wz = wr := ⟨_, rfl⟩
    rw [← hwz] at HM HC ⊢
    clear hwz
    have hnn := HM.out.small
    rcases Nat.lt_trichotomy i j with hlt | heq | hgt
    · have t1 : ((i : Int) == j) = false := by simp; omega
      have t2 : ¬ (j : Int) < i := by omega
      have t3 : ¬ (i : Int) = j := by omega
      have e1 : (lm : Int) - i = ((lm - i : Nat) : Int) := by omega
      have e2 : (lm : Int) + j - i = ((lm + j - i : Nat) : Int) := by omega
      have e3 : (j : Int) - i = ((j - i : Nat) : Int) := by omega
      have S := fun w' (h : M w' B g n cap xs) => swapRange_at w' B g n cap xs f h (lm - i) (lm + j - i) i (by omega) (by omega)
      go_wp2_with fail
      refine (S _ (HM.out.below (by (repeat (with_reducible first | exact Below.refl _ _ | apply below_drewN | apply below_drew | apply below_alloc))))).mono ?_
      rintro e w2 ⟨rfl, ys, hm, hc, hs⟩
      have HM2 := Side.mk hm
      have HC2 : Side (Chg w w2 (fun k => k = g)) := ⟨(HC.out.trans (Chg.of_below (by (repeat (with_reducible first | exact Below.refl _ _ | apply below_drewN | apply below_drew | apply below_alloc)))) (fun _ _ h => h)).trans hc (fun _ _ h => h)⟩
      have HS2 : Side (∀ p, at_ ys (rot (lm - i) lm (lm + (j - i)) p) = at_ xs0 (rot la lm lb p)) := ⟨fun p => by rw [hs, swp_rot2 (lm - i) lm i j p hlt rfl hil, HS.out]⟩
      clear hm hc hs HM HC HS S
      go_wp2
      go_roundw
      case rel => exact ⟨i, j - i, ys, rfl, rfl, hi, by omega, hil, by omega, HM2, HC2, HS2⟩
      case measure => simp [intOf]; omega
    · subst heq
      have e1 : (lm : Int) - i = ((lm - i : Nat) : Int) := by omega
      have S := fun w' (h : M w' B g n cap xs) => swapRange_at w' B g n cap xs f h (lm - i) lm i (by omega) (by omega)
      go_wp2_with fail
      refine (S _ (HM.out.below (by (repeat (with_reducible first | exact Below.refl _ _ | apply below_drewN | apply below_drew | apply below_alloc))))).mono ?_
      rintro e w2 ⟨rfl, ys, hm, hc, hs⟩
      go_wp2_with fail
      exact bodyPost_end (results_none rfl _ _ _) rfl ⟨rfl, ys, hm, (HC.out.trans (Chg.of_below (by (repeat (with_reducible first | exact Below.refl _ _ | apply below_drewN | apply below_drew | apply below_alloc)))) (fun _ _ h => h)).trans hc (fun _ _ h => h), fun p => by rw [hs, swp_rot3 (lm - i) lm i p rfl hil, HS.out]⟩
    · have t1 : ((i : Int) == j) = false := by simp; omega
      have t2 : (j : Int) < i := by omega
      have t3 : ¬ (i : Int) = j := by omega
      have e1 : (lm : Int) - i = ((lm - i : Nat) : Int) := by omega
      have e3 : (i : Int) - j = ((i - j : Nat) : Int) := by omega
      have S := fun w' (h : M w' B g n cap xs) => swapRange_at w' B g n cap xs f h (lm - i) lm j (by omega) (by omega)
      go_wp2_with fail
      refine (S _ (HM.out.below (by (repeat (with_reducible first | exact Below.refl _ _ | apply below_drewN | apply below_drew | apply below_alloc))))).mono ?_
      rintro e w2 ⟨rfl, ys, hm, hc, hs⟩
      have HM2 := Side.mk hm
      have HC2 : Side (Chg w w2 (fun k => k = g)) := ⟨(HC.out.trans (Chg.of_below (by (repeat (with_reducible first | exact Below.refl _ _ | apply below_drewN | apply below_drew | apply below_alloc)))) (fun _ _ h => h)).trans hc (fun _ _ h => h)⟩
      have HS2 : Side (∀ p, at_ ys (rot (lm - (i - j)) lm (lm + j) p) = at_ xs0 (rot la lm lb p)) := ⟨fun p => by rw [hs, show lm - (i - j) = lm - i + j by omega, swp_rot1 (lm - i) lm i j p hgt rfl hil, HS.out]⟩
      clear hm hc hs HM HC HS S
      go_wp2
      go_roundw
      case rel => exact ⟨i - j, j, ys, rfl, rfl, by omega, hj, by omega, hjl, HM2, HC2, HS2⟩
      case measure => simp [intOf]; omega
end Go.Proofs.Ytmjgadhknliiaaa.SoC
