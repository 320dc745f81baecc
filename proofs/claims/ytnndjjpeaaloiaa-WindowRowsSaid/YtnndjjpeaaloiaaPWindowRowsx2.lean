-- PRINTED BY print.sh 35421559b90ae4d0a3588c463048766b98c2df88dd9212a6774a882060cdf62d: not written by this session
import Derived.Test.YtnndjjpeaaloiaaPWindowRowsx0
import Derived.Test.YtnndjjpeaaloiaaPWindowRowsx1
namespace Go.Proofs.Ytnndjjpeaaloiaa.PWindowRows
open Go.RowKit Go.Proofs.YtnndjjpeaaloiaaW.PrintWords Go.Proofs.YtnndjjpeaaloiaaW.PrintLast Go.Proofs.YtnndjjpeaaloiaaW.PrintMore
attribute [local go_sem] max2_int min2_int max_two min_two max_three min_three max_four min_four   -- for this text's walks alone
set_option linter.unusedVariables false
set_option linter.unusedSimpArgs false

/-! ### evenhandedlaw3_WindowRows: function 4 -/
mutual
def evenhandedlaw3_WindowRows.j0 : Nat → Int → Int → Bool → Option (Bool)
  | 0, _, _, _ => none
  | k + 1, x0, x1, x18 => if x18 = true then (some true) else (evenhandedlaw3_WindowRows.l0 k x0 x1 1)
def evenhandedlaw3_WindowRows.l0 : Nat → Int → Int → Int → Option (Bool)
  | 0, _, _, _ => none
  | k + 1, x0, x1, x5 => if x5 ≤ x0 then ((window_Release.f x0 x1 x5).bind fun t120 => ((window_Deadline.f x0 x1 x5).bind fun t121 => (if (wrap64 (t120 * x0)) ≤ (wrap64 ((wrap64 (x5 - 1)) * x1)) then (if ((wrap64 ((wrap64 (x5 - 1)) * x1)) < (wrap64 ((wrap64 (t120 + 1)) * x0))) then (evenhandedlaw3_WindowRows.j2 k x0 x1 x5 t120 t121 false) else (if x0 = 0 then (none) else (evenhandedlaw3_WindowRows.j2 k x0 x1 x5 t120 t121 (!(t120 == (wrap64 (Int.tdiv (wrap64 ((wrap64 (x5 - 1)) * x1)) x0))))))) else (if x0 = 0 then (none) else (evenhandedlaw3_WindowRows.j2 k x0 x1 x5 t120 t121 (!(t120 == (wrap64 (Int.tdiv (wrap64 ((wrap64 (x5 - 1)) * x1)) x0))))))))) else (some true)
def evenhandedlaw3_WindowRows.j2 : Nat → Int → Int → Int → Int → Int → Bool → Option (Bool)
  | 0, _, _, _, _, _, _ => none
  | k + 1, x0, x1, x5, x6, x7, x62 => if x62 = true then (some false) else (if (wrap64 (x7 * x0)) < (wrap64 (x5 * x1)) then (evenhandedlaw3_WindowRows.j3 k x0 x1 x5 x7 true) else (if (wrap64 ((wrap64 (x7 - 1)) * x0)) ≥ (wrap64 (x5 * x1)) then (evenhandedlaw3_WindowRows.j3 k x0 x1 x5 x7 true) else (if x6 ≥ x7 then (evenhandedlaw3_WindowRows.j3 k x0 x1 x5 x7 true) else (if x5 = 1 then (if x6 = 0 then (if x5 = x0 then (evenhandedlaw3_WindowRows.j3 k x0 x1 x5 x7 (x7 != x1)) else (evenhandedlaw3_WindowRows.j3 k x0 x1 x5 x7 false)) else (evenhandedlaw3_WindowRows.j3 k x0 x1 x5 x7 true)) else (if x5 = x0 then (evenhandedlaw3_WindowRows.j3 k x0 x1 x5 x7 (x7 != x1)) else (evenhandedlaw3_WindowRows.j3 k x0 x1 x5 x7 false))))))
def evenhandedlaw3_WindowRows.j3 : Nat → Int → Int → Int → Int → Bool → Option (Bool)
  | 0, _, _, _, _, _ => none
  | k + 1, x0, x1, x5, x7, x102 => if x102 = true then (some false) else (if x5 < x0 then ((window_Release.f x0 x1 (wrap64 (x5 + 1))).bind fun t122 => ((window_Bit.f x0 x1 x5).bind fun t123 => (evenhandedlaw3_WindowRows.j4 k x0 x1 x5 x7 ((wrap64 (x7 - t122)) != t123)))) else (evenhandedlaw3_WindowRows.j4 k x0 x1 x5 x7 false))
def evenhandedlaw3_WindowRows.j4 : Nat → Int → Int → Int → Int → Bool → Option (Bool)
  | 0, _, _, _, _, _ => none
  | k + 1, x0, x1, x5, x7, x119 => if x119 = true then (some false) else ((window_Group.f k x0 x1 x5).bind fun t124 => ((window_Heavy.f x0 x1).bind fun t125 => (if t125 = true then (evenhandedlaw3_WindowRows.j5 k x0 x1 x5 x7 t124 (decide (x0 < x1))) else (evenhandedlaw3_WindowRows.j5 k x0 x1 x5 x7 t124 false))))
def evenhandedlaw3_WindowRows.j5 : Nat → Int → Int → Int → Int → Int → Bool → Option (Bool)
  | 0, _, _, _, _, _, _ => none
  | k + 1, x0, x1, x5, x7, x8, x131 => if x131 = true then (if x8 < x7 then (some false) else (if x8 > x1 then (some false) else (evenhandedlaw3_WindowRows.l0 k x0 x1 (wrap64 (x5 + 1))))) else (if x8 = 0 then (evenhandedlaw3_WindowRows.l0 k x0 x1 (wrap64 (x5 + 1))) else (some false))
end
def evenhandedlaw3_WindowRows.f (k : Nat) (a0 : Int) (a1 : Int) : Option (Bool) := (evenhandedlaw3_awake.f k).bind fun t118 => (if t118 = true then ((evenhandedref1_TaskMay.f a0 a1).bind fun t119 => (if t119 = true then (evenhandedlaw3_WindowRows.j0 k a0 a1 (decide (a0 > 3000))) else (evenhandedlaw3_WindowRows.j0 k a0 a1 true))) else (some false))
theorem evenhandedlaw3_WindowRows.mono_l : ∀ k, (∀ y0 y1 y2, LeO (evenhandedlaw3_WindowRows.j0 k y0 y1 y2) (evenhandedlaw3_WindowRows.j0 (k + 1) y0 y1 y2)) ∧ (∀ y0 y1 y2, LeO (evenhandedlaw3_WindowRows.l0 k y0 y1 y2) (evenhandedlaw3_WindowRows.l0 (k + 1) y0 y1 y2)) ∧ (∀ y0 y1 y2 y3 y4 y5, LeO (evenhandedlaw3_WindowRows.j2 k y0 y1 y2 y3 y4 y5) (evenhandedlaw3_WindowRows.j2 (k + 1) y0 y1 y2 y3 y4 y5)) ∧ (∀ y0 y1 y2 y3 y4, LeO (evenhandedlaw3_WindowRows.j3 k y0 y1 y2 y3 y4) (evenhandedlaw3_WindowRows.j3 (k + 1) y0 y1 y2 y3 y4)) ∧ (∀ y0 y1 y2 y3 y4, LeO (evenhandedlaw3_WindowRows.j4 k y0 y1 y2 y3 y4) (evenhandedlaw3_WindowRows.j4 (k + 1) y0 y1 y2 y3 y4)) ∧ (∀ y0 y1 y2 y3 y4 y5, LeO (evenhandedlaw3_WindowRows.j5 k y0 y1 y2 y3 y4 y5) (evenhandedlaw3_WindowRows.j5 (k + 1) y0 y1 y2 y3 y4 y5))
  | 0 => ⟨fun _ _ _ r h => by simp [evenhandedlaw3_WindowRows.j0] at h, fun _ _ _ r h => by simp [evenhandedlaw3_WindowRows.l0] at h, fun _ _ _ _ _ _ r h => by simp [evenhandedlaw3_WindowRows.j2] at h, fun _ _ _ _ _ r h => by simp [evenhandedlaw3_WindowRows.j3] at h, fun _ _ _ _ _ r h => by simp [evenhandedlaw3_WindowRows.j4] at h, fun _ _ _ _ _ _ r h => by simp [evenhandedlaw3_WindowRows.j5] at h⟩
  | k + 1 => by
    obtain ⟨ih0, ih1, ih2, ih3, ih4, ih5⟩ := evenhandedlaw3_WindowRows.mono_l k
    refine ⟨?_, ?_, ?_, ?_, ?_, ?_⟩
    · intro y0 y1 y2
      unfold evenhandedlaw3_WindowRows.j0
      repeat' first
      | (with_reducible exact ih0 _ _ _)
      | (with_reducible exact ih1 _ _ _)
      | (with_reducible exact ih2 _ _ _ _ _ _)
      | (with_reducible exact ih3 _ _ _ _ _)
      | (with_reducible exact ih4 _ _ _ _ _)
      | (with_reducible exact ih5 _ _ _ _ _ _)
      | (with_reducible exact evenhandedlaw3_awake.mono _)
      | (with_reducible exact window_Group.mono _ _ _ _)
      | (with_reducible exact LeO.refl _)
      | (with_reducible exact LeO.none _)
      | (with_reducible refine LeO.ite ?_ ?_)
      | (with_reducible refine LeO.bind ?_ (fun _ => ?_))
      | exact ih0 _ _ _
      | exact ih1 _ _ _
      | exact ih2 _ _ _ _ _ _
      | exact ih3 _ _ _ _ _
      | exact ih4 _ _ _ _ _
      | exact ih5 _ _ _ _ _ _
      | exact evenhandedlaw3_awake.mono _
      | exact window_Group.mono _ _ _ _
      | exact LeO.none _
      | refine LeO.ite ?_ ?_
      | refine LeO.bind ?_ (fun _ => ?_)
    · intro y0 y1 y2
      unfold evenhandedlaw3_WindowRows.l0
      repeat' first
      | (with_reducible exact ih0 _ _ _)
      | (with_reducible exact ih1 _ _ _)
      | (with_reducible exact ih2 _ _ _ _ _ _)
      | (with_reducible exact ih3 _ _ _ _ _)
      | (with_reducible exact ih4 _ _ _ _ _)
      | (with_reducible exact ih5 _ _ _ _ _ _)
      | (with_reducible exact evenhandedlaw3_awake.mono _)
      | (with_reducible exact window_Group.mono _ _ _ _)
      | (with_reducible exact LeO.refl _)
      | (with_reducible exact LeO.none _)
      | (with_reducible refine LeO.ite ?_ ?_)
      | (with_reducible refine LeO.bind ?_ (fun _ => ?_))
      | exact ih0 _ _ _
      | exact ih1 _ _ _
      | exact ih2 _ _ _ _ _ _
      | exact ih3 _ _ _ _ _
      | exact ih4 _ _ _ _ _
      | exact ih5 _ _ _ _ _ _
      | exact evenhandedlaw3_awake.mono _
      | exact window_Group.mono _ _ _ _
      | exact LeO.none _
      | refine LeO.ite ?_ ?_
      | refine LeO.bind ?_ (fun _ => ?_)
    · intro y0 y1 y2 y3 y4 y5
      unfold evenhandedlaw3_WindowRows.j2
      repeat' first
      | (with_reducible exact ih0 _ _ _)
      | (with_reducible exact ih1 _ _ _)
      | (with_reducible exact ih2 _ _ _ _ _ _)
      | (with_reducible exact ih3 _ _ _ _ _)
      | (with_reducible exact ih4 _ _ _ _ _)
      | (with_reducible exact ih5 _ _ _ _ _ _)
      | (with_reducible exact evenhandedlaw3_awake.mono _)
      | (with_reducible exact window_Group.mono _ _ _ _)
      | (with_reducible exact LeO.refl _)
      | (with_reducible exact LeO.none _)
      | (with_reducible refine LeO.ite ?_ ?_)
      | (with_reducible refine LeO.bind ?_ (fun _ => ?_))
      | exact ih0 _ _ _
      | exact ih1 _ _ _
      | exact ih2 _ _ _ _ _ _
      | exact ih3 _ _ _ _ _
      | exact ih4 _ _ _ _ _
      | exact ih5 _ _ _ _ _ _
      | exact evenhandedlaw3_awake.mono _
      | exact window_Group.mono _ _ _ _
      | exact LeO.none _
      | refine LeO.ite ?_ ?_
      | refine LeO.bind ?_ (fun _ => ?_)
    · intro y0 y1 y2 y3 y4
      unfold evenhandedlaw3_WindowRows.j3
      repeat' first
      | (with_reducible exact ih0 _ _ _)
      | (with_reducible exact ih1 _ _ _)
      | (with_reducible exact ih2 _ _ _ _ _ _)
      | (with_reducible exact ih3 _ _ _ _ _)
      | (with_reducible exact ih4 _ _ _ _ _)
      | (with_reducible exact ih5 _ _ _ _ _ _)
      | (with_reducible exact evenhandedlaw3_awake.mono _)
      | (with_reducible exact window_Group.mono _ _ _ _)
      | (with_reducible exact LeO.refl _)
      | (with_reducible exact LeO.none _)
      | (with_reducible refine LeO.ite ?_ ?_)
      | (with_reducible refine LeO.bind ?_ (fun _ => ?_))
      | exact ih0 _ _ _
      | exact ih1 _ _ _
      | exact ih2 _ _ _ _ _ _
      | exact ih3 _ _ _ _ _
      | exact ih4 _ _ _ _ _
      | exact ih5 _ _ _ _ _ _
      | exact evenhandedlaw3_awake.mono _
      | exact window_Group.mono _ _ _ _
      | exact LeO.none _
      | refine LeO.ite ?_ ?_
      | refine LeO.bind ?_ (fun _ => ?_)
    · intro y0 y1 y2 y3 y4
      unfold evenhandedlaw3_WindowRows.j4
      repeat' first
      | (with_reducible exact ih0 _ _ _)
      | (with_reducible exact ih1 _ _ _)
      | (with_reducible exact ih2 _ _ _ _ _ _)
      | (with_reducible exact ih3 _ _ _ _ _)
      | (with_reducible exact ih4 _ _ _ _ _)
      | (with_reducible exact ih5 _ _ _ _ _ _)
      | (with_reducible exact evenhandedlaw3_awake.mono _)
      | (with_reducible exact window_Group.mono _ _ _ _)
      | (with_reducible exact LeO.refl _)
      | (with_reducible exact LeO.none _)
      | (with_reducible refine LeO.ite ?_ ?_)
      | (with_reducible refine LeO.bind ?_ (fun _ => ?_))
      | exact ih0 _ _ _
      | exact ih1 _ _ _
      | exact ih2 _ _ _ _ _ _
      | exact ih3 _ _ _ _ _
      | exact ih4 _ _ _ _ _
      | exact ih5 _ _ _ _ _ _
      | exact evenhandedlaw3_awake.mono _
      | exact window_Group.mono _ _ _ _
      | exact LeO.none _
      | refine LeO.ite ?_ ?_
      | refine LeO.bind ?_ (fun _ => ?_)
    · intro y0 y1 y2 y3 y4 y5
      unfold evenhandedlaw3_WindowRows.j5
      repeat' first
      | (with_reducible exact ih0 _ _ _)
      | (with_reducible exact ih1 _ _ _)
      | (with_reducible exact ih2 _ _ _ _ _ _)
      | (with_reducible exact ih3 _ _ _ _ _)
      | (with_reducible exact ih4 _ _ _ _ _)
      | (with_reducible exact ih5 _ _ _ _ _ _)
      | (with_reducible exact evenhandedlaw3_awake.mono _)
      | (with_reducible exact window_Group.mono _ _ _ _)
      | (with_reducible exact LeO.refl _)
      | (with_reducible exact LeO.none _)
      | (with_reducible refine LeO.ite ?_ ?_)
      | (with_reducible refine LeO.bind ?_ (fun _ => ?_))
      | exact ih0 _ _ _
      | exact ih1 _ _ _
      | exact ih2 _ _ _ _ _ _
      | exact ih3 _ _ _ _ _
      | exact ih4 _ _ _ _ _
      | exact ih5 _ _ _ _ _ _
      | exact evenhandedlaw3_awake.mono _
      | exact window_Group.mono _ _ _ _
      | exact LeO.none _
      | refine LeO.ite ?_ ?_
      | refine LeO.bind ?_ (fun _ => ?_)
theorem evenhandedlaw3_WindowRows.mono : ∀ a0 a1 k, LeO (evenhandedlaw3_WindowRows.f k a0 a1) (evenhandedlaw3_WindowRows.f (k + 1) a0 a1) := by
  intro a0 a1 k
  obtain ⟨ih0, ih1, ih2, ih3, ih4, ih5⟩ := evenhandedlaw3_WindowRows.mono_l k
  unfold evenhandedlaw3_WindowRows.f
  repeat' first
      | (with_reducible exact ih0 _ _ _)
      | (with_reducible exact ih1 _ _ _)
      | (with_reducible exact ih2 _ _ _ _ _ _)
      | (with_reducible exact ih3 _ _ _ _ _)
      | (with_reducible exact ih4 _ _ _ _ _)
      | (with_reducible exact ih5 _ _ _ _ _ _)
      | (with_reducible exact evenhandedlaw3_awake.mono _)
      | (with_reducible exact window_Group.mono _ _ _ _)
      | (with_reducible exact LeO.refl _)
      | (with_reducible exact LeO.none _)
      | (with_reducible refine LeO.ite ?_ ?_)
      | (with_reducible refine LeO.bind ?_ (fun _ => ?_))
      | exact ih0 _ _ _
      | exact ih1 _ _ _
      | exact ih2 _ _ _ _ _ _
      | exact ih3 _ _ _ _ _
      | exact ih4 _ _ _ _ _
      | exact ih5 _ _ _ _ _ _
      | exact evenhandedlaw3_awake.mono _
      | exact window_Group.mono _ _ _ _
      | exact LeO.none _
      | refine LeO.ite ?_ ?_
      | refine LeO.bind ?_ (fun _ => ?_)
set_option maxHeartbeats 8000000 in
set_option maxRecDepth 100000 in
theorem evenhandedlaw3_WindowRows.calls (k : Nat) (a0 : Int) (a1 : Int) (r : Bool) (w : World) (h : evenhandedlaw3_WindowRows.f k a0 a1 = some r) :
    Calls Try.prog 4 #[.int .i64 a0, .int .i64 a1] w fun e w' => e = .returned (.bool r) ∧ Drawn0 w w' := by
  have H : ((evenhandedlaw3_awake.f k).bind fun t118 => (if t118 = true then ((evenhandedref1_TaskMay.f a0 a1).bind fun t119 => (if t119 = true then (evenhandedlaw3_WindowRows.j0 k a0 a1 (decide (a0 > 3000))) else (evenhandedlaw3_WindowRows.j0 k a0 a1 true))) else (some false))) = some r := h
  clear h
  replace H := Option.bind_eq_some_iff.mp H
  obtain ⟨t118, A30, H⟩ := H
  replace H : (if t118 = true then ((evenhandedref1_TaskMay.f a0 a1).bind fun t119 => (if t119 = true then (evenhandedlaw3_WindowRows.j0 k a0 a1 (decide (a0 > 3000))) else (evenhandedlaw3_WindowRows.j0 k a0 a1 true))) else (some false)) = some r := H
  have A3 := Aside0.mk A30
  clear A30
  by_cases c4 : t118 = true
  · subst c4
    have H1 : ((evenhandedref1_TaskMay.f a0 a1).bind fun t119 => (if t119 = true then (evenhandedlaw3_WindowRows.j0 k a0 a1 (decide (a0 > 3000))) else (evenhandedlaw3_WindowRows.j0 k a0 a1 true))) = some r := by rw [if_pos rfl] at H; exact H
    clear H
    have H := H1
    clear H1
    have HC5 := Aside0.mk H
    clear H
    go_enter Try.func4, Try.ntmps4
    go_upto_region 3 with (first | ((with_reducible refine gate_callee (f := 11) rfl ?_); refine goesL_ (some 9) rfl rfl Try.func11 (by kernel_rfl) rfl #[] rfl (by (try simp only [List.map_toArray, List.map_cons, List.map_nil]); first | done | rfl | (simp only [List.length_drop, List.length_take]; rfl)) ?_; (with_reducible refine (evenhandedlaw3_awake.calls k  true _ A3.out).mono ?_); rintro e w' ⟨rfl, ⟨nd, rfl⟩⟩; refine ⟨_, rfl, ?_⟩))
    (try simp only [Act.put, List.setIfInBounds_toArray, List.set_cons_zero, List.set_cons_succ])
    go_cut [18] (fun v18 wc => ∃ (kq : Nat) (x18_4 : Bool), v18 = .bool x18_4 ∧ Aside0 (evenhandedlaw3_WindowRows.j0 kq a0 a1 x18_4 = some r) ∧ Aside0 (kq ≤ k) ∧ Drawn0 w wc)
    case first =>
      have H := HC5.out
      clear HC5
      replace H := Option.bind_eq_some_iff.mp H
      obtain ⟨t119, A60, H⟩ := H
      replace H : (if t119 = true then (evenhandedlaw3_WindowRows.j0 k a0 a1 (decide (a0 > 3000))) else (evenhandedlaw3_WindowRows.j0 k a0 a1 true)) = some r := H
      have A6 := Aside0.mk A60
      clear A60
      by_cases c7 : t119 = true
      · subst c7
        have H1 : (evenhandedlaw3_WindowRows.j0 k a0 a1 (decide (a0 > 3000))) = some r := by rw [if_pos rfl] at H; exact H
        clear H
        have H := H1
        clear H1
        have H' := Aside0.mk H
        clear H
        go_wp2_with (first | ((with_reducible refine gate_callee (f := 13) rfl ?_); refine goesL_ (some 13) rfl rfl Try.func13 (by kernel_rfl) rfl #[.int .i64 a0, .int .i64 a1] rfl (by (try simp only [List.map_toArray, List.map_cons, List.map_nil]); first | done | rfl | (simp only [List.length_drop, List.length_take]; rfl)) ?_; (with_reducible refine (evenhandedref1_TaskMay.calls a0 a1 true _ A6.out).mono ?_); rintro e w' ⟨rfl, ⟨nd, rfl⟩⟩; refine ⟨_, rfl, ?_⟩))
        go_meet
        case rel => exact ⟨_, (decide (a0 > 3000)), (by first | rfl | (simp; done) | (simp [*]; done)), H', ⟨by first | omega | exact Nat.le_refl _⟩, by repeat (first | exact Drawn0.refl _ | apply Drawn0.step)⟩
      · replace c7 := Bool.eq_false_iff.mpr c7
        subst c7
        have H1 : (evenhandedlaw3_WindowRows.j0 k a0 a1 true) = some r := by rw [if_neg (show ¬ (false = true) by decide)] at H; exact H
        clear H
        have H := H1
        clear H1
        have H' := Aside0.mk H
        clear H
        go_wp2_with (first | ((with_reducible refine gate_callee (f := 13) rfl ?_); refine goesL_ (some 13) rfl rfl Try.func13 (by kernel_rfl) rfl #[.int .i64 a0, .int .i64 a1] rfl (by (try simp only [List.map_toArray, List.map_cons, List.map_nil]); first | done | rfl | (simp only [List.length_drop, List.length_take]; rfl)) ?_; (with_reducible refine (evenhandedref1_TaskMay.calls a0 a1 false _ A6.out).mono ?_); rintro e w' ⟨rfl, ⟨nd, rfl⟩⟩; refine ⟨_, rfl, ?_⟩))
        go_meet
        case rel => exact ⟨_, (true), (by first | rfl | (simp; done) | (simp [*]; done)), H', ⟨by first | omega | exact Nat.le_refl _⟩, by repeat (first | exact Drawn0.refl _ | apply Drawn0.step)⟩
    case rest =>
      clear HC5
      try clear c1
      try clear p2
      try clear c4
      try clear c7
      obtain ⟨kq, x18_4, rfl, HA, HJ4, ⟨mc4, rfl⟩⟩ := hcut
      cases kq with
      | zero => exact absurd HA.out (by simp [evenhandedlaw3_WindowRows.j0])
      | succ kj4 =>
        have H := HA.out
        clear HA
        simp only [evenhandedlaw3_WindowRows.j0] at H
        by_cases c8 : x18_4 = true
        · subst c8
          have H1 : (some true) = some r := by rw [if_pos rfl] at H; exact H
          clear H
          have H := H1
          clear H1
          obtain rfl := Option.some.inj H
          go_wp2
          go_ret
          exact ⟨by first | rfl | (simp; done) | (simp [*]; done), by repeat (first | exact Drawn0.refl _ | apply Drawn0.step)⟩
        · replace c8 := Bool.eq_false_iff.mpr c8
          subst c8
          have H1 : (evenhandedlaw3_WindowRows.l0 kj4 a0 a1 1) = some r := by rw [if_neg (show ¬ (false = true) by decide)] at H; exact H
          clear H
          have H := H1
          clear H1
          have H' := Aside0.mk H
          clear H
          go_wp2
          go_loopg [5] kj4 (fun kq v5 w' => ∃ (x5_2 : Int), v5 = .int .i64 x5_2 ∧ Aside0 (evenhandedlaw3_WindowRows.l0 kq a0 a1 x5_2 = some r) ∧ Aside0 (kq ≤ kj4) ∧ Drawn0 w w')
          case atStart => exact ⟨(1), (by first | rfl | (simp; done) | (simp [*]; done)), H', ⟨Nat.le_refl _⟩, by repeat (first | exact Drawn0.refl _ | apply Drawn0.step)⟩
          case round =>
            clear H'
            try clear c1
            try clear p2
            try clear c4
            try clear c7
            try clear c8
            try clear p2
            obtain ⟨x5_2, rfl, HA, HK2, ⟨m2, rfl⟩⟩ := hrel
            cases gk with
            | zero => exact absurd HA.out (by simp [evenhandedlaw3_WindowRows.l0])
            | succ k2 =>
              have H := HA.out
              clear HA
              simp only [evenhandedlaw3_WindowRows.l0] at H
              by_cases c9 : x5_2 ≤ a0
              · rw [if_pos c9] at H
                have c9b0 : decide (x5_2 ≤ a0) = true := decide_eq_true c9
                clear c9
                replace H := Option.bind_eq_some_iff.mp H
                obtain ⟨t120, A100, H⟩ := H
                replace H : ((window_Deadline.f a0 a1 x5_2).bind fun t121 => (if (wrap64 (t120 * a0)) ≤ (wrap64 ((wrap64 (x5_2 - 1)) * a1)) then (if ((wrap64 ((wrap64 (x5_2 - 1)) * a1)) < (wrap64 ((wrap64 (t120 + 1)) * a0))) then (evenhandedlaw3_WindowRows.j2 k2 a0 a1 x5_2 t120 t121 false) else (if a0 = 0 then (none) else (evenhandedlaw3_WindowRows.j2 k2 a0 a1 x5_2 t120 t121 (!(t120 == (wrap64 (Int.tdiv (wrap64 ((wrap64 (x5_2 - 1)) * a1)) a0))))))) else (if a0 = 0 then (none) else (evenhandedlaw3_WindowRows.j2 k2 a0 a1 x5_2 t120 t121 (!(t120 == (wrap64 (Int.tdiv (wrap64 ((wrap64 (x5_2 - 1)) * a1)) a0)))))))) = some r := H
                have A10 := Aside0.mk A100
                clear A100
                replace H := Option.bind_eq_some_iff.mp H
                obtain ⟨t121, A110, H⟩ := H
                replace H : (if (wrap64 (t120 * a0)) ≤ (wrap64 ((wrap64 (x5_2 - 1)) * a1)) then (if ((wrap64 ((wrap64 (x5_2 - 1)) * a1)) < (wrap64 ((wrap64 (t120 + 1)) * a0))) then (evenhandedlaw3_WindowRows.j2 k2 a0 a1 x5_2 t120 t121 false) else (if a0 = 0 then (none) else (evenhandedlaw3_WindowRows.j2 k2 a0 a1 x5_2 t120 t121 (!(t120 == (wrap64 (Int.tdiv (wrap64 ((wrap64 (x5_2 - 1)) * a1)) a0))))))) else (if a0 = 0 then (none) else (evenhandedlaw3_WindowRows.j2 k2 a0 a1 x5_2 t120 t121 (!(t120 == (wrap64 (Int.tdiv (wrap64 ((wrap64 (x5_2 - 1)) * a1)) a0))))))) = some r := H
                have A11 := Aside0.mk A110
                clear A110
                have HC12 := Aside0.mk H
                clear H
                go_upto_region 9 with (first | ((with_reducible refine gate_callee (f := 15) rfl ?_); refine goesL_ (some 27) rfl rfl Try.func15 (by kernel_rfl) rfl #[.int .i64 a0, .int .i64 a1, .int .i64 x5_2] rfl (by (try simp only [List.map_toArray, List.map_cons, List.map_nil]); first | done | rfl | (simp only [List.length_drop, List.length_take]; rfl)) ?_; (with_reducible refine (window_Release.calls a0 a1 x5_2 t120 _ A10.out).mono ?_); rintro e w' ⟨rfl, ⟨nd, rfl⟩⟩; refine ⟨_, rfl, ?_⟩) | ((with_reducible refine gate_callee (f := 16) rfl ?_); refine goesL_ (some 31) rfl rfl Try.func16 (by kernel_rfl) rfl #[.int .i64 a0, .int .i64 a1, .int .i64 x5_2] rfl (by (try simp only [List.map_toArray, List.map_cons, List.map_nil]); first | done | rfl | (simp only [List.length_drop, List.length_take]; rfl)) ?_; (with_reducible refine (window_Deadline.calls a0 a1 x5_2 t121 _ A11.out).mono ?_); rintro e w' ⟨rfl, ⟨nd, rfl⟩⟩; refine ⟨_, rfl, ?_⟩))
                (try simp only [Act.put, List.setIfInBounds_toArray, List.set_cons_zero, List.set_cons_succ])
                go_cut [62] (fun v62 wc => ∃ (kq : Nat) (x62_11 : Bool), v62 = .bool x62_11 ∧ Aside0 (evenhandedlaw3_WindowRows.j2 kq a0 a1 x5_2 t120 t121 x62_11 = some r) ∧ Aside0 (kq ≤ k2) ∧ Drawn0 w wc)
                case first =>
                  have H := HC12.out
                  clear HC12
                  by_cases c13 : (wrap64 (t120 * a0)) ≤ (wrap64 ((wrap64 (x5_2 - 1)) * a1))
                  · rw [if_pos c13] at H
                    have c13b0 : decide ((wrap64 (t120 * a0)) ≤ (wrap64 ((wrap64 (x5_2 - 1)) * a1))) = true := decide_eq_true c13
                    clear c13
                    (first | rw [c13b0] | (simp only [i64_w, i32_w]; rw [c13b0]) | skip)
                    by_cases c14 : ((wrap64 ((wrap64 (x5_2 - 1)) * a1)) < (wrap64 ((wrap64 (t120 + 1)) * a0)))
                    · rw [if_pos c14] at H
                      have c14b0 : decide ((wrap64 ((wrap64 (x5_2 - 1)) * a1)) < (wrap64 ((wrap64 (t120 + 1)) * a0))) = true := decide_eq_true c14
                      clear c14
                      have H' := Aside0.mk H
                      clear H
                      go_wp2
                      go_meet
                      case rel => exact ⟨_, (false), (by first | rfl | (simp; done) | (simp [*]; done)), H', ⟨by have := HJ4.out; have := HK2.out; first | omega | exact Nat.le_refl _⟩, by repeat (first | exact Drawn0.refl _ | apply Drawn0.step)⟩
                    · rw [if_neg c14] at H
                      have c14b0 : decide ((wrap64 ((wrap64 (x5_2 - 1)) * a1)) < (wrap64 ((wrap64 (t120 + 1)) * a0))) = false := decide_eq_false c14
                      clear c14
                      by_cases c15 : a0 = 0
                      · rw [if_pos c15] at H
                        exact absurd H (by simp)
                      · rw [if_neg c15] at H
                        have c15b0 : (a0 == 0) = false := beq_eq_false_iff_ne.mpr c15
                        have c15b1 : (a0 != 0) = true := bne_iff_ne.mpr c15
                        have H' := Aside0.mk H
                        clear H
                        go_wp2
                        go_meet
                        case rel => exact ⟨_, (!(t120 == (wrap64 (Int.tdiv (wrap64 ((wrap64 (x5_2 - 1)) * a1)) a0)))), (by first | rfl | (simp; done) | (simp [*]; done)), H', ⟨by have := HJ4.out; have := HK2.out; first | omega | exact Nat.le_refl _⟩, by repeat (first | exact Drawn0.refl _ | apply Drawn0.step)⟩
                  · rw [if_neg c13] at H
                    have c13b0 : decide ((wrap64 (t120 * a0)) ≤ (wrap64 ((wrap64 (x5_2 - 1)) * a1))) = false := decide_eq_false c13
                    clear c13
                    (first | rw [c13b0] | (simp only [i64_w, i32_w]; rw [c13b0]) | skip)
                    by_cases c16 : a0 = 0
                    · rw [if_pos c16] at H
                      exact absurd H (by simp)
                    · rw [if_neg c16] at H
                      have c16b0 : (a0 == 0) = false := beq_eq_false_iff_ne.mpr c16
                      have c16b1 : (a0 != 0) = true := bne_iff_ne.mpr c16
                      have H' := Aside0.mk H
                      clear H
                      go_wp2
                      go_meet
                      case rel => exact ⟨_, (!(t120 == (wrap64 (Int.tdiv (wrap64 ((wrap64 (x5_2 - 1)) * a1)) a0)))), (by first | rfl | (simp; done) | (simp [*]; done)), H', ⟨by have := HJ4.out; have := HK2.out; first | omega | exact Nat.le_refl _⟩, by repeat (first | exact Drawn0.refl _ | apply Drawn0.step)⟩
                case rest =>
                  clear HC12
                  try clear c1
                  try clear p2
                  try clear c4
                  try clear p6
                  try clear c7
                  try clear c8
                  try clear c9
                  try clear c9b0
                  try clear c11
                  try clear c13
                  try clear c13b0
                  try clear c14
                  try clear c14b0
                  try clear c15
                  try clear c15b0
                  try clear c15b1
                  try clear c16
                  try clear c16b0
                  try clear c16b1
                  try clear p2
                  obtain ⟨kq, x62_11, rfl, HA, HJ11, ⟨mc11, rfl⟩⟩ := hcut
                  cases kq with
                  | zero => exact absurd HA.out (by simp [evenhandedlaw3_WindowRows.j2])
                  | succ kj11 =>
                    have H := HA.out
                    clear HA
                    simp only [evenhandedlaw3_WindowRows.j2] at H
                    by_cases c17 : x62_11 = true
                    · subst c17
                      have H1 : (some false) = some r := by rw [if_pos rfl] at H; exact H
                      clear H
                      have H := H1
                      clear H1
                      obtain rfl := Option.some.inj H
                      go_wp2
                      go_ret
                      exact ⟨by first | rfl | (simp; done) | (simp [*]; done), by repeat (first | exact Drawn0.refl _ | apply Drawn0.step)⟩
                    · replace c17 := Bool.eq_false_iff.mpr c17
                      subst c17
                      have H1 : (if (wrap64 (t121 * a0)) < (wrap64 (x5_2 * a1)) then (evenhandedlaw3_WindowRows.j3 kj11 a0 a1 x5_2 t121 true) else (if (wrap64 ((wrap64 (t121 - 1)) * a0)) ≥ (wrap64 (x5_2 * a1)) then (evenhandedlaw3_WindowRows.j3 kj11 a0 a1 x5_2 t121 true) else (if t120 ≥ t121 then (evenhandedlaw3_WindowRows.j3 kj11 a0 a1 x5_2 t121 true) else (if x5_2 = 1 then (if t120 = 0 then (if x5_2 = a0 then (evenhandedlaw3_WindowRows.j3 kj11 a0 a1 x5_2 t121 (t121 != a1)) else (evenhandedlaw3_WindowRows.j3 kj11 a0 a1 x5_2 t121 false)) else (evenhandedlaw3_WindowRows.j3 kj11 a0 a1 x5_2 t121 true)) else (if x5_2 = a0 then (evenhandedlaw3_WindowRows.j3 kj11 a0 a1 x5_2 t121 (t121 != a1)) else (evenhandedlaw3_WindowRows.j3 kj11 a0 a1 x5_2 t121 false)))))) = some r := by rw [if_neg (show ¬ (false = true) by decide)] at H; exact H
                      clear H
                      have H := H1
                      clear H1
                      have HC18 := Aside0.mk H
                      clear H
                      go_upto_region 11 with (fail)
                      go_cut [102] (fun v102 wc => ∃ (kq : Nat) (x102_17 : Bool), v102 = .bool x102_17 ∧ Aside0 (evenhandedlaw3_WindowRows.j3 kq a0 a1 x5_2 t121 x102_17 = some r) ∧ Aside0 (kq ≤ kj11) ∧ Drawn0 w wc)
                      case first =>
                        have H := HC18.out
                        clear HC18
                        by_cases c19 : (wrap64 (t121 * a0)) < (wrap64 (x5_2 * a1))
                        · rw [if_pos c19] at H
                          have c19b0 : decide ((wrap64 (t121 * a0)) < (wrap64 (x5_2 * a1))) = true := decide_eq_true c19
                          clear c19
                          (first | rw [c19b0] | (simp only [i64_w, i32_w]; rw [c19b0]) | skip)
                          have H' := Aside0.mk H
                          clear H
                          go_wp2
                          go_meet
                          case rel => exact ⟨_, (true), (by first | rfl | (simp; done) | (simp [*]; done)), H', ⟨by have := HJ4.out; have := HK2.out; have := HJ11.out; first | omega | exact Nat.le_refl _⟩, by repeat (first | exact Drawn0.refl _ | apply Drawn0.step)⟩
                        · rw [if_neg c19] at H
                          have c19b0 : decide ((wrap64 (t121 * a0)) < (wrap64 (x5_2 * a1))) = false := decide_eq_false c19
                          clear c19
                          (first | rw [c19b0] | (simp only [i64_w, i32_w]; rw [c19b0]) | skip)
                          by_cases c20 : (wrap64 ((wrap64 (t121 - 1)) * a0)) ≥ (wrap64 (x5_2 * a1))
                          · rw [if_pos c20] at H
                            have c20b0 : decide ((wrap64 (x5_2 * a1)) ≤ (wrap64 ((wrap64 (t121 - 1)) * a0))) = true := decide_eq_true c20
                            clear c20
                            have H' := Aside0.mk H
                            clear H
                            go_wp2
                            go_meet
                            case rel => exact ⟨_, (true), (by first | rfl | (simp; done) | (simp [*]; done)), H', ⟨by have := HJ4.out; have := HK2.out; have := HJ11.out; first | omega | exact Nat.le_refl _⟩, by repeat (first | exact Drawn0.refl _ | apply Drawn0.step)⟩
                          · rw [if_neg c20] at H
                            have c20b0 : decide ((wrap64 (x5_2 * a1)) ≤ (wrap64 ((wrap64 (t121 - 1)) * a0))) = false := decide_eq_false c20
                            clear c20
                            by_cases c21 : t120 ≥ t121
                            · rw [if_pos c21] at H
                              have c21b0 : decide (t121 ≤ t120) = true := decide_eq_true c21
                              clear c21
                              have H' := Aside0.mk H
                              clear H
                              go_wp2
                              go_meet
                              case rel => exact ⟨_, (true), (by first | rfl | (simp; done) | (simp [*]; done)), H', ⟨by have := HJ4.out; have := HK2.out; have := HJ11.out; first | omega | exact Nat.le_refl _⟩, by repeat (first | exact Drawn0.refl _ | apply Drawn0.step)⟩
                            · rw [if_neg c21] at H
                              have c21b0 : decide (t121 ≤ t120) = false := decide_eq_false c21
                              clear c21
                              by_cases c22 : x5_2 = 1
                              · rw [if_pos c22] at H
                                have c22b0 : (x5_2 == 1) = true := beq_iff_eq.mpr c22
                                have c22b1 : (x5_2 != 1) = false := bne_eq_false_iff_eq.mpr c22
                                clear c22
                                by_cases c23 : t120 = 0
                                · rw [if_pos c23] at H
                                  have c23b0 : (t120 == 0) = true := beq_iff_eq.mpr c23
                                  have c23b1 : (t120 != 0) = false := bne_eq_false_iff_eq.mpr c23
                                  clear c23
                                  by_cases c24 : x5_2 = a0
                                  · rw [if_pos c24] at H
                                    have c24b0 : (x5_2 == a0) = true := beq_iff_eq.mpr c24
                                    have c24b1 : (x5_2 != a0) = false := bne_eq_false_iff_eq.mpr c24
                                    clear c24
                                    have H' := Aside0.mk H
                                    clear H
                                    go_wp2
                                    go_meet
                                    case rel => exact ⟨_, ((t121 != a1)), (by first | rfl | (simp; done) | (simp [*]; done)), H', ⟨by have := HJ4.out; have := HK2.out; have := HJ11.out; first | omega | exact Nat.le_refl _⟩, by repeat (first | exact Drawn0.refl _ | apply Drawn0.step)⟩
                                  · rw [if_neg c24] at H
                                    have c24b0 : (x5_2 == a0) = false := beq_eq_false_iff_ne.mpr c24
                                    have c24b1 : (x5_2 != a0) = true := bne_iff_ne.mpr c24
                                    have H' := Aside0.mk H
                                    clear H
                                    go_wp2
                                    go_meet
                                    case rel => exact ⟨_, (false), (by first | rfl | (simp; done) | (simp [*]; done)), H', ⟨by have := HJ4.out; have := HK2.out; have := HJ11.out; first | omega | exact Nat.le_refl _⟩, by repeat (first | exact Drawn0.refl _ | apply Drawn0.step)⟩
                                · rw [if_neg c23] at H
                                  have c23b0 : (t120 == 0) = false := beq_eq_false_iff_ne.mpr c23
                                  have c23b1 : (t120 != 0) = true := bne_iff_ne.mpr c23
                                  have H' := Aside0.mk H
                                  clear H
                                  go_wp2
                                  go_meet
                                  case rel => exact ⟨_, (true), (by first | rfl | (simp; done) | (simp [*]; done)), H', ⟨by have := HJ4.out; have := HK2.out; have := HJ11.out; first | omega | exact Nat.le_refl _⟩, by repeat (first | exact Drawn0.refl _ | apply Drawn0.step)⟩
                              · rw [if_neg c22] at H
                                have c22b0 : (x5_2 == 1) = false := beq_eq_false_iff_ne.mpr c22
                                have c22b1 : (x5_2 != 1) = true := bne_iff_ne.mpr c22
                                by_cases c25 : x5_2 = a0
                                · rw [if_pos c25] at H
                                  have c25b0 : (x5_2 == a0) = true := beq_iff_eq.mpr c25
                                  have c25b1 : (x5_2 != a0) = false := bne_eq_false_iff_eq.mpr c25
                                  clear c25
                                  have H' := Aside0.mk H
                                  clear H
                                  go_wp2
                                  go_meet
                                  case rel => exact ⟨_, ((t121 != a1)), (by first | rfl | (simp; done) | (simp [*]; done)), H', ⟨by have := HJ4.out; have := HK2.out; have := HJ11.out; first | omega | exact Nat.le_refl _⟩, by repeat (first | exact Drawn0.refl _ | apply Drawn0.step)⟩
                                · rw [if_neg c25] at H
                                  have c25b0 : (x5_2 == a0) = false := beq_eq_false_iff_ne.mpr c25
                                  have c25b1 : (x5_2 != a0) = true := bne_iff_ne.mpr c25
                                  have H' := Aside0.mk H
                                  clear H
                                  go_wp2
                                  go_meet
                                  case rel => exact ⟨_, (false), (by first | rfl | (simp; done) | (simp [*]; done)), H', ⟨by have := HJ4.out; have := HK2.out; have := HJ11.out; first | omega | exact Nat.le_refl _⟩, by repeat (first | exact Drawn0.refl _ | apply Drawn0.step)⟩
                      case rest =>
                        clear HC18
                        try clear c1
                        try clear c2
                        try clear p2
                        try clear c4
                        try clear p6
                        try clear c7
                        try clear c8
                        try clear c9
                        try clear c9b0
                        try clear c11
                        try clear c13
                        try clear c13b0
                        try clear c14
                        try clear c14b0
                        try clear c15
                        try clear c15b0
                        try clear c15b1
                        try clear c16
                        try clear c16b0
                        try clear c16b1
                        try clear c17
                        try clear c19
                        try clear c19b0
                        try clear c20
                        try clear c20b0
                        try clear c21
                        try clear c21b0
                        try clear c22
                        try clear c22b0
                        try clear c22b1
                        try clear c23
                        try clear c23b0
                        try clear c23b1
                        try clear c24
                        try clear c24b0
                        try clear c24b1
                        try clear c25
                        try clear c25b0
                        try clear c25b1
                        try clear p2
                        try clear p6
                        obtain ⟨kq, x102_17, rfl, HA, HJ17, ⟨mc17, rfl⟩⟩ := hcut
                        cases kq with
                        | zero => exact absurd HA.out (by simp [evenhandedlaw3_WindowRows.j3])
                        | succ kj17 =>
                          have H := HA.out
                          clear HA
                          simp only [evenhandedlaw3_WindowRows.j3] at H
                          by_cases c26 : x102_17 = true
                          · subst c26
                            have H1 : (some false) = some r := by rw [if_pos rfl] at H; exact H
                            clear H
                            have H := H1
                            clear H1
                            obtain rfl := Option.some.inj H
                            go_wp2
                            go_ret
                            exact ⟨by first | rfl | (simp; done) | (simp [*]; done), by repeat (first | exact Drawn0.refl _ | apply Drawn0.step)⟩
                          · replace c26 := Bool.eq_false_iff.mpr c26
                            subst c26
                            have H1 : (if x5_2 < a0 then ((window_Release.f a0 a1 (wrap64 (x5_2 + 1))).bind fun t122 => ((window_Bit.f a0 a1 x5_2).bind fun t123 => (evenhandedlaw3_WindowRows.j4 kj17 a0 a1 x5_2 t121 ((wrap64 (t121 - t122)) != t123)))) else (evenhandedlaw3_WindowRows.j4 kj17 a0 a1 x5_2 t121 false)) = some r := by rw [if_neg (show ¬ (false = true) by decide)] at H; exact H
                            clear H
                            have H := H1
                            clear H1
                            have HC27 := Aside0.mk H
                            clear H
                            go_upto_region 13 with (fail)
                            go_cut [119] (fun v119 wc => ∃ (kq : Nat) (x119_26 : Bool), v119 = .bool x119_26 ∧ Aside0 (evenhandedlaw3_WindowRows.j4 kq a0 a1 x5_2 t121 x119_26 = some r) ∧ Aside0 (kq ≤ kj17) ∧ Drawn0 w wc)
                            case first =>
                              have H := HC27.out
                              clear HC27
                              by_cases c28 : x5_2 < a0
                              · rw [if_pos c28] at H
                                have c28b0 : decide (x5_2 < a0) = true := decide_eq_true c28
                                clear c28
                                (first | rw [c28b0] | (simp only [i64_w, i32_w]; rw [c28b0]) | skip)
                                replace H := Option.bind_eq_some_iff.mp H
                                obtain ⟨t122, A290, H⟩ := H
                                replace H : ((window_Bit.f a0 a1 x5_2).bind fun t123 => (evenhandedlaw3_WindowRows.j4 kj17 a0 a1 x5_2 t121 ((wrap64 (t121 - t122)) != t123))) = some r := H
                                have A29 := Aside0.mk A290
                                clear A290
                                replace H := Option.bind_eq_some_iff.mp H
                                obtain ⟨t123, A300, H⟩ := H
                                replace H : (evenhandedlaw3_WindowRows.j4 kj17 a0 a1 x5_2 t121 ((wrap64 (t121 - t122)) != t123)) = some r := H
                                have A30 := Aside0.mk A300
                                clear A300
                                have H' := Aside0.mk H
                                clear H
                                go_wp2_with (first | (go_at_call 15; (with_reducible refine (window_Release.calls a0 a1 (wrap64 (x5_2 + 1)) t122 _ A29.out).mono ?_); rintro e w' ⟨rfl, ⟨nd, rfl⟩⟩) | (go_at_call 17; (with_reducible refine (window_Bit.calls a0 a1 x5_2 t123 _ A30.out).mono ?_); rintro e w' ⟨rfl, ⟨nd, rfl⟩⟩))
                                go_meet
                                case rel => exact ⟨_, (((wrap64 (t121 - t122)) != t123)), (by first | rfl | (simp; done) | (simp [*]; done)), H', ⟨by have := HJ4.out; have := HK2.out; have := HJ11.out; have := HJ17.out; first | omega | exact Nat.le_refl _⟩, by repeat (first | exact Drawn0.refl _ | apply Drawn0.step)⟩
                              · rw [if_neg c28] at H
                                have c28b0 : decide (x5_2 < a0) = false := decide_eq_false c28
                                clear c28
                                (first | rw [c28b0] | (simp only [i64_w, i32_w]; rw [c28b0]) | skip)
                                have H' := Aside0.mk H
                                clear H
                                go_wp2
                                go_meet
                                case rel => exact ⟨_, (false), (by first | rfl | (simp; done) | (simp [*]; done)), H', ⟨by have := HJ4.out; have := HK2.out; have := HJ11.out; have := HJ17.out; first | omega | exact Nat.le_refl _⟩, by repeat (first | exact Drawn0.refl _ | apply Drawn0.step)⟩
                            case rest =>
                              clear HC27
                              try clear c1
                              try clear c2
                              try clear p2
                              try clear c4
                              try clear p6
                              try clear c7
                              try clear c8
                              try clear c9
                              try clear c9b0
                              try clear c11
                              try clear c13
                              try clear c13b0
                              try clear c14
                              try clear c14b0
                              try clear c15
                              try clear c15b0
                              try clear c15b1
                              try clear c16
                              try clear c16b0
                              try clear c16b1
                              try clear c17
                              try clear c19
                              try clear c19b0
                              try clear c20
                              try clear c20b0
                              try clear c21
                              try clear c21b0
                              try clear c22
                              try clear c22b0
                              try clear c22b1
                              try clear c23
                              try clear c23b0
                              try clear c23b1
                              try clear c24
                              try clear c24b0
                              try clear c24b1
                              try clear c25
                              try clear c25b0
                              try clear c25b1
                              try clear c26
                              try clear c28
                              try clear c28b0
                              try clear p2
                              try clear p6
                              obtain ⟨kq, x119_26, rfl, HA, HJ26, ⟨mc26, rfl⟩⟩ := hcut
                              cases kq with
                              | zero => exact absurd HA.out (by simp [evenhandedlaw3_WindowRows.j4])
                              | succ kj26 =>
                                have H := HA.out
                                clear HA
                                simp only [evenhandedlaw3_WindowRows.j4] at H
                                by_cases c31 : x119_26 = true
                                · subst c31
                                  have H1 : (some false) = some r := by rw [if_pos rfl] at H; exact H
                                  clear H
                                  have H := H1
                                  clear H1
                                  obtain rfl := Option.some.inj H
                                  go_wp2
                                  go_ret
                                  exact ⟨by first | rfl | (simp; done) | (simp [*]; done), by repeat (first | exact Drawn0.refl _ | apply Drawn0.step)⟩
                                · replace c31 := Bool.eq_false_iff.mpr c31
                                  subst c31
                                  have H1 : ((window_Group.f kj26 a0 a1 x5_2).bind fun t124 => ((window_Heavy.f a0 a1).bind fun t125 => (if t125 = true then (evenhandedlaw3_WindowRows.j5 kj26 a0 a1 x5_2 t121 t124 (decide (a0 < a1))) else (evenhandedlaw3_WindowRows.j5 kj26 a0 a1 x5_2 t121 t124 false)))) = some r := by rw [if_neg (show ¬ (false = true) by decide)] at H; exact H
                                  clear H
                                  have H := H1
                                  clear H1
                                  replace H := Option.bind_eq_some_iff.mp H
                                  obtain ⟨t124, A320, H⟩ := H
                                  replace H : ((window_Heavy.f a0 a1).bind fun t125 => (if t125 = true then (evenhandedlaw3_WindowRows.j5 kj26 a0 a1 x5_2 t121 t124 (decide (a0 < a1))) else (evenhandedlaw3_WindowRows.j5 kj26 a0 a1 x5_2 t121 t124 false))) = some r := H
                                  have A32 := Aside0.mk A320
                                  clear A320
                                  have HC33 := Aside0.mk H
                                  clear H
                                  go_upto_region 16 with (first | ((with_reducible refine gate_callee (f := 18) rfl ?_); refine goesL_ (some 123) rfl rfl Try.func18 (by kernel_rfl) rfl #[.int .i64 a0, .int .i64 a1, .int .i64 x5_2] rfl (by (try simp only [List.map_toArray, List.map_cons, List.map_nil]); first | done | rfl | (simp only [List.length_drop, List.length_take]; rfl)) ?_; (with_reducible refine (window_Group.calls kj26 a0 a1 x5_2 t124 _ A32.out).mono ?_); rintro e w' ⟨rfl, ⟨nd, rfl⟩⟩; refine ⟨_, rfl, ?_⟩))
                                  (try simp only [Act.put, List.setIfInBounds_toArray, List.set_cons_zero, List.set_cons_succ])
                                  go_cut [131] (fun v131 wc => ∃ (kq : Nat) (x131_32 : Bool), v131 = .bool x131_32 ∧ Aside0 (evenhandedlaw3_WindowRows.j5 kq a0 a1 x5_2 t121 t124 x131_32 = some r) ∧ Aside0 (kq ≤ kj26) ∧ Drawn0 w wc)
                                  case first =>
                                    have H := HC33.out
                                    clear HC33
                                    replace H := Option.bind_eq_some_iff.mp H
                                    obtain ⟨t125, A340, H⟩ := H
                                    replace H : (if t125 = true then (evenhandedlaw3_WindowRows.j5 kj26 a0 a1 x5_2 t121 t124 (decide (a0 < a1))) else (evenhandedlaw3_WindowRows.j5 kj26 a0 a1 x5_2 t121 t124 false)) = some r := H
                                    have A34 := Aside0.mk A340
                                    clear A340
                                    by_cases c35 : t125 = true
                                    · subst c35
                                      have H1 : (evenhandedlaw3_WindowRows.j5 kj26 a0 a1 x5_2 t121 t124 (decide (a0 < a1))) = some r := by rw [if_pos rfl] at H; exact H
                                      clear H
                                      have H := H1
                                      clear H1
                                      have H' := Aside0.mk H
                                      clear H
                                      go_wp2_with (first | ((with_reducible refine gate_callee (f := 19) rfl ?_); refine goesL_ (some 126) rfl rfl Try.func19 (by kernel_rfl) rfl #[.int .i64 a0, .int .i64 a1] rfl (by (try simp only [List.map_toArray, List.map_cons, List.map_nil]); first | done | rfl | (simp only [List.length_drop, List.length_take]; rfl)) ?_; (with_reducible refine (window_Heavy.calls a0 a1 true _ A34.out).mono ?_); rintro e w' ⟨rfl, ⟨nd, rfl⟩⟩; refine ⟨_, rfl, ?_⟩))
                                      go_meet
                                      case rel => exact ⟨_, (decide (a0 < a1)), (by first | rfl | (simp; done) | (simp [*]; done)), H', ⟨by have := HJ4.out; have := HK2.out; have := HJ11.out; have := HJ17.out; have := HJ26.out; first | omega | exact Nat.le_refl _⟩, by repeat (first | exact Drawn0.refl _ | apply Drawn0.step)⟩
                                    · replace c35 := Bool.eq_false_iff.mpr c35
                                      subst c35
                                      have H1 : (evenhandedlaw3_WindowRows.j5 kj26 a0 a1 x5_2 t121 t124 false) = some r := by rw [if_neg (show ¬ (false = true) by decide)] at H; exact H
                                      clear H
                                      have H := H1
                                      clear H1
                                      have H' := Aside0.mk H
                                      clear H
                                      go_wp2_with (first | ((with_reducible refine gate_callee (f := 19) rfl ?_); refine goesL_ (some 126) rfl rfl Try.func19 (by kernel_rfl) rfl #[.int .i64 a0, .int .i64 a1] rfl (by (try simp only [List.map_toArray, List.map_cons, List.map_nil]); first | done | rfl | (simp only [List.length_drop, List.length_take]; rfl)) ?_; (with_reducible refine (window_Heavy.calls a0 a1 false _ A34.out).mono ?_); rintro e w' ⟨rfl, ⟨nd, rfl⟩⟩; refine ⟨_, rfl, ?_⟩))
                                      go_meet
                                      case rel => exact ⟨_, (false), (by first | rfl | (simp; done) | (simp [*]; done)), H', ⟨by have := HJ4.out; have := HK2.out; have := HJ11.out; have := HJ17.out; have := HJ26.out; first | omega | exact Nat.le_refl _⟩, by repeat (first | exact Drawn0.refl _ | apply Drawn0.step)⟩
                                  case rest =>
                                    clear HC33
                                    try clear c1
                                    try clear c2
                                    try clear p2
                                    try clear c3
                                    try clear c4
                                    try clear p6
                                    try clear c7
                                    try clear c8
                                    try clear c9
                                    try clear c9b0
                                    try clear c11
                                    try clear c13
                                    try clear c13b0
                                    try clear c14
                                    try clear c14b0
                                    try clear c15
                                    try clear c15b0
                                    try clear c15b1
                                    try clear c16
                                    try clear c16b0
                                    try clear c16b1
                                    try clear c17
                                    try clear c18
                                    try clear c19
                                    try clear c19b0
                                    try clear c20
                                    try clear c20b0
                                    try clear c21
                                    try clear c21b0
                                    try clear c22
                                    try clear c22b0
                                    try clear c22b1
                                    try clear c23
                                    try clear c23b0
                                    try clear c23b1
                                    try clear c24
                                    try clear c24b0
                                    try clear c24b1
                                    try clear c25
                                    try clear c25b0
                                    try clear c25b1
                                    try clear c26
                                    try clear c28
                                    try clear c28b0
                                    try clear c31
                                    try clear c35
                                    try clear p2
                                    try clear p6
                                    obtain ⟨kq, x131_32, rfl, HA, HJ32, ⟨mc32, rfl⟩⟩ := hcut
                                    cases kq with
                                    | zero => exact absurd HA.out (by simp [evenhandedlaw3_WindowRows.j5])
                                    | succ kj32 =>
                                      have H := HA.out
                                      clear HA
                                      simp only [evenhandedlaw3_WindowRows.j5] at H
                                      by_cases c36 : x131_32 = true
                                      · subst c36
                                        have H1 : (if t124 < t121 then (some false) else (if t124 > a1 then (some false) else (evenhandedlaw3_WindowRows.l0 kj32 a0 a1 (wrap64 (x5_2 + 1))))) = some r := by rw [if_pos rfl] at H; exact H
                                        clear H
                                        have H := H1
                                        clear H1
                                        by_cases c37 : t124 < t121
                                        · rw [if_pos c37] at H
                                          have c37b0 : decide (t124 < t121) = true := decide_eq_true c37
                                          clear c37
                                          obtain rfl := Option.some.inj H
                                          go_wp2
                                          go_ret
                                          exact ⟨by first | rfl | (simp; done) | (simp [*]; done), by repeat (first | exact Drawn0.refl _ | apply Drawn0.step)⟩
                                        · rw [if_neg c37] at H
                                          have c37b0 : decide (t124 < t121) = false := decide_eq_false c37
                                          clear c37
                                          by_cases c38 : t124 > a1
                                          · rw [if_pos c38] at H
                                            have c38b0 : decide (a1 < t124) = true := decide_eq_true c38
                                            clear c38
                                            obtain rfl := Option.some.inj H
                                            go_wp2
                                            go_ret
                                            exact ⟨by first | rfl | (simp; done) | (simp [*]; done), by repeat (first | exact Drawn0.refl _ | apply Drawn0.step)⟩
                                          · rw [if_neg c38] at H
                                            have c38b0 : decide (a1 < t124) = false := decide_eq_false c38
                                            clear c38
                                            have H' := Aside0.mk H
                                            clear H
                                            go_wp2
                                            go_roundg kj32
                                            case measure => have := HJ4.out; have := HK2.out; have := HJ11.out; have := HJ17.out; have := HJ26.out; have := HJ32.out; omega
                                            case rel => exact ⟨(wrap64 (x5_2 + 1)), (by first | rfl | (simp; done) | (simp [*]; done)), H', ⟨by have := HJ4.out; have := HK2.out; have := HJ11.out; have := HJ17.out; have := HJ26.out; have := HJ32.out; omega⟩, by repeat (first | exact Drawn0.refl _ | apply Drawn0.step)⟩
                                      · replace c36 := Bool.eq_false_iff.mpr c36
                                        subst c36
                                        have H1 : (if t124 = 0 then (evenhandedlaw3_WindowRows.l0 kj32 a0 a1 (wrap64 (x5_2 + 1))) else (some false)) = some r := by rw [if_neg (show ¬ (false = true) by decide)] at H; exact H
                                        clear H
                                        have H := H1
                                        clear H1
                                        by_cases c39 : t124 = 0
                                        · rw [if_pos c39] at H
                                          have c39b0 : (t124 == 0) = true := beq_iff_eq.mpr c39
                                          have c39b1 : (t124 != 0) = false := bne_eq_false_iff_eq.mpr c39
                                          clear c39
                                          have H' := Aside0.mk H
                                          clear H
                                          go_wp2
                                          go_roundg kj32
                                          case measure => have := HJ4.out; have := HK2.out; have := HJ11.out; have := HJ17.out; have := HJ26.out; have := HJ32.out; omega
                                          case rel => exact ⟨(wrap64 (x5_2 + 1)), (by first | rfl | (simp; done) | (simp [*]; done)), H', ⟨by have := HJ4.out; have := HK2.out; have := HJ11.out; have := HJ17.out; have := HJ26.out; have := HJ32.out; omega⟩, by repeat (first | exact Drawn0.refl _ | apply Drawn0.step)⟩
                                        · rw [if_neg c39] at H
                                          have c39b0 : (t124 == 0) = false := beq_eq_false_iff_ne.mpr c39
                                          have c39b1 : (t124 != 0) = true := bne_iff_ne.mpr c39
                                          obtain rfl := Option.some.inj H
                                          go_wp2
                                          go_ret
                                          exact ⟨by first | rfl | (simp; done) | (simp [*]; done), by repeat (first | exact Drawn0.refl _ | apply Drawn0.step)⟩
              · rw [if_neg c9] at H
                have c9b0 : decide (x5_2 ≤ a0) = false := decide_eq_false c9
                clear c9
                obtain rfl := Option.some.inj H
                go_wp2
                go_ret
                exact ⟨by first | rfl | (simp; done) | (simp [*]; done), by repeat (first | exact Drawn0.refl _ | apply Drawn0.step)⟩
  · replace c4 := Bool.eq_false_iff.mpr c4
    subst c4
    have H1 : (some false) = some r := by rw [if_neg (show ¬ (false = true) by decide)] at H; exact H
    clear H
    have H := H1
    clear H1
    obtain rfl := Option.some.inj H
    go_enter Try.func4, Try.ntmps4
    go_wp2_with (first | ((with_reducible refine gate_callee (f := 11) rfl ?_); refine goesL_ (some 9) rfl rfl Try.func11 (by kernel_rfl) rfl #[] rfl (by (try simp only [List.map_toArray, List.map_cons, List.map_nil]); first | done | rfl | (simp only [List.length_drop, List.length_take]; rfl)) ?_; (with_reducible refine (evenhandedlaw3_awake.calls k  false _ A3.out).mono ?_); rintro e w' ⟨rfl, ⟨nd, rfl⟩⟩; refine ⟨_, rfl, ?_⟩))
    go_ret
    exact ⟨by first | rfl | (simp; done) | (simp [*]; done), by repeat (first | exact Drawn0.refl _ | apply Drawn0.step)⟩

/-- THE ONE PURE STATEMENT of evenhandedlaw3_WindowRows: yours. -/
def evenhandedlaw3_WindowRows.Pure : Prop := ∀ (a0 : Int) (a1 : Int), (Lit.int .i64 a0).wf = true → (Lit.int .i64 a1).wf = true → ∃ k, evenhandedlaw3_WindowRows.f k a0 a1 = some true
theorem evenhandedlaw3_WindowRows.walk (P : evenhandedlaw3_WindowRows.Pure) (a0 : Int) (a1 : Int) (w : World) (w0 : (Lit.int .i64 a0).wf = true) (w1 : (Lit.int .i64 a1).wf = true) :
    Calls Try.prog 4 #[.int .i64 a0, .int .i64 a1] w fun e w' => e = .returned (.bool true) ∧ Below w.heap.size w w' := by
  obtain ⟨k, h⟩ := P a0 a1 w0 w1
  refine (evenhandedlaw3_WindowRows.calls k a0 a1 true w h).mono ?_
  rintro e w' ⟨rfl, hd⟩
  exact ⟨rfl, hd.below⟩

end Go.Proofs.Ytnndjjpeaaloiaa.PWindowRows
