-- PRINTED BY print.sh 35421559b90ae4d0a3588c463048766b98c2df88dd9212a6774a882060cdf62d: not written by this session
import Derived.Test.YtnndjjpeaaloiaaPWindowGroupsx0
import Derived.Test.YtnndjjpeaaloiaaPWindowGroupsx1
namespace Go.Proofs.Ytnndjjpeaaloiaa.PWindowGroups
open Go.RowKit Go.Proofs.YtnndjjpeaaloiaaW.PrintWords Go.Proofs.YtnndjjpeaaloiaaW.PrintLast Go.Proofs.YtnndjjpeaaloiaaW.PrintMore
attribute [local go_sem] max2_int min2_int max_two min_two max_three min_three max_four min_four   -- for this text's walks alone
set_option linter.unusedVariables false
set_option linter.unusedSimpArgs false

/-! ### evenhandedlaw3_WindowGroups: function 5 -/
mutual
def evenhandedlaw3_WindowGroups.j0 : Nat → Int → Int → Int → Bool → Option (Bool)
  | 0, _, _, _, _ => none
  | k + 1, x0, x1, x2, x40 => if x40 = true then (some true) else (evenhandedlaw3_WindowGroups.l0 k x0 x1 x2 x2)
def evenhandedlaw3_WindowGroups.l0 : Nat → Int → Int → Int → Int → Option (Bool)
  | 0, _, _, _, _ => none
  | k + 1, x0, x1, x2, x7 => if x0 = 0 then (none) else (if (wrap64 ((wrap64 (Int.tdiv (wrap64 ((wrap64 ((wrap64 (x7 * x1)) + x0)) - 1)) x0)) - (wrap64 (Int.tdiv (wrap64 ((wrap64 (x7 - 1)) * x1)) x0)))) = 3 then (evenhandedlaw3_WindowGroups.j2 k x0 x1 x2 x7 (wrap64 (Int.tdiv (wrap64 ((wrap64 ((wrap64 (x7 * x1)) + x0)) - 1)) x0)) ((Int.tmod (wrap64 (x7 * x1)) x0) != 0) (decide (x7 > x2))) else (evenhandedlaw3_WindowGroups.j2 k x0 x1 x2 x7 (wrap64 (Int.tdiv (wrap64 ((wrap64 ((wrap64 (x7 * x1)) + x0)) - 1)) x0)) ((Int.tmod (wrap64 (x7 * x1)) x0) != 0) false))
def evenhandedlaw3_WindowGroups.j2 : Nat → Int → Int → Int → Int → Int → Bool → Bool → Option (Bool)
  | 0, _, _, _, _, _, _, _ => none
  | k + 1, x0, x1, x2, x7, x9, x10, x72 => if x72 = true then ((window_Group.f k x0 x1 x2).bind fun t120 => (some (t120 == (wrap64 (x9 - 1))))) else (if x10 = true then (evenhandedlaw3_WindowGroups.l0 k x0 x1 x2 (wrap64 (x7 + 1))) else ((window_Group.f k x0 x1 x2).bind fun t121 => (some (t121 == x9))))
end
def evenhandedlaw3_WindowGroups.f (k : Nat) (a0 : Int) (a1 : Int) (a2 : Int) : Option (Bool) := (evenhandedlaw3_awake.f k).bind fun t118 => (if t118 = true then ((evenhandedref1_TaskMay.f a0 a1).bind fun t119 => (if t119 = true then (if (wrap64 (2 * a0)) < a1 then (evenhandedlaw3_WindowGroups.j0 k a0 a1 a2 true) else (if a0 = a1 then (evenhandedlaw3_WindowGroups.j0 k a0 a1 a2 true) else (if a1 > 400 then (evenhandedlaw3_WindowGroups.j0 k a0 a1 a2 true) else (if a2 < 1 then (evenhandedlaw3_WindowGroups.j0 k a0 a1 a2 true) else (evenhandedlaw3_WindowGroups.j0 k a0 a1 a2 (decide (a2 > a0))))))) else (evenhandedlaw3_WindowGroups.j0 k a0 a1 a2 true))) else (some false))
theorem evenhandedlaw3_WindowGroups.mono_l : ∀ k, (∀ y0 y1 y2 y3, LeO (evenhandedlaw3_WindowGroups.j0 k y0 y1 y2 y3) (evenhandedlaw3_WindowGroups.j0 (k + 1) y0 y1 y2 y3)) ∧ (∀ y0 y1 y2 y3, LeO (evenhandedlaw3_WindowGroups.l0 k y0 y1 y2 y3) (evenhandedlaw3_WindowGroups.l0 (k + 1) y0 y1 y2 y3)) ∧ (∀ y0 y1 y2 y3 y4 y5 y6, LeO (evenhandedlaw3_WindowGroups.j2 k y0 y1 y2 y3 y4 y5 y6) (evenhandedlaw3_WindowGroups.j2 (k + 1) y0 y1 y2 y3 y4 y5 y6))
  | 0 => ⟨fun _ _ _ _ r h => by simp [evenhandedlaw3_WindowGroups.j0] at h, fun _ _ _ _ r h => by simp [evenhandedlaw3_WindowGroups.l0] at h, fun _ _ _ _ _ _ _ r h => by simp [evenhandedlaw3_WindowGroups.j2] at h⟩
  | k + 1 => by
    obtain ⟨ih0, ih1, ih2⟩ := evenhandedlaw3_WindowGroups.mono_l k
    refine ⟨?_, ?_, ?_⟩
    · intro y0 y1 y2 y3
      unfold evenhandedlaw3_WindowGroups.j0
      repeat' first
      | (with_reducible exact ih0 _ _ _ _)
      | (with_reducible exact ih1 _ _ _ _)
      | (with_reducible exact ih2 _ _ _ _ _ _ _)
      | (with_reducible exact evenhandedlaw3_awake.mono _)
      | (with_reducible exact window_Group.mono _ _ _ _)
      | (with_reducible exact LeO.refl _)
      | (with_reducible exact LeO.none _)
      | (with_reducible refine LeO.ite ?_ ?_)
      | (with_reducible refine LeO.bind ?_ (fun _ => ?_))
      | exact ih0 _ _ _ _
      | exact ih1 _ _ _ _
      | exact ih2 _ _ _ _ _ _ _
      | exact evenhandedlaw3_awake.mono _
      | exact window_Group.mono _ _ _ _
      | exact LeO.none _
      | refine LeO.ite ?_ ?_
      | refine LeO.bind ?_ (fun _ => ?_)
    · intro y0 y1 y2 y3
      unfold evenhandedlaw3_WindowGroups.l0
      repeat' first
      | (with_reducible exact ih0 _ _ _ _)
      | (with_reducible exact ih1 _ _ _ _)
      | (with_reducible exact ih2 _ _ _ _ _ _ _)
      | (with_reducible exact evenhandedlaw3_awake.mono _)
      | (with_reducible exact window_Group.mono _ _ _ _)
      | (with_reducible exact LeO.refl _)
      | (with_reducible exact LeO.none _)
      | (with_reducible refine LeO.ite ?_ ?_)
      | (with_reducible refine LeO.bind ?_ (fun _ => ?_))
      | exact ih0 _ _ _ _
      | exact ih1 _ _ _ _
      | exact ih2 _ _ _ _ _ _ _
      | exact evenhandedlaw3_awake.mono _
      | exact window_Group.mono _ _ _ _
      | exact LeO.none _
      | refine LeO.ite ?_ ?_
      | refine LeO.bind ?_ (fun _ => ?_)
    · intro y0 y1 y2 y3 y4 y5 y6
      unfold evenhandedlaw3_WindowGroups.j2
      repeat' first
      | (with_reducible exact ih0 _ _ _ _)
      | (with_reducible exact ih1 _ _ _ _)
      | (with_reducible exact ih2 _ _ _ _ _ _ _)
      | (with_reducible exact evenhandedlaw3_awake.mono _)
      | (with_reducible exact window_Group.mono _ _ _ _)
      | (with_reducible exact LeO.refl _)
      | (with_reducible exact LeO.none _)
      | (with_reducible refine LeO.ite ?_ ?_)
      | (with_reducible refine LeO.bind ?_ (fun _ => ?_))
      | exact ih0 _ _ _ _
      | exact ih1 _ _ _ _
      | exact ih2 _ _ _ _ _ _ _
      | exact evenhandedlaw3_awake.mono _
      | exact window_Group.mono _ _ _ _
      | exact LeO.none _
      | refine LeO.ite ?_ ?_
      | refine LeO.bind ?_ (fun _ => ?_)
theorem evenhandedlaw3_WindowGroups.mono : ∀ a0 a1 a2 k, LeO (evenhandedlaw3_WindowGroups.f k a0 a1 a2) (evenhandedlaw3_WindowGroups.f (k + 1) a0 a1 a2) := by
  intro a0 a1 a2 k
  obtain ⟨ih0, ih1, ih2⟩ := evenhandedlaw3_WindowGroups.mono_l k
  unfold evenhandedlaw3_WindowGroups.f
  repeat' first
      | (with_reducible exact ih0 _ _ _ _)
      | (with_reducible exact ih1 _ _ _ _)
      | (with_reducible exact ih2 _ _ _ _ _ _ _)
      | (with_reducible exact evenhandedlaw3_awake.mono _)
      | (with_reducible exact window_Group.mono _ _ _ _)
      | (with_reducible exact LeO.refl _)
      | (with_reducible exact LeO.none _)
      | (with_reducible refine LeO.ite ?_ ?_)
      | (with_reducible refine LeO.bind ?_ (fun _ => ?_))
      | exact ih0 _ _ _ _
      | exact ih1 _ _ _ _
      | exact ih2 _ _ _ _ _ _ _
      | exact evenhandedlaw3_awake.mono _
      | exact window_Group.mono _ _ _ _
      | exact LeO.none _
      | refine LeO.ite ?_ ?_
      | refine LeO.bind ?_ (fun _ => ?_)
set_option maxHeartbeats 8000000 in
set_option maxRecDepth 100000 in
theorem evenhandedlaw3_WindowGroups.calls (k : Nat) (a0 : Int) (a1 : Int) (a2 : Int) (r : Bool) (w : World) (h : evenhandedlaw3_WindowGroups.f k a0 a1 a2 = some r) :
    Calls Try.prog 5 #[.int .i64 a0, .int .i64 a1, .int .i64 a2] w fun e w' => e = .returned (.bool r) ∧ Drawn0 w w' := by
  have H : ((evenhandedlaw3_awake.f k).bind fun t118 => (if t118 = true then ((evenhandedref1_TaskMay.f a0 a1).bind fun t119 => (if t119 = true then (if (wrap64 (2 * a0)) < a1 then (evenhandedlaw3_WindowGroups.j0 k a0 a1 a2 true) else (if a0 = a1 then (evenhandedlaw3_WindowGroups.j0 k a0 a1 a2 true) else (if a1 > 400 then (evenhandedlaw3_WindowGroups.j0 k a0 a1 a2 true) else (if a2 < 1 then (evenhandedlaw3_WindowGroups.j0 k a0 a1 a2 true) else (evenhandedlaw3_WindowGroups.j0 k a0 a1 a2 (decide (a2 > a0))))))) else (evenhandedlaw3_WindowGroups.j0 k a0 a1 a2 true))) else (some false))) = some r := h
  clear h
  replace H := Option.bind_eq_some_iff.mp H
  obtain ⟨t118, A40, H⟩ := H
  replace H : (if t118 = true then ((evenhandedref1_TaskMay.f a0 a1).bind fun t119 => (if t119 = true then (if (wrap64 (2 * a0)) < a1 then (evenhandedlaw3_WindowGroups.j0 k a0 a1 a2 true) else (if a0 = a1 then (evenhandedlaw3_WindowGroups.j0 k a0 a1 a2 true) else (if a1 > 400 then (evenhandedlaw3_WindowGroups.j0 k a0 a1 a2 true) else (if a2 < 1 then (evenhandedlaw3_WindowGroups.j0 k a0 a1 a2 true) else (evenhandedlaw3_WindowGroups.j0 k a0 a1 a2 (decide (a2 > a0))))))) else (evenhandedlaw3_WindowGroups.j0 k a0 a1 a2 true))) else (some false)) = some r := H
  have A4 := Aside0.mk A40
  clear A40
  by_cases c5 : t118 = true
  · subst c5
    have H1 : ((evenhandedref1_TaskMay.f a0 a1).bind fun t119 => (if t119 = true then (if (wrap64 (2 * a0)) < a1 then (evenhandedlaw3_WindowGroups.j0 k a0 a1 a2 true) else (if a0 = a1 then (evenhandedlaw3_WindowGroups.j0 k a0 a1 a2 true) else (if a1 > 400 then (evenhandedlaw3_WindowGroups.j0 k a0 a1 a2 true) else (if a2 < 1 then (evenhandedlaw3_WindowGroups.j0 k a0 a1 a2 true) else (evenhandedlaw3_WindowGroups.j0 k a0 a1 a2 (decide (a2 > a0))))))) else (evenhandedlaw3_WindowGroups.j0 k a0 a1 a2 true))) = some r := by rw [if_pos rfl] at H; exact H
    clear H
    have H := H1
    clear H1
    have HC6 := Aside0.mk H
    clear H
    go_enter Try.func5, Try.ntmps5
    go_upto_region 3 with (first | (go_at_call 11; (with_reducible refine (evenhandedlaw3_awake.calls k  true _ A4.out).mono ?_); rintro e w' ⟨rfl, ⟨nd, rfl⟩⟩; (try first | exact ⟨rfl, _, World.drewN_drewN _ _ _⟩ | exact ⟨rfl, _, Eq.trans (World.drewN_drewN _ _ _) (congrArg (World.drewN _) (Nat.add_assoc _ _ _))⟩)))
    repeat (go_quiet (first | (go_at_call 11; (with_reducible refine (evenhandedlaw3_awake.calls k  true _ A4.out).mono ?_); rintro e w' ⟨rfl, ⟨nd, rfl⟩⟩; (try first | exact ⟨rfl, _, World.drewN_drewN _ _ _⟩ | exact ⟨rfl, _, Eq.trans (World.drewN_drewN _ _ _) (congrArg (World.drewN _) (Nat.add_assoc _ _ _))⟩))); go_upto_region 3 with (first | (go_at_call 11; (with_reducible refine (evenhandedlaw3_awake.calls k  true _ A4.out).mono ?_); rintro e w' ⟨rfl, ⟨nd, rfl⟩⟩; (try first | exact ⟨rfl, _, World.drewN_drewN _ _ _⟩ | exact ⟨rfl, _, Eq.trans (World.drewN_drewN _ _ _) (congrArg (World.drewN _) (Nat.add_assoc _ _ _))⟩))))
    (try simp only [Act.put, List.setIfInBounds_toArray, List.set_cons_zero, List.set_cons_succ])
    go_cut [40] (fun v40 wc => ∃ (kq : Nat) (x40_5 : Bool), v40 = .bool x40_5 ∧ Aside0 (evenhandedlaw3_WindowGroups.j0 kq a0 a1 a2 x40_5 = some r) ∧ Aside0 (kq ≤ k) ∧ Drawn0 w wc)
    case first =>
      have H := HC6.out
      clear HC6
      replace H := Option.bind_eq_some_iff.mp H
      obtain ⟨t119, A70, H⟩ := H
      replace H : (if t119 = true then (if (wrap64 (2 * a0)) < a1 then (evenhandedlaw3_WindowGroups.j0 k a0 a1 a2 true) else (if a0 = a1 then (evenhandedlaw3_WindowGroups.j0 k a0 a1 a2 true) else (if a1 > 400 then (evenhandedlaw3_WindowGroups.j0 k a0 a1 a2 true) else (if a2 < 1 then (evenhandedlaw3_WindowGroups.j0 k a0 a1 a2 true) else (evenhandedlaw3_WindowGroups.j0 k a0 a1 a2 (decide (a2 > a0))))))) else (evenhandedlaw3_WindowGroups.j0 k a0 a1 a2 true)) = some r := H
      have A7 := Aside0.mk A70
      clear A70
      by_cases c8 : t119 = true
      · subst c8
        have H1 : (if (wrap64 (2 * a0)) < a1 then (evenhandedlaw3_WindowGroups.j0 k a0 a1 a2 true) else (if a0 = a1 then (evenhandedlaw3_WindowGroups.j0 k a0 a1 a2 true) else (if a1 > 400 then (evenhandedlaw3_WindowGroups.j0 k a0 a1 a2 true) else (if a2 < 1 then (evenhandedlaw3_WindowGroups.j0 k a0 a1 a2 true) else (evenhandedlaw3_WindowGroups.j0 k a0 a1 a2 (decide (a2 > a0))))))) = some r := by rw [if_pos rfl] at H; exact H
        clear H
        have H := H1
        clear H1
        by_cases c9 : (wrap64 (2 * a0)) < a1
        · rw [if_pos c9] at H
          have c9b0 : decide ((wrap64 (2 * a0)) < a1) = true := decide_eq_true c9
          clear c9
          (first | rw [c9b0] | (simp only [i64_w, i32_w]; rw [c9b0]) | skip)
          have H' := Aside0.mk H
          clear H
          go_wp2_with (first | (go_at_call 13; (with_reducible refine (evenhandedref1_TaskMay.calls a0 a1 true _ A7.out).mono ?_); rintro e w' ⟨rfl, ⟨nd, rfl⟩⟩; (try first | exact ⟨rfl, _, World.drewN_drewN _ _ _⟩ | exact ⟨rfl, _, Eq.trans (World.drewN_drewN _ _ _) (congrArg (World.drewN _) (Nat.add_assoc _ _ _))⟩)))
          repeat (go_quiet (first | (go_at_call 13; (with_reducible refine (evenhandedref1_TaskMay.calls a0 a1 true _ A7.out).mono ?_); rintro e w' ⟨rfl, ⟨nd, rfl⟩⟩; (try first | exact ⟨rfl, _, World.drewN_drewN _ _ _⟩ | exact ⟨rfl, _, Eq.trans (World.drewN_drewN _ _ _) (congrArg (World.drewN _) (Nat.add_assoc _ _ _))⟩))); try go_wp2_with (first | (go_at_call 13; (with_reducible refine (evenhandedref1_TaskMay.calls a0 a1 true _ A7.out).mono ?_); rintro e w' ⟨rfl, ⟨nd, rfl⟩⟩; (try first | exact ⟨rfl, _, World.drewN_drewN _ _ _⟩ | exact ⟨rfl, _, Eq.trans (World.drewN_drewN _ _ _) (congrArg (World.drewN _) (Nat.add_assoc _ _ _))⟩))))
          go_meet
          case rel => exact ⟨_, (true), (by first | rfl | (simp; done) | (simp [*]; done)), H', ⟨by first | omega | exact Nat.le_refl _⟩, by repeat (first | exact Drawn0.refl _ | apply Drawn0.step)⟩
        · rw [if_neg c9] at H
          have c9b0 : decide ((wrap64 (2 * a0)) < a1) = false := decide_eq_false c9
          clear c9
          (first | rw [c9b0] | (simp only [i64_w, i32_w]; rw [c9b0]) | skip)
          by_cases c10 : a0 = a1
          · rw [if_pos c10] at H
            have c10b0 : (a0 == a1) = true := beq_iff_eq.mpr c10
            have c10b1 : (a0 != a1) = false := bne_eq_false_iff_eq.mpr c10
            clear c10
            have H' := Aside0.mk H
            clear H
            go_wp2_with (first | (go_at_call 13; (with_reducible refine (evenhandedref1_TaskMay.calls a0 a1 true _ A7.out).mono ?_); rintro e w' ⟨rfl, ⟨nd, rfl⟩⟩; (try first | exact ⟨rfl, _, World.drewN_drewN _ _ _⟩ | exact ⟨rfl, _, Eq.trans (World.drewN_drewN _ _ _) (congrArg (World.drewN _) (Nat.add_assoc _ _ _))⟩)))
            repeat (go_quiet (first | (go_at_call 13; (with_reducible refine (evenhandedref1_TaskMay.calls a0 a1 true _ A7.out).mono ?_); rintro e w' ⟨rfl, ⟨nd, rfl⟩⟩; (try first | exact ⟨rfl, _, World.drewN_drewN _ _ _⟩ | exact ⟨rfl, _, Eq.trans (World.drewN_drewN _ _ _) (congrArg (World.drewN _) (Nat.add_assoc _ _ _))⟩))); try go_wp2_with (first | (go_at_call 13; (with_reducible refine (evenhandedref1_TaskMay.calls a0 a1 true _ A7.out).mono ?_); rintro e w' ⟨rfl, ⟨nd, rfl⟩⟩; (try first | exact ⟨rfl, _, World.drewN_drewN _ _ _⟩ | exact ⟨rfl, _, Eq.trans (World.drewN_drewN _ _ _) (congrArg (World.drewN _) (Nat.add_assoc _ _ _))⟩))))
            go_meet
            case rel => exact ⟨_, (true), (by first | rfl | (simp; done) | (simp [*]; done)), H', ⟨by first | omega | exact Nat.le_refl _⟩, by repeat (first | exact Drawn0.refl _ | apply Drawn0.step)⟩
          · rw [if_neg c10] at H
            have c10b0 : (a0 == a1) = false := beq_eq_false_iff_ne.mpr c10
            have c10b1 : (a0 != a1) = true := bne_iff_ne.mpr c10
            by_cases c11 : a1 > 400
            · rw [if_pos c11] at H
              have c11b0 : decide (400 < a1) = true := decide_eq_true c11
              clear c11
              have H' := Aside0.mk H
              clear H
              go_wp2_with (first | (go_at_call 13; (with_reducible refine (evenhandedref1_TaskMay.calls a0 a1 true _ A7.out).mono ?_); rintro e w' ⟨rfl, ⟨nd, rfl⟩⟩; (try first | exact ⟨rfl, _, World.drewN_drewN _ _ _⟩ | exact ⟨rfl, _, Eq.trans (World.drewN_drewN _ _ _) (congrArg (World.drewN _) (Nat.add_assoc _ _ _))⟩)))
              repeat (go_quiet (first | (go_at_call 13; (with_reducible refine (evenhandedref1_TaskMay.calls a0 a1 true _ A7.out).mono ?_); rintro e w' ⟨rfl, ⟨nd, rfl⟩⟩; (try first | exact ⟨rfl, _, World.drewN_drewN _ _ _⟩ | exact ⟨rfl, _, Eq.trans (World.drewN_drewN _ _ _) (congrArg (World.drewN _) (Nat.add_assoc _ _ _))⟩))); try go_wp2_with (first | (go_at_call 13; (with_reducible refine (evenhandedref1_TaskMay.calls a0 a1 true _ A7.out).mono ?_); rintro e w' ⟨rfl, ⟨nd, rfl⟩⟩; (try first | exact ⟨rfl, _, World.drewN_drewN _ _ _⟩ | exact ⟨rfl, _, Eq.trans (World.drewN_drewN _ _ _) (congrArg (World.drewN _) (Nat.add_assoc _ _ _))⟩))))
              go_meet
              case rel => exact ⟨_, (true), (by first | rfl | (simp; done) | (simp [*]; done)), H', ⟨by first | omega | exact Nat.le_refl _⟩, by repeat (first | exact Drawn0.refl _ | apply Drawn0.step)⟩
            · rw [if_neg c11] at H
              have c11b0 : decide (400 < a1) = false := decide_eq_false c11
              clear c11
              by_cases c12 : a2 < 1
              · rw [if_pos c12] at H
                have c12b0 : decide (a2 < 1) = true := decide_eq_true c12
                clear c12
                have H' := Aside0.mk H
                clear H
                go_wp2_with (first | (go_at_call 13; (with_reducible refine (evenhandedref1_TaskMay.calls a0 a1 true _ A7.out).mono ?_); rintro e w' ⟨rfl, ⟨nd, rfl⟩⟩; (try first | exact ⟨rfl, _, World.drewN_drewN _ _ _⟩ | exact ⟨rfl, _, Eq.trans (World.drewN_drewN _ _ _) (congrArg (World.drewN _) (Nat.add_assoc _ _ _))⟩)))
                repeat (go_quiet (first | (go_at_call 13; (with_reducible refine (evenhandedref1_TaskMay.calls a0 a1 true _ A7.out).mono ?_); rintro e w' ⟨rfl, ⟨nd, rfl⟩⟩; (try first | exact ⟨rfl, _, World.drewN_drewN _ _ _⟩ | exact ⟨rfl, _, Eq.trans (World.drewN_drewN _ _ _) (congrArg (World.drewN _) (Nat.add_assoc _ _ _))⟩))); try go_wp2_with (first | (go_at_call 13; (with_reducible refine (evenhandedref1_TaskMay.calls a0 a1 true _ A7.out).mono ?_); rintro e w' ⟨rfl, ⟨nd, rfl⟩⟩; (try first | exact ⟨rfl, _, World.drewN_drewN _ _ _⟩ | exact ⟨rfl, _, Eq.trans (World.drewN_drewN _ _ _) (congrArg (World.drewN _) (Nat.add_assoc _ _ _))⟩))))
                go_meet
                case rel => exact ⟨_, (true), (by first | rfl | (simp; done) | (simp [*]; done)), H', ⟨by first | omega | exact Nat.le_refl _⟩, by repeat (first | exact Drawn0.refl _ | apply Drawn0.step)⟩
              · rw [if_neg c12] at H
                have c12b0 : decide (a2 < 1) = false := decide_eq_false c12
                clear c12
                have H' := Aside0.mk H
                clear H
                go_wp2_with (first | (go_at_call 13; (with_reducible refine (evenhandedref1_TaskMay.calls a0 a1 true _ A7.out).mono ?_); rintro e w' ⟨rfl, ⟨nd, rfl⟩⟩; (try first | exact ⟨rfl, _, World.drewN_drewN _ _ _⟩ | exact ⟨rfl, _, Eq.trans (World.drewN_drewN _ _ _) (congrArg (World.drewN _) (Nat.add_assoc _ _ _))⟩)))
                repeat (go_quiet (first | (go_at_call 13; (with_reducible refine (evenhandedref1_TaskMay.calls a0 a1 true _ A7.out).mono ?_); rintro e w' ⟨rfl, ⟨nd, rfl⟩⟩; (try first | exact ⟨rfl, _, World.drewN_drewN _ _ _⟩ | exact ⟨rfl, _, Eq.trans (World.drewN_drewN _ _ _) (congrArg (World.drewN _) (Nat.add_assoc _ _ _))⟩))); try go_wp2_with (first | (go_at_call 13; (with_reducible refine (evenhandedref1_TaskMay.calls a0 a1 true _ A7.out).mono ?_); rintro e w' ⟨rfl, ⟨nd, rfl⟩⟩; (try first | exact ⟨rfl, _, World.drewN_drewN _ _ _⟩ | exact ⟨rfl, _, Eq.trans (World.drewN_drewN _ _ _) (congrArg (World.drewN _) (Nat.add_assoc _ _ _))⟩))))
                go_meet
                case rel => exact ⟨_, (decide (a2 > a0)), (by first | rfl | (simp; done) | (simp [*]; done)), H', ⟨by first | omega | exact Nat.le_refl _⟩, by repeat (first | exact Drawn0.refl _ | apply Drawn0.step)⟩
      · replace c8 := Bool.eq_false_iff.mpr c8
        subst c8
        have H1 : (evenhandedlaw3_WindowGroups.j0 k a0 a1 a2 true) = some r := by rw [if_neg (show ¬ (false = true) by decide)] at H; exact H
        clear H
        have H := H1
        clear H1
        have H' := Aside0.mk H
        clear H
        go_wp2_with (first | (go_at_call 13; (with_reducible refine (evenhandedref1_TaskMay.calls a0 a1 false _ A7.out).mono ?_); rintro e w' ⟨rfl, ⟨nd, rfl⟩⟩; (try first | exact ⟨rfl, _, World.drewN_drewN _ _ _⟩ | exact ⟨rfl, _, Eq.trans (World.drewN_drewN _ _ _) (congrArg (World.drewN _) (Nat.add_assoc _ _ _))⟩)))
        repeat (go_quiet (first | (go_at_call 13; (with_reducible refine (evenhandedref1_TaskMay.calls a0 a1 false _ A7.out).mono ?_); rintro e w' ⟨rfl, ⟨nd, rfl⟩⟩; (try first | exact ⟨rfl, _, World.drewN_drewN _ _ _⟩ | exact ⟨rfl, _, Eq.trans (World.drewN_drewN _ _ _) (congrArg (World.drewN _) (Nat.add_assoc _ _ _))⟩))); try go_wp2_with (first | (go_at_call 13; (with_reducible refine (evenhandedref1_TaskMay.calls a0 a1 false _ A7.out).mono ?_); rintro e w' ⟨rfl, ⟨nd, rfl⟩⟩; (try first | exact ⟨rfl, _, World.drewN_drewN _ _ _⟩ | exact ⟨rfl, _, Eq.trans (World.drewN_drewN _ _ _) (congrArg (World.drewN _) (Nat.add_assoc _ _ _))⟩))))
        go_meet
        case rel => exact ⟨_, (true), (by first | rfl | (simp; done) | (simp [*]; done)), H', ⟨by first | omega | exact Nat.le_refl _⟩, by repeat (first | exact Drawn0.refl _ | apply Drawn0.step)⟩
    case rest =>
      clear HC6
      try clear c1
      try clear p2
      try clear c5
      try clear p6
      try clear c8
      try clear c9
      try clear c9b0
      try clear c10
      try clear c10b0
      try clear c10b1
      try clear c11
      try clear c11b0
      try clear c12
      try clear c12b0
      obtain ⟨kq, x40_5, rfl, HA, HJ5, ⟨mc5, rfl⟩⟩ := hcut
      cases kq with
      | zero => exact absurd HA.out (by simp [evenhandedlaw3_WindowGroups.j0])
      | succ kj5 =>
        have H := HA.out
        clear HA
        simp only [evenhandedlaw3_WindowGroups.j0] at H
        by_cases c13 : x40_5 = true
        · subst c13
          have H1 : (some true) = some r := by rw [if_pos rfl] at H; exact H
          clear H
          have H := H1
          clear H1
          obtain rfl := Option.some.inj H
          go_wp2
          repeat (go_quiet (fail); try go_wp2)
          go_ret
          exact ⟨by first | rfl | (simp; done) | (simp [*]; done), by repeat (first | exact Drawn0.refl _ | apply Drawn0.step)⟩
        · replace c13 := Bool.eq_false_iff.mpr c13
          subst c13
          have H1 : (evenhandedlaw3_WindowGroups.l0 kj5 a0 a1 a2 a2) = some r := by rw [if_neg (show ¬ (false = true) by decide)] at H; exact H
          clear H
          have H := H1
          clear H1
          have H' := Aside0.mk H
          clear H
          go_wp2
          repeat (go_quiet (fail); try go_wp2)
          go_loopg [7] kj5 (fun kq v7 w' => ∃ (x7_2 : Int), v7 = .int .i64 x7_2 ∧ Aside0 (evenhandedlaw3_WindowGroups.l0 kq a0 a1 a2 x7_2 = some r) ∧ Aside0 (kq ≤ kj5) ∧ Drawn0 w w')
          case atStart => exact ⟨(a2), (by first | rfl | (simp; done) | (simp [*]; done)), H', ⟨Nat.le_refl _⟩, by repeat (first | exact Drawn0.refl _ | apply Drawn0.step)⟩
          case round =>
            clear H'
            try clear c1
            try clear p2
            try clear c5
            try clear p6
            try clear c8
            try clear c9
            try clear c9b0
            try clear c10
            try clear c10b0
            try clear c10b1
            try clear c11
            try clear c11b0
            try clear c12
            try clear c12b0
            try clear c13
            try clear p2
            try clear p6
            obtain ⟨x7_2, rfl, HA, HK2, ⟨m2, rfl⟩⟩ := hrel
            cases gk with
            | zero => exact absurd HA.out (by simp [evenhandedlaw3_WindowGroups.l0])
            | succ k2 =>
              have H := HA.out
              clear HA
              simp only [evenhandedlaw3_WindowGroups.l0] at H
              by_cases c14 : a0 = 0
              · rw [if_pos c14] at H
                exact absurd H (by simp)
              · rw [if_neg c14] at H
                have c14b0 : (a0 == 0) = false := beq_eq_false_iff_ne.mpr c14
                have c14b1 : (a0 != 0) = true := bne_iff_ne.mpr c14
                have HC15 := Aside0.mk H
                clear H
                go_upto_region 9 with (fail)
                repeat (go_quiet (fail); go_upto_region 9 with (fail))
                go_cut [72] (fun v72 wc => ∃ (kq : Nat) (x72_14 : Bool), v72 = .bool x72_14 ∧ Aside0 (evenhandedlaw3_WindowGroups.j2 kq a0 a1 a2 x7_2 (wrap64 (Int.tdiv (wrap64 ((wrap64 ((wrap64 (x7_2 * a1)) + a0)) - 1)) a0)) ((Int.tmod (wrap64 (x7_2 * a1)) a0) != 0) x72_14 = some r) ∧ Aside0 (kq ≤ k2) ∧ Drawn0 w wc)
                case first =>
                  have H := HC15.out
                  clear HC15
                  by_cases c16 : (wrap64 ((wrap64 (Int.tdiv (wrap64 ((wrap64 ((wrap64 (x7_2 * a1)) + a0)) - 1)) a0)) - (wrap64 (Int.tdiv (wrap64 ((wrap64 (x7_2 - 1)) * a1)) a0)))) = 3
                  · rw [if_pos c16] at H
                    have c16b0 : ((wrap64 ((wrap64 (Int.tdiv (wrap64 ((wrap64 ((wrap64 (x7_2 * a1)) + a0)) - 1)) a0)) - (wrap64 (Int.tdiv (wrap64 ((wrap64 (x7_2 - 1)) * a1)) a0)))) == 3) = true := beq_iff_eq.mpr c16
                    have c16b1 : ((wrap64 ((wrap64 (Int.tdiv (wrap64 ((wrap64 ((wrap64 (x7_2 * a1)) + a0)) - 1)) a0)) - (wrap64 (Int.tdiv (wrap64 ((wrap64 (x7_2 - 1)) * a1)) a0)))) != 3) = false := bne_eq_false_iff_eq.mpr c16
                    clear c16
                    (first | rw [c16b0] | (simp only [i64_w, i32_w]; rw [c16b0]) | skip)
                    have H' := Aside0.mk H
                    clear H
                    go_wp2
                    repeat (go_quiet (fail); try go_wp2)
                    go_meet
                    case rel => exact ⟨_, (decide (x7_2 > a2)), (by first | rfl | (simp; done) | (simp [*]; done)), H', ⟨by have := HJ5.out; have := HK2.out; first | omega | exact Nat.le_refl _⟩, by repeat (first | exact Drawn0.refl _ | apply Drawn0.step)⟩
                  · rw [if_neg c16] at H
                    have c16b0 : ((wrap64 ((wrap64 (Int.tdiv (wrap64 ((wrap64 ((wrap64 (x7_2 * a1)) + a0)) - 1)) a0)) - (wrap64 (Int.tdiv (wrap64 ((wrap64 (x7_2 - 1)) * a1)) a0)))) == 3) = false := beq_eq_false_iff_ne.mpr c16
                    have c16b1 : ((wrap64 ((wrap64 (Int.tdiv (wrap64 ((wrap64 ((wrap64 (x7_2 * a1)) + a0)) - 1)) a0)) - (wrap64 (Int.tdiv (wrap64 ((wrap64 (x7_2 - 1)) * a1)) a0)))) != 3) = true := bne_iff_ne.mpr c16
                    (first | rw [c16b0] | (simp only [i64_w, i32_w]; rw [c16b0]) | skip)
                    have H' := Aside0.mk H
                    clear H
                    go_wp2
                    repeat (go_quiet (fail); try go_wp2)
                    go_meet
                    case rel => exact ⟨_, (false), (by first | rfl | (simp; done) | (simp [*]; done)), H', ⟨by have := HJ5.out; have := HK2.out; first | omega | exact Nat.le_refl _⟩, by repeat (first | exact Drawn0.refl _ | apply Drawn0.step)⟩
                case rest =>
                  clear HC15
                  try clear c1
                  try clear p2
                  try clear c5
                  try clear p6
                  try clear c8
                  try clear c9
                  try clear c9b0
                  try clear c10
                  try clear c10b0
                  try clear c10b1
                  try clear c11
                  try clear c11b0
                  try clear c12
                  try clear c12b0
                  try clear c13
                  try clear c14
                  try clear c14b0
                  try clear c14b1
                  try clear c16
                  try clear c16b0
                  try clear c16b1
                  try clear p2
                  try clear p6
                  obtain ⟨kq, x72_14, rfl, HA, HJ14, ⟨mc14, rfl⟩⟩ := hcut
                  cases kq with
                  | zero => exact absurd HA.out (by simp [evenhandedlaw3_WindowGroups.j2])
                  | succ kj14 =>
                    have H := HA.out
                    clear HA
                    simp only [evenhandedlaw3_WindowGroups.j2] at H
                    by_cases c17 : x72_14 = true
                    · subst c17
                      have H1 : ((window_Group.f kj14 a0 a1 a2).bind fun t120 => (some (t120 == (wrap64 ((wrap64 (Int.tdiv (wrap64 ((wrap64 ((wrap64 (x7_2 * a1)) + a0)) - 1)) a0)) - 1))))) = some r := by rw [if_pos rfl] at H; exact H
                      clear H
                      have H := H1
                      clear H1
                      replace H := Option.bind_eq_some_iff.mp H
                      obtain ⟨t120, A180, H⟩ := H
                      replace H : (some (t120 == (wrap64 ((wrap64 (Int.tdiv (wrap64 ((wrap64 ((wrap64 (x7_2 * a1)) + a0)) - 1)) a0)) - 1)))) = some r := H
                      have A18 := Aside0.mk A180
                      clear A180
                      obtain rfl := Option.some.inj H
                      go_wp2_with (first | (go_at_call 18; (with_reducible refine (window_Group.calls kj14 a0 a1 a2 t120 _ A18.out).mono ?_); rintro e w' ⟨rfl, ⟨nd, rfl⟩⟩; (try first | exact ⟨rfl, _, World.drewN_drewN _ _ _⟩ | exact ⟨rfl, _, Eq.trans (World.drewN_drewN _ _ _) (congrArg (World.drewN _) (Nat.add_assoc _ _ _))⟩)))
                      repeat (go_quiet (first | (go_at_call 18; (with_reducible refine (window_Group.calls kj14 a0 a1 a2 t120 _ A18.out).mono ?_); rintro e w' ⟨rfl, ⟨nd, rfl⟩⟩; (try first | exact ⟨rfl, _, World.drewN_drewN _ _ _⟩ | exact ⟨rfl, _, Eq.trans (World.drewN_drewN _ _ _) (congrArg (World.drewN _) (Nat.add_assoc _ _ _))⟩))); try go_wp2_with (first | (go_at_call 18; (with_reducible refine (window_Group.calls kj14 a0 a1 a2 t120 _ A18.out).mono ?_); rintro e w' ⟨rfl, ⟨nd, rfl⟩⟩; (try first | exact ⟨rfl, _, World.drewN_drewN _ _ _⟩ | exact ⟨rfl, _, Eq.trans (World.drewN_drewN _ _ _) (congrArg (World.drewN _) (Nat.add_assoc _ _ _))⟩))))
                      go_ret
                      exact ⟨by first | rfl | (simp; done) | (simp [*]; done), by repeat (first | exact Drawn0.refl _ | apply Drawn0.step)⟩
                    · replace c17 := Bool.eq_false_iff.mpr c17
                      subst c17
                      have H1 : (if ((Int.tmod (wrap64 (x7_2 * a1)) a0) != 0) = true then (evenhandedlaw3_WindowGroups.l0 kj14 a0 a1 a2 (wrap64 (x7_2 + 1))) else ((window_Group.f kj14 a0 a1 a2).bind fun t121 => (some (t121 == (wrap64 (Int.tdiv (wrap64 ((wrap64 ((wrap64 (x7_2 * a1)) + a0)) - 1)) a0)))))) = some r := by rw [if_neg (show ¬ (false = true) by decide)] at H; exact H
                      clear H
                      have H := H1
                      clear H1
                      by_cases c19 : ((Int.tmod (wrap64 (x7_2 * a1)) a0) != 0) = true
                      · rw [if_pos c19] at H
                        have c19b0 : ((Int.tmod (wrap64 (x7_2 * a1)) a0) != 0) = true := c19
                        (try (have c19b1 : decide ((Int.tmod (wrap64 (x7_2 * a1)) a0) = 0) = false := by simpa using c19))
                        (try (have c19b2 : ((Int.tmod (wrap64 (x7_2 * a1)) a0) == 0) = false := by simpa using c19))
                        (try (have c19b3 : ¬ ((Int.tmod (wrap64 (x7_2 * a1)) a0) = 0) := by simpa using c19))
                        clear c19
                        have H' := Aside0.mk H
                        clear H
                        go_wp2
                        repeat (go_quiet (fail); try go_wp2)
                        go_roundg kj14
                        case measure => have := HJ5.out; have := HK2.out; have := HJ14.out; omega
                        case rel => exact ⟨(wrap64 (x7_2 + 1)), (by first | rfl | (simp; done) | (simp [*]; done)), H', ⟨by have := HJ5.out; have := HK2.out; have := HJ14.out; omega⟩, by repeat (first | exact Drawn0.refl _ | apply Drawn0.step)⟩
                      · rw [if_neg c19] at H
                        have c19b0 : ((Int.tmod (wrap64 (x7_2 * a1)) a0) != 0) = false := by simpa using c19
                        (try (have c19b1 : decide ((Int.tmod (wrap64 (x7_2 * a1)) a0) = 0) = true := by simpa using c19))
                        (try (have c19b2 : ((Int.tmod (wrap64 (x7_2 * a1)) a0) == 0) = true := by simpa using c19))
                        clear c19
                        replace H := Option.bind_eq_some_iff.mp H
                        obtain ⟨t121, A200, H⟩ := H
                        replace H : (some (t121 == (wrap64 (Int.tdiv (wrap64 ((wrap64 ((wrap64 (x7_2 * a1)) + a0)) - 1)) a0)))) = some r := H
                        have A20 := Aside0.mk A200
                        clear A200
                        obtain rfl := Option.some.inj H
                        go_wp2_with (first | (go_at_call 18; (with_reducible refine (window_Group.calls kj14 a0 a1 a2 t121 _ A20.out).mono ?_); rintro e w' ⟨rfl, ⟨nd, rfl⟩⟩; (try first | exact ⟨rfl, _, World.drewN_drewN _ _ _⟩ | exact ⟨rfl, _, Eq.trans (World.drewN_drewN _ _ _) (congrArg (World.drewN _) (Nat.add_assoc _ _ _))⟩)))
                        repeat (go_quiet (first | (go_at_call 18; (with_reducible refine (window_Group.calls kj14 a0 a1 a2 t121 _ A20.out).mono ?_); rintro e w' ⟨rfl, ⟨nd, rfl⟩⟩; (try first | exact ⟨rfl, _, World.drewN_drewN _ _ _⟩ | exact ⟨rfl, _, Eq.trans (World.drewN_drewN _ _ _) (congrArg (World.drewN _) (Nat.add_assoc _ _ _))⟩))); try go_wp2_with (first | (go_at_call 18; (with_reducible refine (window_Group.calls kj14 a0 a1 a2 t121 _ A20.out).mono ?_); rintro e w' ⟨rfl, ⟨nd, rfl⟩⟩; (try first | exact ⟨rfl, _, World.drewN_drewN _ _ _⟩ | exact ⟨rfl, _, Eq.trans (World.drewN_drewN _ _ _) (congrArg (World.drewN _) (Nat.add_assoc _ _ _))⟩))))
                        go_ret
                        exact ⟨by first | rfl | (simp; done) | (simp [*]; done), by repeat (first | exact Drawn0.refl _ | apply Drawn0.step)⟩
  · replace c5 := Bool.eq_false_iff.mpr c5
    subst c5
    have H1 : (some false) = some r := by rw [if_neg (show ¬ (false = true) by decide)] at H; exact H
    clear H
    have H := H1
    clear H1
    obtain rfl := Option.some.inj H
    go_enter Try.func5, Try.ntmps5
    go_wp2_with (first | (go_at_call 11; (with_reducible refine (evenhandedlaw3_awake.calls k  false _ A4.out).mono ?_); rintro e w' ⟨rfl, ⟨nd, rfl⟩⟩; (try first | exact ⟨rfl, _, World.drewN_drewN _ _ _⟩ | exact ⟨rfl, _, Eq.trans (World.drewN_drewN _ _ _) (congrArg (World.drewN _) (Nat.add_assoc _ _ _))⟩)))
    repeat (go_quiet (first | (go_at_call 11; (with_reducible refine (evenhandedlaw3_awake.calls k  false _ A4.out).mono ?_); rintro e w' ⟨rfl, ⟨nd, rfl⟩⟩; (try first | exact ⟨rfl, _, World.drewN_drewN _ _ _⟩ | exact ⟨rfl, _, Eq.trans (World.drewN_drewN _ _ _) (congrArg (World.drewN _) (Nat.add_assoc _ _ _))⟩))); try go_wp2_with (first | (go_at_call 11; (with_reducible refine (evenhandedlaw3_awake.calls k  false _ A4.out).mono ?_); rintro e w' ⟨rfl, ⟨nd, rfl⟩⟩; (try first | exact ⟨rfl, _, World.drewN_drewN _ _ _⟩ | exact ⟨rfl, _, Eq.trans (World.drewN_drewN _ _ _) (congrArg (World.drewN _) (Nat.add_assoc _ _ _))⟩))))
    go_ret
    exact ⟨by first | rfl | (simp; done) | (simp [*]; done), by repeat (first | exact Drawn0.refl _ | apply Drawn0.step)⟩

/-- THE ONE PURE STATEMENT of evenhandedlaw3_WindowGroups: yours. -/
def evenhandedlaw3_WindowGroups.Pure : Prop := ∀ (a0 : Int) (a1 : Int) (a2 : Int), (Lit.int .i64 a0).wf = true → (Lit.int .i64 a1).wf = true → (Lit.int .i64 a2).wf = true → ∃ k, evenhandedlaw3_WindowGroups.f k a0 a1 a2 = some true
theorem evenhandedlaw3_WindowGroups.walk (P : evenhandedlaw3_WindowGroups.Pure) (a0 : Int) (a1 : Int) (a2 : Int) (w : World) (w0 : (Lit.int .i64 a0).wf = true) (w1 : (Lit.int .i64 a1).wf = true) (w2 : (Lit.int .i64 a2).wf = true) :
    Calls Try.prog 5 #[.int .i64 a0, .int .i64 a1, .int .i64 a2] w fun e w' => e = .returned (.bool true) ∧ Below w.heap.size w w' := by
  obtain ⟨k, h⟩ := P a0 a1 a2 w0 w1 w2
  refine (evenhandedlaw3_WindowGroups.calls k a0 a1 a2 true w h).mono ?_
  rintro e w' ⟨rfl, hd⟩
  exact ⟨rfl, hd.below⟩

end Go.Proofs.Ytnndjjpeaaloiaa.PWindowGroups
